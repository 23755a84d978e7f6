import Derived.Test.YtdaonnnlgfhlaaaGreatDoorGH11
import Derived.MapKept
import Derived.ChangeMaps5
import Derived.Lib.AppendStr
import Derived.Lib.SliceRun
import Derived.Lib.UnsafeStr
import Derived.Laws.IdiomStrings
import Derived.Stop.IfaceNil
set_option linter.all false
namespace Go.Proofs.YtdaonnnlgfhlaaaGreatDoor
open Go.RowKit
section
variable{P:Program}{E:Nat→Nat→Prop}{w w':World}{N:Nat}{T:Nat→AV}{B:Nat→Option AB}{L L':Nat→Option Value}{a:Act}{up:List (Nat × Option AB)}
theorem Zdl(k:Nat):∀(vs:List Value) (s:Nat) (cells:Array Value),(∀v∈vs,v.cells.size=k)→(s+vs.length)*k≤cells.size→
  ∃cells',Instr.fill (fun i=>some (i*k,k)) cells ((List.range' s vs.length).zip vs)=some cells'∧cells'.size=cells.size∧(∀q,q<s*k→cells'[q]?=cells[q]?)∧∀(i:Nat) (v:Value) (j:Nat),vs[i]?=some v→j<k→cells'[(s+i)*k+j]?=v.cells[j]?
 | [],s,cells,_,_=>⟨cells,rfl,rfl,fun _ _=>rfl,fun i v j h=>by simp at h⟩
 | v::vs,s,cells,hv,hs=>by
   have hk:=hv v (by simp)
   simp only [List.length_cons] at hs
   have e1:(s+(vs.length+1))*k=s*k+vs.length*k+k:=by rw [Nat.add_mul,Nat.add_mul,Nat.one_mul];omega
   have e2:(s+1)*k=s*k+k:=by rw [Nat.add_mul,Nat.one_mul]
   have e3:(s+1+vs.length)*k=s*k+vs.length*k+k:=by rw [Nat.add_mul,Nat.add_mul,Nat.one_mul];omega
   have hl:s*k+v.cells.toList.length≤cells.toList.length:=by simp;omega
   have hsz:(splice cells.toList (s*k) v.cells.toList).toArray.size=cells.size:=by simp [Qj hl]
   obtain ⟨cells',h1,h2,h3,h4⟩:=Zdl k vs (s+1) (splice cells.toList (s*k) v.cells.toList).toArray (fun u hu=>hv u (by simp [hu])) (by rw [hsz];omega)
   refine ⟨cells',?_,by rw [h2,hsz],fun q hq=>?_,fun i u j hi hj=>?_⟩
   ·rw [List.length_cons,List.range'_succ,List.zip_cons_cons,ZeB _ cells s v _ rfl hk (by omega)]
    exact h1
   ·rw [h3 q (by omega),List.getElem?_toArray,Yv hl,if_pos hq];simp
   ·cases i with
    | zero=>
      simp at hi
      subst hi
      rw [Nat.add_zero,h3 _ (by omega),List.getElem?_toArray,Yv hl,if_neg (by omega),if_pos (by simp;omega)]
      rw [show s*k+j-s*k=j by omega];simp
    | succ i=>
      have:=h4 i u j (by simpa using hi) hj
      rwa [show s+1+i=s+(i+1) by omega] at this
theorem Zdv:∀{ds:List AV} {es:List (List AV)},ZbC ds=some es→es.length=ds.length∧∀(i:Nat) (d:AV),ds[i]?=some d→∃e,es[i]?=some e∧d.cellsOf=some e
 | [],es,h=>by simp [ZbC] at h;subst h;exact ⟨rfl,fun i d h=>by simp at h⟩
 | d::ds,es,h=>by
   simp only [ZbC] at h
   split at h
   ·rename_i c cs hc hcs
    cases h
    obtain ⟨h1,h2⟩:=Zdv hcs
    refine ⟨by simp [h1],fun i x hi=>?_⟩
    cases i with
    | zero=>simp at hi;subst hi;exact ⟨c,rfl,hc⟩
    | succ i=>simpa using h2 i x (by simpa using hi)
   ·cases h
theorem Zjc(h:BsRel E B L w){o:Nat}:okS E B L w.heap.size o:=⟨h.fresh _ _ (Nat.le_refl _),fun id blk v h1 h2 h3=>absurd ((h.blk id blk h1).g_lt h2 h3) (by omega)⟩
theorem Zc6(h:BsRel E B L w){n:Nat}{ds:List AV}{k:List AV→List Nat→Tr}{x:AV × List (Nat × Option AB) × Nat}(hx:(V4 (res n) ds k).run T B=some x){vs:List Value}(hv:RV (Rep w (okS E B L) L) ds vs):
  ∃ds' fs,(k ds' fs).run T B=some x∧∀ok',FrzOk E B L w fs ok'→RV (RepT w ok') ds' vs:=by
 obtain ⟨ds',fs,h1,h2,h3⟩:=Wv (F:=fun d v=>Rep w (okS E B L) L d v) (G:=fun d' fs v=>∀ok',FrzOk E B L w fs ok'→RepT w ok' d' v) (Qv h n) ds k x hx
 refine ⟨ds',fs,h1,fun ok' hf=>⟨by rw [hv.1,h2],fun i d hi=>?_⟩⟩
 have hlt:=(List.getElem?_eq_some_iff.1 hi).1
 have h4:ds[i]?=some (ds[i]'(by omega)):=List.getElem?_eq_getElem _
 obtain ⟨u,h5,h6⟩:=hv.2 i _ h4
 obtain ⟨fs',h7,h8⟩:=h3 i _ d h4 hi
 exact ⟨u,h5,h8 u h6 ok' (hf.sub h7)⟩
theorem Zfm(h:BsRel E B L w){t:TypeId}{len:Nat}{ix:List Nat}{ds:List AV}{vs:List Value}(hv:RV (Rep w (okS E B L) L) ds vs){nx nx':Nat}{d:AV}(hr:(Zaa P t len ix ds nx).run T B=some (d,up,nx')){parts:Array (Nat × Value)}(hparts:parts.toList=ix.zip vs)(hf:nx'≠nx→L nx=none):
  ∃v w' L',(Instr.buildSlice t len parts).run P w=.ok v w'∧Aft E B L (ZT B up) L' w w'∧Rep w' (okS E (ZT B up) L') L' d v∧∀id,L id=none→L' id≠none→nx≤id∧id<nx':=by
 unfold Zaa at hr
 split at hr
 ·rename_i e g k by_ z hel
  obtain ⟨hu,_,i,zv,hi,hsz,hb,hz,rfl⟩:=Wz hel
  split at hr
  ·rename_i hc
   obtain ⟨hzk,hk,hsmall,rfl,hdl⟩:=hc
   split at hr
   ·rename_i h0
    subst h0
    have hrun:(Instr.buildSlice t 0 parts).run P w=.ok (.slice (some ⟨w.heap.size,0,none⟩) 0 0) (w.alloc (.cells #[] e)):=by
     have hp:parts.toList=[]:=by rw [hparts];rfl
     simp [Instr.buildSlice,run_underlying hu,sizeOf,typeInfo,hi,hp,Instr.fill,newRow,Array.range_zero']
    split at hr
    ·simp only [Tr.run,Option.some.injEq,Prod.mk.injEq] at hr
     obtain ⟨rfl,rfl,rfl⟩:=hr
     exact ⟨_,_,L,hrun,(Step.still (Mod.alloc _ _ _)).aft h,.t (.nil _ _),fun id h1 h2=>absurd h1 h2⟩
    ·simp only [Tr.run,Option.some.injEq,Prod.mk.injEq] at hr
     obtain ⟨rfl,rfl,rfl⟩:=hr
     have hnone:=hf (by omega)
     refine ⟨_,_,_,hrun,Step.aft (Step.fresh hnone (Mod.alloc _ _ _) (fun _=>trivial) (fun hr hrt=>?_) fun g hg=>?_) h,.own (ZH _ _ _),Xt _⟩
     ·exact ⟨_,[],ZH _ _ _,(Row.empty Xp k rfl).base_le (Nat.zero_le _),Nat.le_refl _,fun x hx=>(by cases hx),fun i j x d hi=>(by simp at hi)⟩
     ·cases hg;exact Nat.le_refl _
   ·rename_i h0
    obtain ⟨ds',fs,hr,hres⟩:=Zc6 h hr hv
    have hB1:Aft E B L (ZT B (YY B fs)) L w w:=(Step.frz h fs).aft h
    have hT:=hres _ (FrzOk.of h fs)
    split at hr
    ·rename_i es hes
     have hek:∀el∈es,el.length=k:=by
      split at hr
      ·split at hr
       ·rename_i hok
        unfold Qq at hok
        exact fun el hm=>by
         have:=List.all_eq_true.1 hok el hm
         simp only [Bool.and_eq_true,decide_eq_true_eq] at this
         exact this.1.1
       ·simp [Tr.run] at hr
      ·split at hr
       ·rename_i Wo
        exact fun el hm=>of_decide_eq_true (List.all_eq_true.1 Wo el hm)
       ·simp [Tr.run] at hr
     obtain ⟨hel1,hel2⟩:=Zdv hes
     have hvl:vs.length=len:=by have:=hv.1;omega
     have hd'l:ds'.length=len:=by have:=hT.1;omega
     -- each value's cells
     have hcell:∀(i:Nat) (v:Value),vs[i]?=some v→∃el,es[i]?=some el∧v.cells.size=k∧∀(j:Nat) (x:AV),el[j]?=some x→Rep w (okS E (ZT B (YY B fs)) L) (fun _=>none) x (v.cells.getD j undef):=fun i v hiv=>by
      have hlt:=(List.getElem?_eq_some_iff.1 hiv).1
      have h1:ds'[i]?=some (ds'[i]'(by omega)):=List.getElem?_eq_getElem _
      obtain ⟨u,h2,h3⟩:=hT.2 i _ h1
      rw [hiv] at h2;cases h2
      obtain ⟨el,h4,h5⟩:=hel2 i _ h1
      obtain ⟨h6,h7⟩:=Xm (L:=fun _=>none) h5 (.t h3)
      exact ⟨el,h4,by rw [h6];exact hek el (List.mem_of_getElem? h4),h7⟩
     have hvk:∀v∈vs,v.cells.size=k:=fun v hm=>by
      obtain ⟨i,hiv⟩:=List.mem_iff_getElem?.1 hm
      obtain ⟨_,_,h1,_⟩:=hcell i v hiv
      exact h1
     obtain ⟨cells,h1,h2,_,h4⟩:=Zdl k vs 0 (madeCells zv.cells (len*k)) hvk (by rw [size_madeCells];rw [Nat.zero_add,hvl];exact Nat.le_refl _)
     rw [hvl] at h1
     rw [size_madeCells] at h2
     have hpos:0<len*k:=Nat.mul_pos (Nat.pos_of_ne_zero h0) hk
     have hrun:=run_buildSlice (P:=P) w t e len parts cells i zv hu hi hz (by rw [hsz];omega) (by rw [hsz];omega) (by rw [hsz,hparts];exact h1)
     have hnew:=heap_alloc_new w (.cells cells e)
     have hcl:∀q,(w.alloc (.cells cells e)).cell? ⟨w.heap.size,q,none⟩=cells[q]?:=fun q=>by simp only [World.cell?,hnew];rfl
     have hEl:es.length=len:=by omega
     have each:∀(i j:Nat) (el:List AV) (d:AV),es[i]?=some el→el[j]?=some d→∃u,cells[i*k+j]?=some u∧RepT w (okS E (ZT B (YY B fs)) L) d u:=fun i j el d hi hj=>by
      have hlt:=(List.getElem?_eq_some_iff.1 hi).1
      have h5:vs[i]?=some (vs[i]'(by omega)):=List.getElem?_eq_getElem _
      obtain ⟨el',h6,h7,h8⟩:=hcell i _ h5
      rw [hi] at h6;cases h6
      have hjl:=(List.getElem?_eq_some_iff.1 hj).1
      have hlk:=hek el (List.mem_of_getElem? hi)
      have h9:=h4 i _ j h5 (by omega)
      rw [Nat.zero_add] at h9
      have h10:=h8 j d hj
      have h11:j<(vs[i]'(by omega)).cells.size:=by omega
      rw [Array.getElem?_eq_getElem h11] at h9
      rw [Array.getD_eq_getD_getElem?,Array.getElem?_eq_getElem h11] at h10
      refine ⟨_,h9,?_⟩
      have hx:∀{d:AV} {v:Value},Rep w (okS E (ZT B (YY B fs)) L) (fun _=>none) d v→RepT w (okS E (ZT B (YY B fs)) L) d v:=fun {d v} hh=>by
       induction hh with
       | t h=>exact h
       | agg hn _ ih=>exact .agg hn ih
       | tup hn _ ih=>exact .tup hn ih
       | clo hn _ ih=>exact .clo hn ih
       | own h=>cases h
       | ptr h=>cases h
       | rptr h=>cases h
       | mp h=>cases h
      exact hx h10
     have grow:∀{d:AV} {u:Value},RepT w (okS E (ZT B (YY B fs)) L) d u→RepT (w.alloc (.cells cells e)) (okS E (ZT B (YY B fs)) L) d u:=fun h12=>h12.mono (fun b o v _ hv=>by
      rw [World.cell?_of_block (w:=w) (a:=⟨b,o,none⟩) (Below.heap_alloc w _ b (Jx hv))];exact hv) (fun _ _ _ h _=>h)
     split at hr
     ·split at hr
      ·rename_i hok
       unfold Qq at hok
       have hnu:∀el∈es,AV.allNotU el=true:=fun el hm=>by
        have:=List.all_eq_true.1 hok el hm
        simp only [Bool.and_eq_true,decide_eq_true_eq] at this
        exact this.2
       obtain ⟨hr,_⟩:=Y4 hr
       simp only [Tr.run,Option.some.injEq,Prod.mk.injEq] at hr
       obtain ⟨rfl,rfl,rfl⟩:=hr
       have hnone:=hf (by omega)
       have hst:Step E (ZT B (YY B fs)) L [(nx,some (.row e k es 0))] (Wb L nx (.slice (some ⟨w.heap.size,0,none⟩) len len)) w (w.alloc (.cells cells e)):=by
        refine Step.fresh hnone (Mod.alloc _ _ _) (fun _=>trivial) (fun hr' hrt=>?_) fun g hg=>?_
        ·have hcs:cells.toList.length=es.length*k:=by rw [hEl,Array.length_toList];exact h2
         refine ⟨_,cells.toList,ZH _ _ _,⟨⟨hcs,.inr ⟨w.heap.size,len,_,by rw [hEl],Nat.zero_le _,hnew,Nat.le_of_eq hEl,?_,h2,?_⟩⟩,fun g cur t' p hg hcur x hx=>?_⟩,Nat.zero_le _,hek,fun i j x d hi hj=>?_⟩
         ·have:len≤len*k:=Nat.le_mul_of_pos_right _ hk
          simp only [maxLen];omega
         ·exact List.take_of_length_le (Nat.le_of_eq hcs)
         ·simp only [Value.ownBlock,Option.some.injEq] at hg
          subst hg
          rw [hnew] at hcur
          cases hcur
          obtain ⟨q,hq,rfl⟩:=Array.mem_iff_getElem.1 hx
          have hqk:q / k<es.length:=by rw [hEl];exact Nat.div_lt_of_lt_mul (by rw [Nat.mul_comm];omega)
          have hqm:q % k<k:=Nat.mod_lt _ hk
          have hq0:q / k*k+q % k=q:=by rw [Nat.mul_comm];exact Nat.div_add_mod q k
          have hi:es[q / k]?=some (es[q / k]'hqk):=List.getElem?_eq_getElem _
          have hm:=List.getElem_mem hqk
          have hj:(es[q / k]'hqk)[q % k]?=some ((es[q / k]'hqk)[q % k]'(by rw [hek _ hm];exact hqm)):=List.getElem?_eq_getElem _
          obtain ⟨u,hu1,hu2⟩:=each _ _ _ _ hi hj
          rw [hq0,Array.getElem?_eq_getElem hq] at hu1
          cases hu1
          exact ((Rep.t hu2:Rep w _ (fun _=>none) _ _).notU (AV.allNotU_get (hnu _ hm) hj)).1
         ·obtain ⟨u,hu1,hu2⟩:=each i j x d hi hj
          exact ⟨u,by rw [Array.getElem?_toList];exact hu1,hrt _ _ hu2⟩
        ·cases hg
         exact Nat.le_refl _
       have haft:=hB1.trans (hst.aft hB1.bs)
       rw [XL] at haft
       refine ⟨_,_,_,hrun,haft,?_,Xt _⟩
       have:=Rep.own (w:=w.alloc (.cells cells e)) (ok:=okS E (ZT B ([(nx,some (.row e k es 0))]++YY B fs)) (Wb L nx (.slice (some ⟨w.heap.size,0,none⟩) len len))) (ZH L nx (.slice (some ⟨w.heap.size,0,none⟩) len len))
       exact this
      ·simp [Tr.run] at hr
     ·split at hr
      ·obtain ⟨hr,_⟩:=Y4 hr
       simp only [Tr.run,Option.some.injEq,Prod.mk.injEq] at hr
       obtain ⟨rfl,rfl,rfl⟩:=hr
       refine ⟨_,_,L,hrun,hB1.trans ((Step.still (Mod.alloc _ _ _)).aft hB1.bs),?_,fun id h1 h2=>absurd h1 h2⟩
       have main:RepT (w.alloc (.cells cells e)) (okS E (ZT B (YY B fs)) L) (.sl k es) (.slice (some ⟨w.heap.size,0,none⟩) es.length len):=by
        refine .sl hek (Nat.le_of_eq hEl) (fun i j el d hi hj=>?_) (fun i j el d hi hj=>?_)
        ·obtain ⟨u,h5,_⟩:=each i j el d hi hj
         refine ⟨Zjc hB1.bs,?_⟩
         rw [Nat.zero_add,hcl,h5];rfl
        ·obtain ⟨u,h5,h6⟩:=each i j el d hi hj
         rw [Nat.zero_add,hcl,h5]
         exact grow h6
       rw [hEl] at main
       exact .t main
      ·simp [Tr.run] at hr
    ·simp [Tr.run] at hr
  ·simp [Tr.run] at hr
 ·simp [Tr.run] at hr
end
section
variable{P:Program}{E:Nat→Nat→Prop}{w w':World}{N:Nat}{T:Nat→AV}{B:Nat→Option AB}{L L':Nat→Option Value}{a:Act}{up:List (Nat × Option AB)}{ok:Nat→Nat→Prop}
theorem Zbl{d:AV}{z:Int}{v:Value}(h1:idx d=some z)(h2:Rep w ok L d v):∃k,v=.int k z:=by
 unfold idx at h1
 split at h1
 ·cases h1
  cases h2 with
  | t h2=>cases h2;exact ⟨_,rfl⟩
 ·cases h1
theorem ZY{u v:Value}(h:Rep w ok L (.lit u) v):v=u:=by
 cases h with
 | t h=>cases h;rfl
inductive Kr (R:AV→Value→Prop):Option AV→Option Value→Prop
 | none:Kr R none none
 | some {d:AV} {v:Value} (h:R d v):Kr R (some d) (some v)
theorem ZcR{lo hi:Option AV}{lv hv:Option Value}(h1:Kr (Rep w ok L) lo lv)(h2:Kr (Rep w ok L) hi hv){l h:Int}{len cap:Nat}(hl:Zd0 lo 0=some l)(hh:Zd0 hi len=some h)(h0:0≤l)(h3:l≤h)(h4:h≤len)(hc:len≤cap)(b:Bool):
  (Instr.sliceBounds b len cap lv hv none).run P w=.ok (l.toNat,h.toNat,cap) w:=by
 have hb:∀(k:IntKind) (z:Int) (y:Nat) (c:BoundsCode),0≤z→z≤y→(Instr.sliceBound (.int k z) y c).run P w=.ok z.toNat w:=fun k z y c h5 h6=>by
  simp [Instr.sliceBound,asIntOf,h5,h6]
 cases h1 with
 | none=>
   simp only [Zd0,Option.some.injEq] at hl
   cases h2 with
   | none=>
     simp only [Zd0,Option.some.injEq] at hh
     subst hl hh
     simp [Instr.sliceBounds]
   | some hr=>
     obtain ⟨k,rfl⟩:=Zbl hh hr
     subst hl
     simp [Instr.sliceBounds,hb k h cap _ (by omega) (by omega)]
 | some hq=>
   obtain ⟨k',rfl⟩:=Zbl hl hq
   cases h2 with
   | none=>
     simp only [Zd0,Option.some.injEq] at hh
     subst hh
     simp [Instr.sliceBounds,hb k' l len _ (by omega) (by omega)]
   | some hr=>
     obtain ⟨k,rfl⟩:=Zbl hh hr
     have e:((h.toNat:Nat):Int)=h:=Int.toNat_of_nonneg (by omega)
     simp [Instr.sliceBounds,hb k h cap _ (by omega) (by omega),hb k' l h.toNat _ (by omega) (by omega)]
theorem Zbv{t:TypeId}(h:Zcm P t=true):P.underlying t=some .string:=by
 unfold Zcm at h
 split at h
 ·assumption
 ·cases h
theorem Zus{k:Nat}{es:List (List AV)}{v:Value}(hv:RepT w ok (.sl k es) v){l h:Nat}(h1:l≤h)(h2:h≤es.length):
  ∃ad c,v=.slice ad es.length c∧es.length≤c+es.length∧∀m,h≤m→RepT w ok (.sl k ((es.take h).drop l)) (.slice (if m=l then ad else ad.map (·.add (l*k))) (h-l) (m-l)):=by
 have hlen:((es.take h).drop l).length=h-l:=by simp;omega
 cases hv with
 | nil a c=>
   refine ⟨a,c,rfl,by simp,fun m hm=>?_⟩
   have h0:h=0:=by simpa using h2
   subst h0
   obtain rfl:l=0:=by omega
   exact .nil _ _
 | sl hk hc hm hh=>
   rename_i b o c
   refine ⟨_,c,rfl,by omega,fun m hm'=>?_⟩
   by_cases e:m=l
   ·have:h=l:=by omega
    subst this
    have h0:(es.take h).drop h=[]:=List.eq_nil_of_length_eq_zero (by omega)
    rw [h0,if_pos e,Nat.sub_self]
    exact .nil _ _
   ·rw [if_neg e]
    have e1:(Option.map (fun x:Addr=>x.add (l*k)) (some (⟨b,o,none⟩:Addr)))=some ⟨b,o+l*k,none⟩:=by rw [Option.map_some,YN]
    rw [e1,←hlen]
    have key:∀(i:Nat) (el:List AV),((es.take h).drop l)[i]?=some el→es[l+i]?=some el:=fun i el hi=>by
     rw [List.getElem?_drop,List.getElem?_take] at hi
     split at hi
     ·exact hi
     ·cases hi
    have ad:∀i j,o+l*k+i*k+j=o+(l+i)*k+j:=fun i j=>by rw [Nat.add_mul];omega
    refine .sl (fun el hm=>hk el (List.mem_of_mem_take (List.mem_of_mem_drop hm))) (by rw [hlen];omega) (fun i j el d hi hj=>?_) (fun i j el d hi hj=>?_)
    ·rw [ad];exact hm _ j el d (key i el hi) hj
    ·rw [ad];exact hh _ j el d (key i el hi) hj
theorem Zqx(h:BsRel E B L w){t:TypeId}{x d:AV}{xv:Value}(hx:Rep w (okS E B L) L x xv){lo hi:Option AV}{lv hv:Option Value}(h1:Kr (Rep w (okS E B L) L) lo lv)(h2:Kr (Rep w (okS E B L) L) hi hv){nx nx':Nat}(hr:(slT P t x lo hi nx).run T B=some (d,up,nx')):
  nx'=nx∧∃v,(Instr.sliceAt t xv lv hv none).run P w=.ok v w∧Aft E B L (ZT B up) L w w∧Rep w (okS E (ZT B up) L) L d v:=by
 unfold slT at hr
 split at hr
 ·rename_i s
  split at hr
  ·rename_i ht
   have hu:=Zbv ht
   split at hr
   ·rename_i l hh hl hhh
    split at hr
    ·rename_i hc
     obtain ⟨h3,h4,h5⟩:=hc
     simp only [Tr.run,Option.some.injEq,Prod.mk.injEq] at hr
     obtain ⟨rfl,rfl,rfl⟩:=hr
     obtain rfl:=ZY hx
     refine ⟨rfl,_,?_,Aft.refl h,.t (.lit _)⟩
     have hb:=ZcR (P:=P) h1 h2 hl hhh h3 h4 h5 (Nat.le_refl _) false
     simp [Instr.sliceAt,run_underlying hu,Instr.slice,hb]
    ·simp [Tr.run] at hr
   ·simp [Tr.run] at hr
  ·simp [Tr.run] at hr
 ·split at hr
  ·rename_i e g k by_ z hel
   obtain ⟨hu,hg,_⟩:=Wz hel
   obtain ⟨d',fs,hr,hres⟩:=Qv h 1 x _ _ hr
   split at hr
   ·rename_i es hes
    split at hr
    ·rename_i l hh hl hhh
     split at hr
     ·rename_i hc
      obtain ⟨h3,h4,h5⟩:=hc
      obtain ⟨hr,_⟩:=Y4 hr
      simp only [Tr.run,Option.some.injEq,Prod.mk.injEq] at hr
      obtain ⟨rfl,rfl,rfl⟩:=hr
      have hB1:Aft E B L (ZT B (YY B fs)) L w w:=(Step.frz h fs).aft h
      have hT:=hres xv hx _ (FrzOk.of h fs)
      have hT2:RepT w (okS E (ZT B (YY B fs)) L) (.sl k es) xv:=by
       unfold Zxd at hes
       split at hes
       ·split at hes
        ·rename_i hk;subst hk;cases hes;exact hT
        ·cases hes
       ·cases hes
        cases hT
        exact .nil _ _
       ·cases hes
        cases hT
        exact .nil _ _
       ·cases hes
      have hcap:∃ad c,xv=.slice ad es.length c∧es.length≤c:=by
       cases hT2 with
       | nil a c=>exact ⟨a,c,rfl,Nat.zero_le _⟩
       | sl _ hc _ _=>exact ⟨_,_,rfl,hc⟩
      obtain ⟨ad,c,rfl,hcc⟩:=hcap
      obtain ⟨ad',c',he,_,hpart⟩:=Zus hT2 (l:=l.toNat) (h:=hh.toNat) (by omega) (by omega)
      cases he
      refine ⟨rfl,_,?_,hB1,.t (hpart c (by omega))⟩
      have hb:=ZcR (P:=P) h1 h2 hl hhh h3 h4 h5 hcc true
      have hsz:=QJ (w:=w) hg
      simp [Instr.sliceAt,run_underlying hu,Instr.slice,hb,hsz]
     ·simp [Tr.run] at hr
    ·simp [Tr.run] at hr
   ·simp [Tr.run] at hr
  ·simp [Tr.run] at hr
theorem Zqa(h:BsRel E B L w){t:TypeId}{x i d:AV}{xv iv:Value}(hx:Rep w (okS E B L) L x xv)(hi:Rep w (okS E B L) L i iv){nx nx':Nat}(hr:(ixT P t x i nx).run T B=some (d,up,nx')):
  up=[]∧nx'=nx∧∃v,(Instr.indexAt t xv iv).run P w=.ok v w∧Rep w (okS E B L) L d v:=by
 unfold ixT at hr
 split at hr
 ·rename_i z hz
  obtain ⟨kk,rfl⟩:=Zbl hz hi
  split at hr
  ·rename_i h0
   split at hr
   ·rename_i e g k by_ zz hel
    obtain ⟨hu,hg,_⟩:=Wz hel
    have hrun:∀(A:Addr) (len cap:Nat),z<len→(Instr.indexAt t (.slice (some A) len cap) (.int kk z)).run P w=.ok (.pointer (some (A.add (z.toNat*k)))) w:=fun A len cap hlt=>by
     simp [Instr.indexAt,asIntOf,run_underlying hu,QJ hg,h0,hlt]
    split at hr
    ·rename_i k' es
     split at hr
     ·rename_i hk
      subst hk
      split at hr
      ·rename_i el hel'
       simp only [Tr.run,Option.some.injEq,Prod.mk.injEq] at hr
       obtain ⟨rfl,rfl,rfl⟩:=hr
       have hlt:=(List.getElem?_eq_some_iff.1 hel').1
       have hT:=hx.toT rfl
       cases hT with
       | nil a c=>simp at hlt
       | sl hk hc hm hh=>
         rename_i b o c
         refine ⟨rfl,rfl,_,hrun _ _ _ (by omega),.t ?_⟩
         rw [YN]
         exact .mem (fun j d hj=>hm _ j el d hel' hj) (fun j d hj=>hh _ j el d hel' hj)
      ·simp [Tr.run] at hr
     ·simp [Tr.run] at hr
    ·rename_i b n
     simp only [Tr.run] at hr
     split at hr
     ·rename_i y hy
      split at hr
      ·rename_i e' k' es fz
       split at hr
       ·rename_i hc
        obtain ⟨rfl,rfl,hlt⟩:=hc
        simp only [Tr.run,Option.some.injEq,Prod.mk.injEq] at hr
        obtain ⟨rfl,rfl,rfl⟩:=hr
        obtain ⟨ad,c,rfl,hL⟩:=hx.own_inv
        obtain ⟨v0,xs,h1,hrow,_⟩:=h.blk b _ hy
        rw [hL] at h1;cases h1
        rcases hrow.own.2 with ⟨_,h6⟩|⟨g0,cap,cur,h6,_⟩
        ·omega
        ·cases h6
         refine ⟨rfl,rfl,_,hrun _ _ _ (by omega),?_⟩
         rw [YN,Nat.zero_add]
         exact .rptr hL
       ·simp [Tr.run] at hr
      ·simp [Tr.run] at hr
     ·cases hr
    ·simp [Tr.run] at hr
   ·split at hr
    ·rename_i n g k har
     obtain ⟨e,hu,hg⟩:=JM har
     split at hr
     ·rename_i cs
      split at hr
      ·rename_i hlt
       simp only [Tr.run,Option.some.injEq,Prod.mk.injEq] at hr
       obtain ⟨rfl,rfl,rfl⟩:=hr
       have hT:=hx.toT rfl
       cases hT with
       | mem hm hh=>
         rename_i b o
         refine ⟨rfl,rfl,.pointer (some ((⟨b,o,none⟩:Addr).add (z.toNat*k))),?_,.t ?_⟩
         ·simp [Instr.indexAt,asIntOf,run_underlying hu,Instr.sureAddr,QJ hg,h0,hlt.1]
         ·rw [YN]
          refine .mem (fun j d hj=>?_) (fun j d hj=>?_)
          ·rw [List.getElem?_drop] at hj
           have:=hm _ d hj
           rwa [←Nat.add_assoc] at this
          ·rw [List.getElem?_drop] at hj
           have:=hh _ d hj
           rwa [←Nat.add_assoc] at this
      ·simp [Tr.run] at hr
     ·rename_i b o
      split at hr
      ·rename_i hlt
       simp only [Tr.run,Option.some.injEq,Prod.mk.injEq] at hr
       obtain ⟨rfl,rfl,rfl⟩:=hr
       obtain ⟨g0,rfl,hL⟩:∃g,xv=.pointer (some ⟨g,o,none⟩)∧L b=some (.pointer (some ⟨g,0,none⟩)):=by
        cases hx with
        | t h=>cases h
        | ptr h=>exact ⟨_,rfl,h⟩
       refine ⟨rfl,rfl,.pointer (some ((⟨g0,o,none⟩:Addr).add (z.toNat*k))),?_,?_⟩
       ·simp [Instr.indexAt,asIntOf,run_underlying hu,Instr.sureAddr,QJ hg,h0,hlt.1]
       ·rw [YN];exact .ptr hL
      ·simp [Tr.run] at hr
     ·simp [Tr.run] at hr
    ·simp [Tr.run] at hr
  ·simp [Tr.run] at hr
 ·simp [Tr.run] at hr
theorem ZfZ{cs:List AV}{v:Value}(h:Rep w ok L (.agg cs) v):∃vs,v=.agg vs∧vs.size=cs.length∧∀(i:Nat) (d:AV),cs[i]?=some d→Rep w ok L d (vs.getD i undef):=by
 cases h with
 | t h=>cases h with|agg h1 h2=>exact ⟨_,rfl,h1,fun i d hi=>.t (h2 i d hi)⟩
 | agg h1 h2=>exact ⟨_,rfl,h1,h2⟩
theorem Zkf{cs:List AV}{v:Value}(h:Rep w ok L (.tup cs) v):∃vs,v=.tuple vs∧vs.size=cs.length∧∀(i:Nat) (d:AV),cs[i]?=some d→Rep w ok L d (vs.getD i undef):=by
 cases h with
 | t h=>cases h with|tup h1 h2=>exact ⟨_,rfl,h1,fun i d hi=>.t (h2 i d hi)⟩
 | tup h1 h2=>exact ⟨_,rfl,h1,h2⟩
theorem Zhc{vs:Array Value}{i:Nat}(h:i<vs.size):vs[i]?=some (vs.getD i undef):=by
 rw [Array.getD_eq_getD_getElem?,Array.getElem?_eq_getElem h];rfl
theorem Zdm{cs:List AV}{vs:Array Value}(h1:vs.size=cs.length)(h2:∀(i:Nat) (d:AV),cs[i]?=some d→Rep w ok L d (vs.getD i undef)){t:TypeId}{g:Bool}{n off:Nat}(ht:QO P t=some (g,n)){d:AV}(hd:ZbD g n (cs.drop off)=some d):
  ∃v,(part t vs off).run P w=.ok v w∧Rep w ok L d v:=by
 cases g with
 | true=>
   simp only [ZbD,if_true] at hd
   split at hd
   ·rename_i hn
    cases hd
    simp only [List.length_drop] at hn
    refine ⟨.agg (vs.extract off (off+n)),by simp [part,ZbY ht,QJ ht],.agg (by simp;omega) fun i d hi=>?_⟩
    rw [List.getElem?_take] at hi
    split at hi
    ·rename_i hin
     rw [List.getElem?_drop] at hi
     have hlt:=(List.getElem?_eq_some_iff.1 hi).1
     have:=h2 _ d hi
     have e:(vs.extract off (off+n)).getD i undef=vs.getD (off+i) undef:=by
      rw [Array.getD_eq_getD_getElem?,Array.getD_eq_getD_getElem?,Array.getElem?_extract]
      rw [if_pos (by omega)]
     rw [e];exact this
    ·cases hi
   ·cases hd
 | false=>
   simp only [ZbD,Bool.false_eq_true,if_false,List.head?_eq_getElem?,List.getElem?_drop,Nat.add_zero] at hd
   have hlt:=(List.getElem?_eq_some_iff.1 hd).1
   exact ⟨vs.getD off undef,by simp only [part,Sem.run_bind,ZbY ht,Result.andThen_ok,Bool.false_eq_true,if_false,Zhc (show off<vs.size by omega),Sem.run_pure],h2 _ d hd⟩
theorem Zb6{s:TypeId}{f off n:Nat}{g:Bool}(h:Xh P s f=some (off,g,n)):∃fs x,P.underlying s=some (.struct fs)∧fs[f]?=some x∧x.offset=off∧QO P x.type=some (g,n):=by
 unfold Xh at h
 split at h
 ·rename_i fs hu
  split at h
  ·rename_i x hx
   split at h
   ·rename_i g' n' hg
    simp only [Option.some.injEq,Prod.mk.injEq] at h
    obtain ⟨rfl,rfl,rfl⟩:=h
    exact ⟨fs,x,hu,hx,rfl,hg⟩
   ·cases h
  ·cases h
 ·cases h
theorem ZgB{s:TypeId}{f off n:Nat}{g:Bool}(hf:Xh P s f=some (off,g,n)){cs:List AV}{xv:Value}(hx:Rep w ok L (.agg cs) xv){d:AV}(hd:ZbD g n (cs.drop off)=some d):∃v,(Instr.field s xv f).run P w=.ok v w∧Rep w ok L d v:=by
 obtain ⟨fs,x,hu,hfx,rfl,hg⟩:=Zb6 hf
 obtain ⟨vs,rfl,h1,h2⟩:=ZfZ hx
 obtain ⟨v,h3,h4⟩:=Zdm (P:=P) h1 h2 hg hd
 exact ⟨v,by simp [Instr.field,run_underlying hu,hfx,asAgg,h3],h4⟩
theorem ZmG{t:TypeId}{x i d:AV}{xv iv:Value}(hx:Rep w ok L x xv)(hi:Rep w ok L i iv){nx nx':Nat}(hr:(ixV P t x i nx).run T B=some (d,up,nx')):
  up=[]∧nx'=nx∧∃v,(Instr.index t xv iv).run P w=.ok v w∧Rep w ok L d v:=by
 unfold ixV at hr
 split at hr
 ·rename_i z hz
  obtain ⟨kk,rfl⟩:=Zbl hz hi
  split at hr
  ·rename_i h0
   split at hr
   ·rename_i cs
    split at hr
    ·rename_i n g k har
     split at hr
     ·rename_i hc
      obtain ⟨h1,h2,h3⟩:=hc
      obtain ⟨h4,rfl,rfl⟩:=QT hr
      obtain ⟨e,hu,hg⟩:=JM har
      obtain ⟨vs,rfl,h5,h6⟩:=ZfZ hx
      obtain ⟨v,h7,h8⟩:=Zdm (P:=P) h5 h6 hg h4
      exact ⟨rfl,rfl,v,by simp [Instr.index,asIntOf,run_underlying hu,QJ hg,h0,h1,h7],h8⟩
     ·simp [Tr.run] at hr
    ·simp [Tr.run] at hr
   ·rename_i s
    split at hr
    ·rename_i ht
     split at hr
     ·rename_i b hb
      simp only [Tr.run,Option.some.injEq,Prod.mk.injEq] at hr
      obtain ⟨rfl,rfl,rfl⟩:=hr
      obtain rfl:=ZY hx
      refine ⟨rfl,rfl,_,?_,.t (.lit _)⟩
      simp [Instr.index,asIntOf,run_underlying (Zbv ht),h0,hb]
     ·simp [Tr.run] at hr
    ·simp [Tr.run] at hr
   ·simp [Tr.run] at hr
  ·simp [Tr.run] at hr
 ·simp [Tr.run] at hr
theorem Zd6{s:TypeId}{f off n:Nat}{g:Bool}(hf:Xh P s f=some (off,g,n))(hn:n≠0){x d:AV}{xv:Value}(hx:Rep w ok L x xv)(hd:Zfp x off=some d):∃v,(Instr.fieldAt s xv f).run P w=.ok v w∧Rep w ok L d v:=by
 obtain ⟨fs,y,hu,hfx,rfl,hg⟩:=Zb6 hf
 have hrun:∀b o,(Instr.fieldAt s (.pointer (some ⟨b,o,none⟩)) f).run P w=.ok (.pointer (some ⟨b,o+y.offset,none⟩)) w:=fun b o=>by
  simp [Instr.fieldAt,run_underlying hu,hfx,Instr.sureAddr,fieldPlace,QJ hg,hn,YN]
 unfold Zfp at hd
 split at hd
 ·cases hd
  cases hx with
  | t hx=>cases hx
  | ptr hL=>exact ⟨_,hrun _ _,.ptr hL⟩
 ·cases hd
  cases hx with
  | t hx=>cases hx
  | rptr hL=>exact ⟨_,hrun _ _,by rw [Nat.add_assoc];exact .rptr hL⟩
 ·cases hd
  obtain ⟨b,o,rfl,h4⟩:=(Ky hx).mem_inv
  refine ⟨_,hrun _ _,.t (.mem (fun j d hj=>?_) (fun j d hj=>?_))⟩
  ·rw [List.getElem?_drop] at hj
   obtain ⟨h5,u,h6,_⟩:=h4 _ d hj
   rw [Nat.add_assoc]
   exact ⟨h5,by rw [h6];rfl⟩
  ·rw [List.getElem?_drop] at hj
   obtain ⟨h5,u,h6,h7⟩:=h4 _ d hj
   rw [Nat.add_assoc,h6]
   exact h7
 ·cases hd
theorem ZkC{t:TypeId}{d:AV}{n:Nat}(h:Zd9 P t d=some n){v:Value}(hv:Rep w ok L d v)(ty:TypeId):(Builtin.len_ #[t] ty #[v]).run P w=.ok (.int .i64 n) w:=by
 have sl:∀(a:Option Addr) (m c:Nat),(Wn P t).isSome=true→(Builtin.len_ #[t] ty #[.slice a m c]).run P w=.ok (.int .i64 m) w:=fun a m c he=>by
  obtain ⟨⟨e,g,k,b,z⟩,hel⟩:=Option.isSome_iff_exists.1 he
  obtain ⟨hu,_⟩:=Wz hel
  simp [Builtin.len_,run_underlying hu,goInt]
 unfold Zd9 at h
 split at h
 ·split at h
  ·rename_i ht
   cases h
   obtain rfl:=ZY hv
   simp [Builtin.len_,run_underlying (Zbv ht),goInt]
  ·cases h
 ·split at h
  ·rename_i he
   cases h
   have hT:=hv.toT rfl
   cases hT with
   | nil a c=>exact sl _ _ _ he
   | sl _ _ _ _=>exact sl _ _ _ he
  ·cases h
 ·split at h
  ·rename_i he
   cases h
   obtain ⟨a,c,rfl,_⟩:=hv.own_inv
   exact sl _ _ _ he
  ·cases h
 ·split at h
  ·rename_i he
   cases h
   have hT:=hv.toT rfl
   cases hT
   exact sl _ _ _ he
  ·cases h
 ·split at h
  ·rename_i he
   cases h
   obtain rfl:=ZY hv
   exact sl _ _ _ he
  ·cases h
 ·cases h
theorem ZhY{src dst:TypeId}{x d:AV}{v:Value}(hx:Rep w ok L x v){nx nx':Nat}(hr:(Zki P src dst x nx).run T B=some (d,up,nx')):up=[]∧nx'=nx∧∃u,(convert src dst v).run P w=.ok u w∧Rep w ok L d u:=by
 unfold Zki at hr
 split at hr
 ·rename_i ts k kk n hs hd
  simp only [Tr.run,Option.some.injEq,Prod.mk.injEq] at hr
  obtain ⟨rfl,rfl,rfl⟩:=hr
  obtain rfl:=ZY hx
  have hu:P.underlying dst=some (.int k):=by
   unfold Zxz at hd
   split at hd
   ·cases hd;assumption
   ·cases hd
  exact ⟨rfl,rfl,_,by simp [convert,run_underlying hs,run_underlying hu,Conv.intToInt],.t (.lit _)⟩
 ·simp [Tr.run] at hr
theorem ZaH{mx:Bool}{d:AV}{ds:List AV}(h:ZcY mx ds=some d){vs:List Value}(hv:RV (Rep w ok L) ds vs)(ts:Array TypeId)(ty:TypeId):∃v,((if mx then Builtin.max_ ts ty vs.toArray else Builtin.min_ ts ty vs.toArray)).run P w=.ok v w∧Rep w ok L d v:=by
 unfold ZcY at h
 split at h
 ·rename_i k x k' y
  cases h
  obtain ⟨h1,h2⟩:=hv
  match vs,h1 with
  | [u,u'],_=>
    obtain ⟨u1,h3,h4⟩:=h2 0 _ rfl
    obtain ⟨u2,h5,h6⟩:=h2 1 _ rfl
    simp at h3 h5
    subst h3 h5
    obtain rfl:=ZY h4
    obtain rfl:=ZY h6
    cases mx
    ·exact ⟨_,by simp [Builtin.min_,Builtin.min2],.t (.lit _)⟩
    ·exact ⟨_,by simp [Builtin.max_,Builtin.max2],.t (.lit _)⟩
 ·cases h
end
section
open Go.ChangeMaps
section
variable{P:Program}{E:Nat→Nat→Prop}{w w':World}{N:Nat}{T:Nat→AV}{B:Nat→Option AB}{L L':Nat→Option Value}{a:Act}{up:List (Nat × Option AB)}
def Zhd(e:MapEntry):Value × Value:=(e.key,e.val)
def Zgt(p:ByteArray × Value):Value × Value:=(.string p.1,p.2)
theorem WF{k:TypeId}(hk:P.underlying k=some .string)(s:ByteArray)(b:Bool):(Instr.checkKey b 10000 k (.string s)).run P w=.ok () w:=by
 rw [show (10000:Nat)=9999+1 from rfl,Instr.checkKey]
 simp [run_underlying hk]
theorem Zin{s:ByteArray}:∀(l:List MapEntry) (es:List (ByteArray × Value)) (i:Nat),l.map Zhd=es.map Zgt→
  (Wr s es=none→Instr.findNow .string (.string s) l i=some none∧∀u,Zbw s u es=es++[(s,u)])∧
  (∀v,Wr s es=some v→∃j e,Instr.findNow .string (.string s) l i=some (some (i+j,v))∧l[j]?=some e∧e.key=.string s∧∀u,(l.modify j fun e=>{e with key:=.string s,val:=u}).map Zhd=(Zbw s u es).map Zgt)
 | [],[],i,_=>⟨fun _=>⟨rfl,fun _=>rfl⟩,fun v h=>by cases h⟩
 | [],_::_,i,h=>by simp at h
 | _::_,[],i,h=>by simp at h
 | e::l,(k,x)::es,i,h=>by
   simp only [List.map_cons,List.cons.injEq,Zhd,Zgt,Prod.mk.injEq] at h
   obtain ⟨⟨hk,hv⟩,h⟩:=h
   obtain ⟨ih1,ih2⟩:=Zin (s:=s) l es (i+1) h
   have hn:Instr.sameNow .string (.string s) e.key=some (s==k):=by rw [hk];rfl
   by_cases c:(s==k)=true
   ·have e1:s=k:=(MapKept.bytes_beq s k).1 c
    refine ⟨fun h0=>(by rw [Wr,if_pos c] at h0;cases h0),fun v h0=>?_⟩
    rw [Wr,if_pos c] at h0
    cases h0
    refine ⟨0,e,?_,rfl,by rw [hk,e1],fun u=>?_⟩
    ·rw [Instr.findNow,hn,c,hv];rfl
    ·rw [Zbw,if_pos c]
     simp only [List.modify_zero_cons,List.map_cons,Zhd,Zgt]
     rw [←h]
   ·have c':=Bool.eq_false_iff.2 c
    refine ⟨fun h0=>?_,fun v h0=>?_⟩
    ·rw [Wr,if_neg c] at h0
     obtain ⟨a,b⟩:=ih1 h0
     refine ⟨by rw [Instr.findNow,hn,c'];exact a,fun u=>by rw [Zbw,if_neg c,b];rfl⟩
    ·rw [Wr,if_neg c] at h0
     obtain ⟨j,e',a,b,d,f⟩:=ih2 v h0
     refine ⟨j+1,e',?_,by simpa using b,d,fun u=>?_⟩
     ·rw [Instr.findNow,hn,c',show i+(j+1)=i+1+j from by omega];exact a
     ·rw [Zbw,if_neg c]
      simp only [List.modify_succ_cons,List.map_cons]
      rw [f u]
      simp only [Zhd,Zgt,hk,hv]
theorem Js{k:TypeId}(hk:P.underlying k=some .string){s:ByteArray}{l:List MapEntry}{r:Option (Nat × Value)}(h:Instr.findNow .string (.string s) l 0=some r):(Instr.findKey k (.string s) l).run P w=.ok r w:=by
 simp [Instr.findKey,run_underlying hk,h]
theorem ZlQ{t k e:TypeId}(ht:P.underlying t=some (.map k e))(hk:P.underlying k=some .string){g c:Nat}{ents:Array MapEntry}{es:List (ByteArray × Value)}(hb:w.heap[g]?=some (.map ents c))(hm:ents.toList.map Zhd=es.map Zgt){z:Value}(hz:ZjF P e=some z)(s:ByteArray)(ok:Bool):
  (∀v,Wr s es=some v→(Instr.lookup t (.map (some g)) (.string s) ok).run P w=.ok (if ok then .tuple #[v,.bool true] else v) w)∧(Wr s es=none→(Instr.lookup t (.map (some g)) (.string s) ok).run P w=.ok (if ok then .tuple #[z,.bool false] else z) w):=by
 obtain ⟨f1,f2⟩:=Zin (s:=s) ents.toList es 0 hm
 have hz':(zeroValue e).run P w=.ok z w:=by
  unfold ZjF at hz
  split at hz
  ·rename_i i hi
   simp [zeroValue,typeInfo,hi,hz]
  ·cases hz
 refine ⟨fun v h=>?_,fun h=>?_⟩
 ·obtain ⟨j,e',a,_⟩:=f2 v h
  simp [Instr.lookup,run_underlying ht,MapKept.run_getObj_map hb,WF hk,Js hk a]
 ·have a:=(f1 h).1
  simp [Instr.lookup,run_underlying ht,MapKept.run_getObj_map hb,WF hk,Js hk a,hz']
theorem Zpp{t k e:TypeId}(ht:P.underlying t=some (.map k e))(hk:P.underlying k=some .string){g c:Nat}{ents:Array MapEntry}{es:List (ByteArray × Value)}(hb:w.heap[g]?=some (.map ents c))(hm:ents.toList.map Zhd=es.map Zgt)(s:ByteArray)(u:Value):
  ∃ents' c',(Instr.mapUpdate t (.map (some g)) (.string s) u).run P w=.ok () (setBlock w g (.map ents' c'))∧ents'.toList.map Zhd=(Zbw s u es).map Zgt:=by
 obtain ⟨f1,f2⟩:=Zin (s:=s) ents.toList es 0 hm
 cases h:Wr s es with
 | none=>
   obtain ⟨a,b⟩:=f1 h
   refine ⟨ents.push {key:=.string s,val:=u,born:=c},c+1,?_,?_⟩
   ·simp [Instr.mapUpdate,run_underlying ht,MapKept.run_getObj_map hb,WF hk,Js hk a,MapKept.run_setObj_map _ hb,Result.andThen,setBlock]
   ·rw [b u,Array.toList_push,List.map_append,List.map_append,hm];rfl
 | some v=>
   obtain ⟨j,e',a,b,d,f⟩:=f2 v h
   rw [Nat.zero_add] at a
   have hj:ents[j]?=some e':=by rw [←Array.getElem?_toList];exact b
   have hs:Instr.sameBits 10000 (.string s) (.string s)=true:=by
    rw [Instr.sameBits]
    exact (MapKept.bytes_beq s s).2 rfl
   refine ⟨ents.modify j fun e=>{e with key:=.string s,val:=u},c,?_,?_⟩
   ·simp [Instr.mapUpdate,run_underlying ht,MapKept.run_getObj_map hb,WF hk,Js hk a,hj,d,Instr.keyThatStays,hs,MapKept.run_setObj_map _ hb,Result.andThen,setBlock]
   ·rw [Array.toList_modify];exact f u
theorem Zdi{t e:TypeId}(h:ZkP P t=some e):∃k,P.underlying t=some (.map k e)∧P.underlying k=some .string:=by
 unfold ZkP at h
 split at h
 ·rename_i k e' hu
  split at h
  ·rename_i hs
   cases h
   refine ⟨k,hu,?_⟩
   unfold Zcm at hs
   split at hs
   ·assumption
   ·cases hs
  ·cases h
 ·cases h
theorem Zom(h:BsRel E B L w){nx:Nat}(hL:L nx=none):Aft E B L (ZT B [(nx,some (.mp []))]) (Wb L nx (.map (some w.heap.size))) w (w.alloc (.map #[] 0)):=by
 refine Step.aft (Step.fresh hL (Mod.alloc _ _ _) (fun _=>trivial) (fun hr hrt=>?_) fun g hg=>?_) h
 ·exact ⟨w.heap.size,#[],0,ZH _ _ _,heap_alloc_new w _,rfl⟩
 ·cases hg
  exact Nat.le_refl _
theorem Zo3(h:BsRel E B L w){t:TypeId}{x i d:AV}{xv iv:Value}{ok:Bool}(hx:Rep w (okS E B L) L x xv)(hi:Rep w (okS E B L) L i iv){nx nx':Nat}(hr:(luT P t x i ok nx).run T B=some (d,up,nx')):
  up=[]∧∃v,(Instr.lookup t xv iv ok).run P w=.ok v w∧Rep w (okS E B L) L d v:=by
 unfold luT at hr
 split at hr
 ·rename_i e s ht
  obtain ⟨k,hu,hk⟩:=Zdi ht
  split at hr
  ·rename_i b
   simp only [Tr.run] at hr
   split at hr
   ·rename_i y hy
    split at hr
    ·rename_i es z hz
     cases hx with
     | t hx=>cases hx
     | mp hL=>
       rename_i g
       have e1:=ZY hi
       subst e1
       obtain ⟨g',ents,c,h1,h2,h3⟩:=h.blk b _ hy
       rw [hL] at h1
       cases h1
       obtain ⟨f1,f2⟩:=ZlQ (P:=P) (w:=w) hu hk h2 h3 hz s ok
       split at hr
       ·rename_i v hf
        simp only [Tr.run,Option.some.injEq,Prod.mk.injEq] at hr
        obtain ⟨rfl,rfl,rfl⟩:=hr
        refine ⟨rfl,_,f1 v hf,?_⟩
        cases ok with
        | true=>
          refine .t (.tup rfl fun i d hi=>?_)
          match i,hi with
          | 0,hi=>cases hi;exact .lit _
          | 1,hi=>cases hi;exact .lit _
          | i+2,hi=>simp at hi
        | false=>exact .t (.lit _)
       ·rename_i hf
        simp only [Tr.run,Option.some.injEq,Prod.mk.injEq] at hr
        obtain ⟨rfl,rfl,rfl⟩:=hr
        refine ⟨rfl,_,f2 hf,?_⟩
        cases ok with
        | true=>
          refine .t (.tup rfl fun i d hi=>?_)
          match i,hi with
          | 0,hi=>cases hi;exact .lit _
          | 1,hi=>cases hi;exact .lit _
          | i+2,hi=>simp at hi
        | false=>exact .t (.lit _)
    ·simp [Tr.run] at hr
   ·cases hr
  ·simp [Tr.run] at hr
 ·simp [Tr.run] at hr
theorem Zob(h:BsRel E B L w){t:TypeId}{x i u d:AV}{xv iv uv:Value}(hx:Rep w (okS E B L) L x xv)(hi:Rep w (okS E B L) L i iv)(hu:Rep w (okS E B L) L u uv){nx nx':Nat}(hr:(muT P t x i u nx).run T B=some (d,up,nx')):
  d=.any∧nx'=nx∧∃w',(Instr.mapUpdate t xv iv uv).run P w=.ok () w'∧Aft E B L (ZT B up) L w w':=by
 unfold muT at hr
 split at hr
 ·rename_i e s u0 ht
  obtain ⟨k,hmu,hk⟩:=Zdi ht
  split at hr
  ·rename_i b
   simp only [Tr.run] at hr
   split at hr
   ·rename_i y hy
    split at hr
    ·rename_i es
     simp only [Tr.run,Option.some.injEq,Prod.mk.injEq] at hr
     obtain ⟨rfl,rfl,rfl⟩:=hr
     cases hx with
     | t hx=>cases hx
     | mp hL=>
       rename_i g
       have e1:=ZY hi
       have e2:=ZY hu
       subst e1 e2
       obtain ⟨g',ents,c,h1,h2,h3⟩:=h.blk b _ hy
       rw [hL] at h1
       cases h1
       obtain ⟨ents',c',hrun,hmap⟩:=Zpp (P:=P) (w:=w) hmu hk h2 h3 s uv
       have hM:∀o,ZvG B L [(b,some (.mp (Zbw s uv es)))] g o:=fun o=>⟨b,_,_,by simp [ZD],hy,hL,rfl,fun hf=>hf⟩
       have same:∀g',g'≠g→(setBlock w g (.map ents' c')).heap[g']?=w.heap[g']?:=fun g' hne=>heap_setBlock_other h2 _ hne
       have new:=heap_setBlock_same h2 (.map ents' c')
       refine ⟨rfl,rfl,_,hrun,Step.aft (w':=setBlock w g (.map ents' c')) ⟨fun _ _ h=>h,⟨rfl,rfl,rfl,by simp [setBlock],fun g' hg' hn=>?_,fun g' o v hn hv=>?_,fun g' hg'=>?_⟩,fun hr hrt id blk hup=>?_,fun id blk v g' hup hL' hg'=>?_,fun id id' blk blk' v v' g' hup hup' _ _ _ _=>?_⟩ h⟩
       ·by_cases e:g'=g
        ·subst e;exact absurd (hM 0) (hn 0)
        ·exact same g' e
       ·by_cases e:g'=g
        ·subst e;exact absurd (hM o) hn
        ·rw [World.cell?_of_block (w:=w) (a:=⟨g',o,none⟩) (same g' e)];exact hv
       ·by_cases e:g'=g
        ·subst e;simp [World.shape?,new,h2]
        ·simp [World.shape?,same g' e]
       ·simp only [ZD] at hup
        split at hup
        ·rename_i e;subst e;cases hup
         exact ⟨g,ents',c',hL,new,hmap⟩
        ·cases hup
       ·simp only [ZD] at hup
        split at hup
        ·rename_i e;subst e;cases hup
         exact .inr ⟨id,_,v,by simp [ZD],hy,hL',hg',fun o ho=>ho.elim⟩
        ·cases hup
       ·simp only [ZD] at hup hup'
        split at hup
        ·split at hup'
         ·rename_i e1 e2;rw [e1,e2]
         ·cases hup'
        ·cases hup
    ·simp [Tr.run] at hr
   ·cases hr
  ·simp [Tr.run] at hr
 ·simp [Tr.run] at hr
end
end
section
variable{P:Program}{E:Nat→Nat→Prop}{B:Nat→Option AB}{L:Nat→Option Value}{w:World}{T:Nat→AV}{up:List (Nat × Option AB)}
theorem Zbf{s:ByteArray}{j:Nat}:(Lib.strCells s)[j]?=(s.data.toList[j]?).map fun b=>Value.int .u8 b.toNat:=by
 rw [Lib.strCells,List.getElem?_map]
theorem V8(s:ByteArray):∀x∈Lib.strCells s,Xp x:=fun x hx z e=>by
 simp only [Lib.strCells,List.mem_map] at hx
 obtain ⟨b,_,rfl⟩:=hx
 cases e
theorem JU{s:ByteArray}{i j:Nat}{x:List AV}{d:AV}(hi:(Zx s)[i]?=some x)(hj:x[j]?=some d):j=0∧∃u,(Lib.strCells s)[i*1+j]?=some u∧d=.lit u:=by
 rw [Zx,List.getElem?_map] at hi
 obtain ⟨b,hb,rfl⟩:=Option.map_eq_some_iff.1 hi
 match j,hj with
 | 0,hj=>
   simp only [List.getElem?_cons_zero,Option.some.injEq] at hj
   exact ⟨rfl,.int .u8 b.toNat,by rw [Zbf,show i*1+0=i by omega,hb];rfl,hj.symm⟩
 | j+1,hj=>simp at hj
theorem Vw(s:ByteArray):(Zx s).length=s.size:=by rw [Zx,List.length_map,Array.length_toList];rfl
theorem ZdD{t u ty e:TypeId}{i:TypeInfo}(ht:P.underlying t=some (.slice e))(hu:P.underlying u=some .string)(hi:P.info? e=some i)(hz:i.zero=some (.int .u8 0))(hs:i.size=1)(hb:i.bytes=1){v:Value}{n:Nat}{xs:List Value}(hrow:Row Xp w 0 e 1 v n xs)(s:ByteArray)(hroom:ZG (n+s.size) 1=true):
  ∃v' w',(Builtin.append_ #[t,u] ty #[v,.string s]).run P w=.ok v' w'∧Row Xp w' 0 e 1 v' (n+s.size) (xs++Lib.strCells s)∧w.grownBy w' v.ownBlock∧(v'.ownBlock=v.ownBlock∨v'.ownBlock=some w.heap.size)∧
   (∀g j u,v.ownBlock=some g→xs[j]?=some u→w'.cell? ⟨g,j,none⟩=some u)∧∀g,v.ownBlock=some g→w'.shape? g=w.shape? g:=by
 obtain ⟨h2,h3⟩:=KH hroom
 have h63:n+s.size≤maxLen:=by simp only [maxLen];omega
 have hsmall:n+s.size≤9223372036854775807:=by omega
 have hz1:(Value.int IntKind.u8 0).cells=#[.int .u8 0]:=rfl
 obtain ⟨v',w',hrun,hown,hgr,_⟩:=Lib.run_append_own_string (P:=P) w 0 t u ty e i ht hu hi hz hs hb v n xs hrow.own s h63 (by omega) (Nat.zero_le _)
 have hxl:xs.length=n:=by simpa using hrow.own.1
 have gz:∀(C:Array Value),0<C.size→(∀x∈C,Xp x)→∀k,∀x∈Builtin.zeroCells C k,Xp x:=fun C h0 hC k x hx=>by
  simp only [Builtin.zeroCells,Array.mem_map,Array.mem_range] at hx
  obtain ⟨j,_,rfl⟩:=hx
  rw [getElem!_pos C (j % C.size) (Nat.mod_lt _ h0)]
  exact hC _ (Array.getElem_mem _)
 have hzero:∀k,∀x∈Builtin.zeroCells (Value.int IntKind.u8 0).cells k,Xp x:=gz _ (by decide) (fun x hx z e=>by
  rw [hz1] at hx
  simp only [List.mem_toArray,List.mem_singleton] at hx
  subst hx
  cases e)
 have hxs:∀x∈xs,Xp x:=fun x hx=>by
  rcases hrow.own.2 with ⟨rfl,h0⟩|⟨g,cap,cur,rfl,_,hg,_,_,_,htake⟩
  ·have hx0:xs=[]:=List.eq_nil_of_length_eq_zero (by rw [hxl,h0])
   rw [hx0] at hx;cases hx
  ·rw [←htake] at hx
   exact hrow.all g cur e (0,0) rfl hg x (by simpa using List.mem_of_mem_take hx)
 have fin:∀(v1:Value) (w1:World),(Builtin.append_ #[t,u] ty #[v,.string s]).run P w=.ok v1 w1→v1=v'∧w1=w':=fun v1 w1 h=>by
  rw [hrun] at h;cases h;exact ⟨rfl,rfl⟩
 have hnew:∀(C:Array Value),(∀x∈C,Xp x)→∀g' cur' t' p,(Value.slice (some ⟨w.heap.size,0,none⟩) (n+s.size) 0).ownBlock=some g'→(w.drew.alloc (.cells C e)).heap[g']?=some (.cells cur' t' p)→∀x∈cur',Xp x:=fun C hC g' cur' t' p hg' hc x hx=>by
  simp only [Value.ownBlock,Option.some.injEq] at hg'
  subst hg'
  rw [show w.heap.size=w.drew.heap.size from rfl,heap_alloc_new] at hc
  cases hc
  exact hC x hx
 rcases hrow.own.2 with ⟨rfl,h0⟩|⟨g,cap,cur,rfl,hbg,hg,hnc,hcm,hcs,htake⟩
 ·subst h0
  have hx0:xs=[]:=List.eq_nil_of_length_eq_zero hxl
  subst hx0
  by_cases hm:s.size=0
  ·have hn:Lib.strCells s=[]:=List.eq_nil_of_length_eq_zero (by rw [Lib.strCells_length];exact hm)
   have hf:=Lib.run_firstCells_string (P:=P) w 1 s
   rw [hm] at hf
   obtain ⟨rfl,rfl⟩:=fin (.slice none 0 0) w (by simp [Builtin.append_,run_underlying ht,run_underlying hu,sizeOf,typeInfo,hi,hs,Builtin.lenOf,hm,hf])
   refine ⟨_,_,hrun,by rw [hm,hn];exact Row.nil _ _ _ _ _,hgr,.inl rfl,fun g j u hg=>by simp [Value.ownBlock] at hg,fun g hg=>by simp [Value.ownBlock] at hg⟩
  ·have hr:=run_append_nil_string (P:=P) w t u ty e i (.int .u8 0) ht hu hi hz s (by omega) (by omega) (by rw [hb];omega)
   obtain ⟨rfl,rfl⟩:=fin _ _ hr
   refine ⟨_,_,hrun,⟨hown,fun g' cur' t' p hg' hc=>hnew _ ?_ g' cur' t' p hg' hc⟩,hgr,.inr rfl,fun g j u hg=>by simp [Value.ownBlock] at hg,fun g hg=>by simp [Value.ownBlock] at hg⟩
   intro x hx
   rcases Array.mem_append.1 hx with h|h
   ·exact V8 s x (by simpa [Lib.strCells] using h)
   ·exact hzero _ x h
 ·have hold:∀j u,xs[j]?=some u→w.cell? ⟨g,j,none⟩=some u:=fun j u hu'=>by
   have:=hrow.own.cells (g:=g) rfl j u hu'
   rwa [YN,Nat.zero_add] at this
  by_cases hroom:n+s.size≤cap
  ·have hcs':cur.size=cap:=by simpa using hcs
   have hr:=Lib.run_append_room_string (P:=P) w t u ty e i ht hu hi hs g n cap cur hg s hroom (by omega)
   obtain ⟨rfl,rfl⟩:=fin _ _ hr
   refine ⟨_,_,hrun,⟨hown,fun g' cur' t' p hg' hc x hx=>?_⟩,hgr,.inl rfl,fun g' j u' hg' hj=>?_,fun g' hg'=>?_⟩
   ·simp only [Value.ownBlock,Option.some.injEq] at hg'
    subst hg'
    rw [setRow_heap w g cur _ e _ hg] at hc
    cases hc
    simp only [List.mem_toArray,List.mem_append] at hx
    rcases hx with (h|h)|h
    ·exact hrow.all g cur e (0,0) rfl hg x (by simpa using List.mem_of_mem_take h)
    ·exact V8 s x h
    ·exact hrow.all g cur e (0,0) rfl hg x (by simpa using List.mem_of_mem_drop h)
   ·simp only [Value.ownBlock,Option.some.injEq] at hg'
    subst hg'
    rw [cell_setRow_same w g j cur _ e _ hg]
    have hj':j<xs.length:=(List.getElem?_eq_some_iff.1 hj).1
    rw [←htake] at hj
    rw [←Array.getElem?_toList]
    simp only [List.append_assoc]
    rw [List.getElem?_append_left (by simp;omega)]
    simpa using hj
   ·simp only [Value.ownBlock,Option.some.injEq] at hg'
    subst hg'
    have hl:=Lib.strCells_length s
    simp [World.shape?,setRow_heap w g cur _ e _ hg,hg,hl]
    omega
  ·have holds:∀j u,xs[j]?=some u→w.cell? ((⟨g,0,none⟩:Addr).add j)=some u:=hrow.own.cells (g:=g) rfl
   have hr:=Lib.run_append_grow_string (P:=P) w t u ty e i (.int .u8 0) ht hu hi hz ⟨g,0,none⟩ n cap xs (by rw [hs];simpa using hxl) holds s (by omega) (by omega) (by rw [hb];exact growslice_fits (by omega) (by omega))
   obtain ⟨rfl,rfl⟩:=fin _ _ hr
   refine ⟨_,_,hrun,⟨hown,fun g' cur' t' p hg' hc=>hnew _ ?_ g' cur' t' p hg' hc⟩,hgr,.inr rfl,fun g' j u' hg' hj=>?_,fun g' hg'=>?_⟩
   ·intro x hx
    rcases Array.mem_append.1 hx with h|h
    ·rcases Array.mem_append.1 h with h|h
     ·exact hxs x (by simpa using h)
     ·exact V8 s x (by simpa using h)
    ·exact hzero _ x h
   ·simp only [Value.ownBlock,Option.some.injEq] at hg'
    subst hg'
    have hlt:g<w.heap.size:=(Array.getElem?_eq_some_iff.1 hg).1
    rw [World.cell?_of_block (w:=w) (a:=⟨g,j,none⟩) (Below.heap_alloc w.drew _ g hlt)]
    exact hold j u' hj
   ·simp only [Value.ownBlock,Option.some.injEq] at hg'
    subst hg'
    have hlt:g<w.heap.size:=(Array.getElem?_eq_some_iff.1 hg).1
    unfold World.shape?
    rw [Below.heap_alloc w.drew _ g hlt]
    rfl
theorem JY{t e:TypeId}(h:Zg2 P t=some e):P.underlying t=some (.slice e)∧∃i,P.info? e=some i∧i.zero=some (.int .u8 0)∧i.size=1∧i.bytes=1:=by
 unfold Zg2 at h
 split at h
 ·rename_i e' hu
  split at h
  ·rename_i i _ hi
   split at h
   ·rename_i hz
    split at h
    ·rename_i hc
     cases h
     exact ⟨hu,i,hi,hz,hc.1,hc.2⟩
    ·cases h
   ·cases h
  ·cases h
 ·cases h
theorem Zkx(h:BsRel E B L w){t t' ty:TypeId}{s x d:AV}{sv xv:Value}(hs:Rep w (okS E B L) L s sv)(hx:Rep w (okS E B L) L x xv){nx nx':Nat}(hr:(apS P t t' s x nx).run T B=some (d,up,nx'))(hf:nx<nx'→L nx=none):
  nx'=nx+1∧∃v w' L',(Builtin.append_ #[t,t'] ty #[sv,xv]).run P w=.ok v w'∧Aft E B L (ZT B up) L' w w'∧Rep w' (okS E (ZT B up) L') L' d v∧L'=Wb L nx v:=by
 unfold apS at hr
 split at hr
 ·rename_i bs
  obtain rfl:=ZY hx
  split at hr
  ·rename_i e hbt
   obtain ⟨hu,i,hi,hz,hs1,hb1⟩:=JY hbt
   split at hr
   ·rename_i hst
    have hu':=Zbv hst
    have hurep:∀(i j:Nat) (x:List AV) (d:AV),(Zx bs)[i]?=some x→x[j]?=some d→∃u,(Lib.strCells bs)[i*1+j]?=some u∧RepT w (okS E B L) d u:=fun i j x d hi hj=>by
     obtain ⟨_,u,h2,rfl⟩:=JU hi hj
     exact ⟨u,h2,.lit _⟩
    have Wo:∀x∈Zx bs,x.length=1:=fun x hx=>by
     simp only [Zx,List.mem_map] at hx
     obtain ⟨_,_,rfl⟩:=hx
     rfl
    split at hr
    ·rename_i _ b n
     simp only [Tr.run] at hr
     split at hr
     ·rename_i y hy
      split at hr
      ·rename_i e' k es fz
       split at hr
       ·rename_i hc
        obtain ⟨rfl,rfl,rfl,hroom⟩:=hc
        simp only [Tr.run,Option.some.injEq,Prod.mk.injEq] at hr
        obtain ⟨rfl,rfl,rfl⟩:=hr
        refine ⟨rfl,?_⟩
        have hf:=hf (Nat.lt_succ_self _)
        obtain ⟨a',c',rfl,hL⟩:=hs.own_inv
        obtain ⟨v0,xs,h1,hrow,hfz,hlen,helm⟩:=h.blk b _ hy
        rw [hL] at h1;cases h1
        obtain ⟨v',w',hrun,hrow',hgrown,hob,hkeep,hshape⟩:=ZdD (ty:=ty) hu hu' hi hz hs1 hb1 hrow bs hroom
        have hst:Step E B L [(nx,some (.row e 1 (es++Zx bs) fz)),(b,none)] (Wb L nx v') w w':=by
         refine ⟨UU hf v',Jp hgrown hshape (fun g hg=>⟨fz*1,b,_,_,by simp only [ZD];split <;>simp,hy,hL,Jq hg,by simp [AB.frz]⟩) (fun g o u hg hM hu'=>?_),fun hr' hrt id blk hu'=>?_,fun id blk v1 g hu' hL' hg'=>?_,fun id id' blk blk' v1 v2 g hu1 hu2 _ _ _ _=>?_⟩
         ·have ho:o<fz*1:=by
           rcases Nat.lt_or_ge o (fz*1) with h9|h9
           ·exact h9
           ·exact absurd ⟨b,_,_,by simp only [ZD];split <;>simp,hy,hL,Jq hg,by simp only [AB.frz];omega⟩ hM
          have hxl:xs.length=es.length*1:=hrow.own.1
          have h10:xs[o]?=some (xs[o]'(by omega)):=List.getElem?_eq_getElem _
          have h11:=hrow.own.cells (g:=g) hg o _ h10
          rw [YN,Nat.zero_add,hu'] at h11
          rw [hkeep g o _ hg h10]
          exact h11.symm
         ·simp only [ZD] at hu'
          split at hu'
          ·rename_i e1
           subst e1
           cases hu'
           refine ⟨v',xs++Lib.strCells bs,ZH _ _ _,by rw [List.length_append,Vw];exact hrow',by rw [List.length_append];omega,fun x hx=>?_,ZeW hrow.own.1 hlen helm hurep hrt⟩
           rcases List.mem_append.1 hx with h9|h9
           ·exact hlen x h9
           ·exact Wo x h9
          ·split at hu' <;>cases hu'
         ·simp only [ZD] at hu'
          split at hu'
          ·rename_i e1
           subst e1
           cases hu'
           rw [ZH] at hL';cases hL'
           have hg2:v'.ownBlock=some g:=by rw [hrow'.ownBlock_g];exact hg'
           rcases hob with h9|h9
           ·exact .inr ⟨b,_,_,by simp only [ZD];split <;>simp,hy,hL,Jq (by rw [←h9];exact hg2),fun o h=>h⟩
           ·rw [h9] at hg2;cases hg2
            exact .inl (Nat.le_refl _)
          ·split at hu' <;>cases hu'
         ·simp only [ZD] at hu1 hu2
          split at hu1
          ·split at hu2
           ·rename_i e1 e2;rw [e1,e2]
           ·split at hu2 <;>cases hu2
          ·split at hu1 <;>cases hu1
        obtain ⟨ad',c'',rfl⟩:=hrow'.shape
        exact ⟨_,w',_,hrun,hst.aft h,.own (ZH _ _ _),rfl⟩
       ·simp [Tr.run] at hr
      ·simp [Tr.run] at hr
     ·cases hr
    ·split at hr
     ·rename_i hc
      obtain ⟨hnil,hroom⟩:=hc
      simp only [Tr.run,Option.some.injEq,Prod.mk.injEq] at hr
      obtain ⟨rfl,rfl,rfl⟩:=hr
      refine ⟨rfl,?_⟩
      have hf:=hf (Nat.lt_succ_self _)
      have hs0:sv=.slice none 0 0:=ZdL hnil hs
      subst hs0
      have hrow:Row Xp w 0 e 1 (.slice none 0 0) 0 []:=Row.nil _ _ _ _ _
      obtain ⟨v',w',hrun,hrow',hgrown,hob,hkeep,hshape⟩:=ZdD (ty:=ty) hu hu' hi hz hs1 hb1 hrow bs (by simpa using hroom)
      rw [Nat.zero_add,List.nil_append] at hrow'
      have hst:Step E B L [(nx,some (.row e 1 (Zx bs) 0))] (Wb L nx v') w w':=by
       refine Step.fresh hf (Jp hgrown hshape (fun g hg=>by simp [Value.ownBlock] at hg) (fun g o u hg=>by simp [Value.ownBlock] at hg)) (fun _=>trivial) (fun hr' hrt=>?_) fun g hg=>?_
       ·refine ⟨v',Lib.strCells bs,ZH _ _ _,by rw [Vw];exact hrow',Nat.zero_le _,Wo,fun i j x d hi hj=>?_⟩
        obtain ⟨u,h9,h10⟩:=hurep i j x d hi hj
        exact ⟨u,h9,hrt _ _ h10⟩
       ·have hg2:v'.ownBlock=some g:=by rw [hrow'.ownBlock_g];exact hg
        rcases hob with h9|h9
        ·rw [h9] at hg2;simp [Value.ownBlock] at hg2
        ·rw [h9] at hg2;cases hg2
         exact Nat.le_refl _
      obtain ⟨ad',c'',rfl⟩:=hrow'.shape
      exact ⟨_,w',_,hrun,hst.aft h,.own (ZH _ _ _),rfl⟩
     ·simp [Tr.run] at hr
   ·simp [Tr.run] at hr
  ·simp [Tr.run] at hr
 ·simp [Tr.run] at hr
theorem J2:∀{es:List (List AV)} {l:List UInt8},Kt es=some l→l.length=es.length∧∀(j:Nat) (x:UInt8),l[j]?=some x→es[j]?=some [.lit (.int .u8 x.toNat)]
 | [],l,h=>by cases h;exact ⟨rfl,fun j x hj=>by simp at hj⟩
 | e::es,l,h=>by
   unfold Kt at h
   split at h
   ·rename_i heq;cases heq
   ·rename_i z l' heq
    cases heq
    split at h
    ·rename_i hz
     obtain ⟨l',h1,rfl⟩:=Option.map_eq_some_iff.1 h
     obtain ⟨h2,h3⟩:=J2 h1
     refine ⟨by simp [h2],fun j x hj=>?_⟩
     cases j with
     | zero=>
       simp only [List.getElem?_cons_zero,Option.some.injEq] at hj
       subst hj
       have e:((UInt8.ofNat z.toNat).toNat:Int)=z:=by
        have:z.toNat<256:=by omega
        simp [UInt8.toNat_ofNat']
        omega
       rw [List.getElem?_cons_zero,e]
     | succ j=>exact h3 j x (by simpa using hj)
    ·cases h
   ·cases h
theorem Zme(h:BsRel E B L w){ats:Array TypeId}{ty:TypeId}{d r:AV}{v:Value}(hd:Rep w (okS E B L) L d v){nx nx':Nat}(hr:(Zs7 d nx).run T B=some (r,up,nx')):
  nx'=nx∧up=[]∧∃u,(Builtin.unsafeSliceData_ ats ty #[v]).run P w=.ok u w∧Rep w (okS E B L) L r u:=by
 unfold Zs7 at hr
 split at hr
 ·rename_i _ b n
  simp only [Tr.run] at hr
  split at hr
  ·rename_i y hy
   split at hr
   ·rename_i e' k es fz
    split at hr
    ·rename_i hc
     obtain ⟨rfl,rfl,h0⟩:=hc
     simp only [Tr.run,Option.some.injEq,Prod.mk.injEq] at hr
     obtain ⟨rfl,rfl,rfl⟩:=hr
     refine ⟨rfl,rfl,?_⟩
     obtain ⟨a',c',rfl,hL⟩:=hd.own_inv
     obtain ⟨v0,xs,h1,hrow,hfz,hlen,helm⟩:=h.blk b _ hy
     rw [hL] at h1;cases h1
     rcases hrow.own.2 with ⟨h9,h8⟩|⟨g,cap,cur,h9,hbg,hg,hnc,hcm,hcs,htake⟩
     ·omega
     ·cases h9
      exact ⟨.pointer (some ⟨g,0*1+0,none⟩),by
       have e1:∀A:Addr,c'≠0→Builtin.unsafeSliceData_ ats ty #[.slice (some A) es.length c']=pure (.pointer (some A)):=fun A hc=>if_pos hc
       rw [e1 _ (by omega)]
       simp,.rptr hL⟩
    ·simp [Tr.run] at hr
   ·simp [Tr.run] at hr
  ·cases hr
 ·split at hr
  ·rename_i hn
   simp only [Tr.run,Option.some.injEq,Prod.mk.injEq] at hr
   obtain ⟨rfl,rfl,rfl⟩:=hr
   obtain rfl:=ZdL hn hd
   exact ⟨rfl,rfl,.pointer none,(rfl:(Builtin.unsafeSliceData_ ats ty #[.slice none 0 0]).run P w=.ok (.pointer none) w),.t (.lit _)⟩
  ·simp [Tr.run] at hr
theorem ZuP{t e:TypeId}(h:ptT P t=some e):P.underlying t=some (.pointer e):=by
 unfold ptT at h
 split at h
 ·rename_i e' hu;cases h;exact hu
 ·cases h
theorem ZgH(w:World)(a p:Addr)(n:Nat):(w.freeze a n).cell? p=w.cell? p:=by
 unfold World.freeze
 split
 ·rfl
 ·have key:∀(o:Option Obj) (f:Obj→Obj),(∀c t fr,∃fr',f (.cells c t fr)=.cells c t fr')→(∀x,(∀c t fr,x≠.cells c t fr)→f x=x)→
    (match o.map f with|some (.cells c _ _)=>if p.spot.isSome then none else c[p.off]?|_=>none)=(match o with|some (.cells c _ _)=>if p.spot.isSome then none else c[p.off]?|_=>(none:Option Value)):=fun o f h1 h2=>by
   cases o with
   | none=>rfl
   | some x=>
     by_cases hx:∃c t fr,x=.cells c t fr
     ·obtain ⟨c,t,fr,rfl⟩:=hx
      obtain ⟨fr',e⟩:=h1 c t fr
      rw [Option.map_some,e]
     ·rw [Option.map_some,h2 x fun c t fr e=>hx ⟨c,t,fr,e⟩]
  have h2:∀(f:Obj→Obj),(∀c t fr,∃fr',f (.cells c t fr)=.cells c t fr')→(∀x,(∀c t fr,x≠.cells c t fr)→f x=x)→World.cell? {w with heap:=w.heap.modify a.block f} p=w.cell? p:=fun f h1 h2=>by
   unfold World.cell?
   dsimp only
   rw [Array.getElem?_modify]
   by_cases e:a.block=p.block
   ·rw [if_pos e];exact key _ f h1 h2
   ·rw [if_neg e]
  refine h2 _ (fun c t fr=>⟨_,rfl⟩) fun x hx=>?_
  cases x with
  | cells c t fr=>exact absurd rfl (hx c t fr)
  | _=>rfl
theorem Zf3(w:World)(a:Addr)(n g:Nat):(w.freeze a n).shape? g=w.shape? g:=by
 unfold World.freeze
 split
 ·rfl
 ·have h2:∀(f:Obj→Obj),(∀c t fr,∃fr',f (.cells c t fr)=.cells c t fr')→(∀x,(∀c t fr,x≠.cells c t fr)→f x=x)→World.shape? {w with heap:=w.heap.modify a.block f} g=w.shape? g:=fun f h1 h2=>by
   unfold World.shape?
   dsimp only
   rw [Array.getElem?_modify]
   by_cases e:a.block=g
   ·rw [if_pos e]
    cases hx:w.heap[g]? with
    | none=>rfl
    | some x=>
      by_cases hx:∃c t fr,x=.cells c t fr
      ·obtain ⟨c,t,fr,rfl⟩:=hx
       obtain ⟨fr',e⟩:=h1 c t fr
       rw [Option.map_some,e]
      ·rw [Option.map_some,h2 x fun c t fr e=>hx ⟨c,t,fr,e⟩]
   ·rw [if_neg e]
  refine h2 _ (fun c t fr=>⟨_,rfl⟩) fun x hx=>?_
  cases x with
  | cells c t fr=>exact absurd rfl (hx c t fr)
  | _=>rfl
theorem ZoO(h:BsRel E B L w){pt it ty:TypeId}{d n r:AV}{v nv:Value}(hd:Rep w (okS E B L) L d v)(hn:Rep w (okS E B L) L n nv){nx nx':Nat}(hr:(usT P pt d n nx).run T B=some (r,up,nx')):
  nx'=nx∧∃u w',(Builtin.unsafeString_ #[pt,it] ty #[v,nv]).run P w=.ok u w'∧Aft E B L (ZT B up) L w w'∧Rep w' (okS E (ZT B up) L) L r u:=by
 unfold usT at hr
 split at hr
 ·rename_i z
  obtain rfl:=ZY hn
  split at hr
  ·split at hr
   ·rename_i hz
    subst hz
    simp only [Tr.run,Option.some.injEq,Prod.mk.injEq] at hr
    obtain ⟨rfl,rfl,rfl⟩:=hr
    obtain rfl:=ZY hd
    exact ⟨rfl,_,w,Lib.run_unsafeString_none (P:=P) w pt it ty none,by rw [Q4];exact Aft.refl h,.t (.lit _)⟩
   ·simp [Tr.run] at hr
  ·rename_i b
   simp only [Tr.run] at hr
   split at hr
   ·rename_i y hy
    split at hr
    ·rename_i e k es fz
     split at hr
     ·rename_i hc
      obtain ⟨rfl,h0,rfl,h63,hpt,hct⟩:=hc
      split at hr
      ·rename_i s hs
       simp only [Tr.run,Option.some.injEq,Prod.mk.injEq] at hr
       obtain ⟨rfl,rfl,rfl⟩:=hr
       refine ⟨rfl,?_⟩
       obtain ⟨l,hl,rfl⟩:=Option.map_eq_some_iff.1 hs
       obtain ⟨hll,hlg⟩:=J2 hl
       obtain ⟨v0,xs,h1,hrow,hfz,hlen,helm⟩:=h.blk b _ hy
       cases hd with
       | t hd=>cases hd
       | rptr hL=>
         rename_i g n c
         rw [hL] at h1;cases h1
         rcases hrow.own.2 with ⟨h9,h8⟩|⟨g',cap,cur,h9,hbg,hg,hnc,hcm,hcs,htake⟩
         ·omega
         ·cases h9
          have hce:P.cellsOf e=1:=by
           obtain ⟨⟨gg,m⟩,ht,hm⟩:=Option.map_eq_some_iff.1 hct
           dsimp only at hm
           subst hm
           obtain ⟨_,i,hi,hsz⟩:=VI ht
           simp [Program.cellsOf,hi,hsz]
          have hsh:w.shape? g=some (e,cur.size):=by simp [World.shape?,hg]
          have hcell:∀(j:Nat) (x:UInt8),l[j]?=some x→w.cell? ((⟨g,0,none⟩:Addr).add j)=some (.int .u8 x.toNat):=fun j x hj=>by
           have h2:=hlg j x hj
           obtain ⟨u,h3,h4⟩:=helm j 0 _ _ h2 rfl
           cases h4
           have:=hrow.own.cells (g:=g) rfl _ _ h3
           simpa using this
          have hrun:=Lib.run_unsafeString_row (P:=P) w pt it ty e (ZuP hpt) hce g cur.size hsh l (by intro e0;rw [e0] at hll;simp at hll;omega) (by rw [hll,hcs];omega) (by omega) hcell
          rw [hll] at hrun
          have hst:Step E B L [(b,none)] L w (w.freeze ⟨g,0,none⟩ es.length):=by
           refine ⟨fun _ _ h=>h,⟨?_,?_,?_,?_,fun g' hg' hn=>?_,fun g' o v hn hv=>by rw [ZgH];exact hv,fun g' _=>Zf3 _ _ _ _⟩,fun _ _ id blk hu=>?_,fun id blk v g hu=>?_,fun id id' blk blk' v v' g hu=>?_⟩
           ·unfold World.freeze;split <;>rfl
           ·unfold World.freeze;split <;>rfl
           ·unfold World.freeze;split <;>rfl
           ·unfold World.freeze;split <;>simp
           ·unfold World.freeze
            split
            ·rfl
            ·rw [Array.getElem?_modify]
             split
             ·rename_i e1
              dsimp only at e1
              exact absurd ⟨b,_,_,by simp [ZD],hy,hL,by rw [←e1];rfl,by simp [AB.frz]⟩ (hn (fz*1))
             ·rfl
           ·simp only [ZD] at hu;split at hu <;>cases hu
           ·simp only [ZD] at hu;split at hu <;>cases hu
           ·simp only [ZD] at hu;split at hu <;>cases hu
          exact ⟨_,_,hrun,hst.aft h,.t (.lit _)⟩
      ·simp [Tr.run] at hr
     ·simp [Tr.run] at hr
    ·simp [Tr.run] at hr
   ·cases hr
  ·simp [Tr.run] at hr
 ·simp [Tr.run] at hr
theorem Zjm{t e:TypeId}(h:Zg2 P t=some e):P.underlying e=some (.int .u8):=by
 unfold Zg2 at h
 split at h
 ·split at h
  ·rename_i hu _
   split at h
   ·split at h
    ·cases h;exact hu
    ·cases h
   ·cases h
  ·cases h
 ·cases h
theorem ZmD(h:BsRel E B L w){src dst:TypeId}{s:ByteArray}{d:AV}{nx nx':Nat}(hs:Zcm P src=true)(hr:(cvB P dst s nx).run T B=some (d,up,nx')):
  up=[]∧∃v w',(convert src dst (.string s)).run P w=.ok v w'∧Aft E B L B L w w'∧Rep w' (okS E B L) L d v:=by
 unfold cvB at hr
 split at hr
 ·rename_i e hb
  obtain ⟨hu,i,hi,hz,hs1,hb1⟩:=JY hb
  have hu8:=Zjm hb
  simp only [Tr.run,Option.some.injEq,Prod.mk.injEq] at hr
  obtain ⟨rfl,rfl,rfl⟩:=hr
  have hrun:=run_bytes_of_string (P:=P) w src dst e s (Zbv hs) hu hu8
  generalize hcap:grownCap w s.size 0 e=cap at hrun
  have hge:s.size≤cap:=by rw [←hcap];exact grownCap_ge w _ _ _
  have hm:Mod (fun _ _=>False) w (w.drew.alloc (.cells (bytesRow s cap) e ((bytesRow s cap).size,(bytesRow s cap).size+1))):=((Mod.drew (fun _ _=>False) w).trans (Mod.alloc (fun _ _=>False) w.drew _)).mono fun g o _ h9=>by
   rcases h9 with h9|h9 <;>exact h9
  have hA:=(Step.still (E:=E) (B:=B) (L:=L) hm).aft h
  rw [Q4] at hA
  refine ⟨rfl,_,_,hrun,hA,.t ?_⟩
  have hcl:∀j u,(Lib.strCells s)[j]?=some u→(w.drew.alloc (.cells (bytesRow s cap) e ((bytesRow s cap).size,(bytesRow s cap).size+1))).cell? ⟨w.heap.size,j,none⟩=some u:=fun j u hj=>by
   have h1:=World.cell?_alloc_mark w.drew (bytesRow s cap) e ((bytesRow s cap).size,(bytesRow s cap).size+1) j
   rw [show w.drew.heap.size=w.heap.size from rfl] at h1
   rw [h1]
   rw [Zbf] at hj
   obtain ⟨b,hb9,rfl⟩:=Option.map_eq_some_iff.1 hj
   have hlt:j<s.data.size:=by
    have:=(List.getElem?_eq_some_iff.1 hb9).1
    simpa using this
   rw [bytesRow_at s cap j hlt]
   rw [Array.getElem?_toList,Array.getElem?_eq_getElem hlt] at hb9
   cases hb9;rfl
  have main:RepT (w.drew.alloc (.cells (bytesRow s cap) e ((bytesRow s cap).size,(bytesRow s cap).size+1))) (okS E B L) (.sl 1 (Zx s)) (.slice (some ⟨w.heap.size,0,none⟩) (Zx s).length cap):=by
   refine .sl (fun x hx=>?_) (by rw [Vw];exact hge) (fun i j e d hi hj=>?_) (fun i j e d hi hj=>?_)
   ·simp only [Zx,List.mem_map] at hx
    obtain ⟨_,_,rfl⟩:=hx
    rfl
   ·obtain ⟨_,u,h2,rfl⟩:=JU hi hj
    refine ⟨Zjc h,?_⟩
    rw [Nat.zero_add,hcl _ u h2];rfl
   ·obtain ⟨_,u,h2,rfl⟩:=JU hi hj
    rw [Nat.zero_add,hcl _ u h2]
    exact .lit _
  rw [Vw] at main
  exact main
 ·simp [Tr.run] at hr
theorem ZlS{ok:Nat→Nat→Prop}{src dst:TypeId}{es:List (List AV)}{d:AV}{v:Value}{nx nx':Nat}(hv:Rep w ok L (.sl 1 es) v)(hr:(cvS P src dst es nx).run T B=some (d,up,nx')):
  up=[]∧∃u,(convert src dst v).run P w=.ok u w∧Rep w ok L d u:=by
 unfold cvS at hr
 split at hr
 ·rename_i e s hb hso
  split at hr
  ·rename_i hc
   obtain ⟨hu,i,hi,hz,hs1,hb1⟩:=JY hb
   have hu8:=Zjm hb
   simp only [Tr.run,Option.some.injEq,Prod.mk.injEq] at hr
   obtain ⟨rfl,rfl,rfl⟩:=hr
   unfold Zhv at hso
   obtain ⟨l,hl,rfl⟩:=Option.map_eq_some_iff.1 hso
   obtain ⟨h1,h2⟩:=J2 hl
   refine ⟨rfl,.string ⟨l.toArray⟩,?_,.t (.lit _)⟩
   cases hv with
   | t hv=>
     cases hv with
     | nil a c=>simp at hc
     | sl hk hcap hm hh=>
       rename_i b o c
       rw [←h1]
       refine run_convert_bytes_back (P:=P) w src dst e ⟨b,o,none⟩ c l hu hu8 (Zbv hc.2) fun j hj=>?_
       have h3:=h2 j l[j] (List.getElem?_eq_getElem hj)
       have h4:=hm j 0 _ _ h3 rfl
       have h5:=hh j 0 _ _ h3 rfl
       obtain ⟨u,h6⟩:=Option.isSome_iff_exists.1 h4.2
       rw [h6] at h5
       cases h5
       rw [YN]
       simpa using h6
  ·simp [Tr.run] at hr
 ·simp [Tr.run] at hr
theorem ZdM{ok:Nat→Nat→Prop}{d:AV}{v:Value}(hn:ZfG d=true)(h:Rep w ok L d v):∃p,v=.pointer (some p):=by
 unfold ZfG at hn
 split at hn
 ·cases h with
  | t h=>cases h
  | ptr _=>exact ⟨_,rfl⟩
 ·cases h with
  | t h=>cases h
  | rptr _=>exact ⟨_,rfl⟩
 ·obtain ⟨b,o,hp,_⟩:=(Ky h).mem_inv
  exact ⟨_,hp⟩
 ·cases hn
theorem ZeU{ok:Nat→Nat→Prop}{xt e:TypeId}(ht:P.underlying xt=some (.pointer e)){d d':AV}{b:Bool}(hb:Zjv d d'=some b){v v':Value}(hv:Rep w ok L d v)(hv':Rep w ok L d' v'):
  (∃p q,v=.pointer p∧v'=.pointer q)∧(Op.equal xt v v').run P w=.ok b w:=by
 have em:Op.maxDepth=9999+1:=rfl
 have k0:(Op.equal xt (.pointer none) (.pointer none)).run P w=.ok true w:=by
  rw [Op.equal,em,Op.equalIn]
  simp [run_underlying ht]
 have k1:∀p,(Op.equal xt (.pointer none) (.pointer (some p))).run P w=.ok false w:=fun p=>by
  rw [Op.equal,em,Op.equalIn]
  simp [run_underlying ht]
 have k2:∀p,(Op.equal xt (.pointer (some p)) (.pointer none)).run P w=.ok false w:=fun p=>by
  rw [Op.equal,em,Op.equalIn]
  simp [run_underlying ht]
 unfold Zjv at hb
 split at hb
 ·cases hb
  obtain rfl:=ZY hv
  obtain rfl:=ZY hv'
  exact ⟨⟨_,_,rfl,rfl⟩,k0⟩
 ·split at hb
  ·rename_i hn
   cases hb
   obtain rfl:=ZY hv
   obtain ⟨p,rfl⟩:=ZdM hn hv'
   exact ⟨⟨_,_,rfl,rfl⟩,k1 p⟩
  ·cases hb
 ·split at hb
  ·rename_i hn
   cases hb
   obtain rfl:=ZY hv'
   obtain ⟨p,rfl⟩:=ZdM hn hv
   exact ⟨⟨_,_,rfl,rfl⟩,k2 p⟩
  ·cases hb
 ·cases hb
theorem Zgj{ok:Nat→Nat→Prop}{d d':AV}{b:Bool}(hb:ZoX d d'=some b){v v':Value}(hv:Rep w ok L d v)(hv':Rep w ok L d' v'):
  ∃a n c n' c',v=.slice a n c∧v'=.slice none n' c'∧b=a.isNone:=by
 unfold ZoX at hb
 split at hb
 ·cases hb
  obtain rfl:=ZY hv'
  cases hv with
  | t h=>cases h with
    | sl=>exact ⟨_,_,_,_,_,rfl,rfl,rfl⟩
 ·cases hb
  obtain rfl:=ZY hv
  obtain rfl:=ZY hv'
  exact ⟨_,_,_,_,_,rfl,rfl,rfl⟩
 ·cases hb
  obtain rfl:=ZY hv'
  cases hv with
  | t h=>cases h;exact ⟨_,_,_,_,_,rfl,rfl,rfl⟩
 ·cases hb
theorem ZgW{xt e:TypeId}(ht:P.underlying xt=some (.slice e))(a:Option Addr)(n c n' c':Nat):(Op.equal xt (.slice a n c) (.slice none n' c')).run P w=.ok a.isNone w:=by
 simp [Op.equal,Op.maxDepth,Lib.run_equalIn_slice_nil w 9999 xt e a n c n' c' ht]
theorem Ztj{t:TypeId}(h:(Wn P t).isSome=true):∃e,P.underlying t=some (.slice e):=by
 unfold Wn at h
 split at h
 ·rename_i e he
  exact ⟨e,he⟩
 ·cases h
theorem ZcX{ok:Nat→Nat→Prop}{op:BinOp}{xt:TypeId}{d d' r:AV}(hr:Zci P op xt d d'=some r){v v':Value}(hv:Rep w ok L d v)(hv':Rep w ok L d' v'){x y:Operand}:
  ∃u,(do eqGuard op xt x y v v';binOp op xt v v':Sem Value).run P w=.ok u w∧Rep w ok L r u:=by
 unfold Zci at hr
 split at hr
 ·rename_i ht
  obtain ⟨e,ht⟩:=Option.isSome_iff_exists.1 ht
  have ht:=ZuP ht
  split at hr
  ·obtain ⟨b,hb,rfl⟩:=Option.map_eq_some_iff.1 hr
   obtain ⟨⟨p,q,rfl,rfl⟩,hrun⟩:=ZeU ht hb hv hv'
   exact ⟨.bool b,by simp [eqGuard,binOp,hrun],.t (.lit _)⟩
  ·obtain ⟨b,hb,rfl⟩:=Option.map_eq_some_iff.1 hr
   obtain ⟨⟨p,q,rfl,rfl⟩,hrun⟩:=ZeU ht hb hv hv'
   exact ⟨.bool (!b),by simp [eqGuard,binOp,hrun],.t (.lit _)⟩
  ·cases hr
 ·split at hr
  ·rename_i ht
   obtain ⟨e,ht⟩:=Ztj ht
   split at hr
   ·obtain ⟨b,hb,rfl⟩:=Option.map_eq_some_iff.1 hr
    obtain ⟨a,n,c,n',c',rfl,rfl,rfl⟩:=Zgj hb hv hv'
    have hrun:=ZgW (w:=w) ht a n c n' c'
    exact ⟨.bool a.isNone,by simp [eqGuard,binOp,hrun],.t (.lit _)⟩
   ·obtain ⟨b,hb,rfl⟩:=Option.map_eq_some_iff.1 hr
    obtain ⟨a,n,c,n',c',rfl,rfl,rfl⟩:=Zgj hb hv hv'
    have hrun:=ZgW (w:=w) ht a n c n' c'
    exact ⟨.bool (!a.isNone),by simp [eqGuard,binOp,hrun],.t (.lit _)⟩
   ·cases hr
  ·cases hr
theorem Zfo{t:TypeId}(h:ifT P t=true):P.isIface t=true:=by
 unfold ifT at h
 unfold Program.isIface
 split at h
 ·rename_i hu;rw [hu]
 ·cases h
theorem Zmx{ok:Nat→Nat→Prop}{L:Nat→Option Value}{op:BinOp}{xt:TypeId}{x y:Operand}{d d':AV}{a b:Value}{c:Bool}{w:World}(h:Zj0 P op xt x y d d'=some c)(ha:Rep w ok L d a)(hb:Rep w ok L d' b):(do eqGuard op xt x y a b;binOp op xt a b:Sem Value).run P w=.ok (.bool c) w:=by
 unfold Zj0 at h
 split at h
 ·split at h
  ·rename_i hc
   cases h
   obtain ⟨t,v,rfl⟩:∃t v,a=.iface t v:=by
    cases ha with
    | t ha=>cases ha with
      | err t v=>exact ⟨t,v,rfl⟩
   have eb:=ZY hb
   subst eb
   have hr:(Op.equal xt (.iface t v) .nilIface).run P w=.ok false w:=by
    unfold Op.equal Op.maxDepth
    exact run_equalIn_iface_nil w 9999 xt (Zfo hc.2) t v
   have h1:=hc.1
   cases x <;>cases y <;>simp [isC] at h1 <;>simp [eqGuard,binOp,hr]
  ·cases h
 ·split at h
  ·rename_i hc
   cases h
   obtain ⟨t,v,rfl⟩:∃t v,a=.iface t v:=by
    cases ha with
    | t ha=>cases ha with
      | err t v=>exact ⟨t,v,rfl⟩
   have eb:=ZY hb
   subst eb
   have hr:(Op.equal xt (.iface t v) .nilIface).run P w=.ok false w:=by
    unfold Op.equal Op.maxDepth
    exact run_equalIn_iface_nil w 9999 xt (Zfo hc.2) t v
   have h1:=hc.1
   cases x <;>cases y <;>simp [isC] at h1 <;>simp [eqGuard,binOp,hr]
  ·cases h
 ·cases h
theorem Zlz{op:BinOp}{xt:TypeId}{x y:Operand}{a b:Value}{c:Bool}{w:World}(h:Zjr P op xt x y a b=some c):(do eqGuard op xt x y a b;binOp op xt a b:Sem Value).run P w=.ok (.bool c) w:=by
 unfold Zjr at h
 split at h
 ·split at h
  ·rename_i hc
   cases h
   have hr:(Op.equal xt .nilIface .nilIface).run P w=.ok true w:=by
    unfold Op.equal Op.maxDepth
    exact run_equalIn_nil_nil_at w 9999 xt (Zfo hc.2)
   have h1:=hc.1
   cases x <;>cases y <;>simp [isC] at h1 <;>simp [eqGuard,binOp,hr]
  ·cases h
 ·split at h
  ·rename_i hc
   cases h
   have hr:(Op.equal xt .nilIface .nilIface).run P w=.ok true w:=by
    unfold Op.equal Op.maxDepth
    exact run_equalIn_nil_nil_at w 9999 xt (Zfo hc.2)
   have h1:=hc.1
   cases x <;>cases y <;>simp [isC] at h1 <;>simp [eqGuard,binOp,hr]
  ·cases h
 ·cases h
end
section
variable{P:Program}{E:Nat→Nat→Prop}{w w' w1:World}{N:Nat}{T:Nat→AV}{B B' B1:Nat→Option AB}{L L' L1:Nat→Option Value}{a:Act}{up:List (Nat × Option AB)}{ok:Nat→Nat→Prop}
structure Run (B:Nat→Option AB) (L:Nat→Option Value) (B':Nat→Option AB) (L':Nat→Option Value) (w w':World):Prop where
 mod:Mod (MO B L) w w'
 own:∀id blk v g,B' id=some blk→L' id=some v→gOf v=some g→g<w.heap.size→∃id0 blk0 v0,B id0=some blk0∧L id0=some v0∧gOf v0=some g∧∀o,blk0.frz o→blk.frz o
-- forgetting
mutual
theorem RepT.ren{ρ:Nat→Option Nat}:∀(d:AV) (v:Value),RepT w ok d v→RepT w ok (d.ren ρ) v
 | .any,v,h=>by simpa [AV.ren] using h
 | .lit u,v,h=>by simpa [AV.ren] using h
 | .nl k,v,h=>by simpa [AV.ren] using h
 | .err,v,h=>by simpa [AV.ren] using h
 | .sl k es,v,h=>by simpa [AV.ren] using h
 | .mem cs,v,h=>by simpa [AV.ren] using h
 | .own b n,v,h=>by cases h
 | .ptr b o,v,h=>by cases h
 | .rptr b k i j,v,h=>by cases h
 | .mp b,v,h=>by cases h
 | .agg cs,v,h=>by
   cases h with
   | agg hn hh=>exact .agg (by rw [(RepT.renL cs _ hh).1];exact hn) (RepT.renL cs _ hh).2
 | .tup cs,v,h=>by
   cases h with
   | tup hn hh=>exact .tup (by rw [(RepT.renL cs _ hh).1];exact hn) (RepT.renL cs _ hh).2
 | .clo f cs,v,h=>by
   cases h with
   | clo hn hh=>exact .clo (by rw [(RepT.renL cs _ hh).1];exact hn) (RepT.renL cs _ hh).2
theorem RepT.renL{ρ:Nat→Option Nat}:∀(cs:List AV) (f:Nat→Value),(∀(i:Nat) (d:AV),cs[i]?=some d→RepT w ok d (f i))→(AV.renL ρ cs).length=cs.length∧∀(i:Nat) (d:AV),(AV.renL ρ cs)[i]?=some d→RepT w ok d (f i)
 | [],f,h=>⟨rfl,fun i d hi=>by simp [AV.renL] at hi⟩
 | c::cs,f,h=>by
   have h1:=RepT.renL (ρ:=ρ) cs (fun i=>f (i+1)) fun i d hi=>h (i+1) d (by simpa using hi)
   refine ⟨by simp [AV.renL,h1.1],fun i d hi=>?_⟩
   cases i with
   | zero=>simp [AV.renL] at hi;subst hi;exact RepT.ren c _ (h 0 c rfl)
   | succ i=>exact h1.2 i d (by simpa [AV.renL] using hi)
end
mutual
theorem Rep.ren{ρ:Nat→Option Nat}(hρ:∀b i,ρ b=some i→L' i=L b):∀(d:AV) (v:Value),Rep w ok L d v→Rep w ok L' (d.ren ρ) v
 | .any,v,h=>by simpa [AV.ren] using (Rep.t (h.toT rfl):Rep w ok L' _ _)
 | .lit u,v,h=>by simpa [AV.ren] using (Rep.t (h.toT rfl):Rep w ok L' _ _)
 | .nl k,v,h=>by simpa [AV.ren] using (Rep.t (h.toT rfl):Rep w ok L' _ _)
 | .err,v,h=>by simpa [AV.ren] using (Rep.t (h.toT rfl):Rep w ok L' _ _)
 | .sl k es,v,h=>by simpa [AV.ren] using (Rep.t (h.toT rfl):Rep w ok L' _ _)
 | .mem cs,v,h=>by simpa [AV.ren] using (Rep.t (h.toT rfl):Rep w ok L' _ _)
 | .own b n,v,h=>by
   cases h with
   | t h=>cases h
   | own hL=>
     simp only [AV.ren]
     split
     ·rename_i i hi
      exact .own (by rw [hρ b i hi];exact hL)
     ·exact .t (.any _)
 | .ptr b o,v,h=>by
   cases h with
   | t h=>cases h
   | ptr hL=>
     simp only [AV.ren]
     split
     ·rename_i i hi
      exact .ptr (by rw [hρ b i hi];exact hL)
     ·exact .t (.any _)
 | .rptr b k i j,v,h=>by
   cases h with
   | t h=>cases h
   | rptr hL=>
     simp only [AV.ren]
     split
     ·rename_i i hi
      exact .rptr (by rw [hρ b i hi];exact hL)
     ·exact .t (.any _)
 | .mp b,v,h=>by
   cases h with
   | t h=>cases h
   | mp hL=>
     simp only [AV.ren]
     split
     ·rename_i i hi
      exact .mp (by rw [hρ b i hi];exact hL)
     ·exact .t (.any _)
 | .agg cs,v,h=>by
   obtain ⟨vs,rfl,hn,hh⟩:=ZfZ h
   rw [AV.ren]
   exact .agg (by rw [(Rep.renL hρ cs _ hh).1];exact hn) (Rep.renL hρ cs _ hh).2
 | .tup cs,v,h=>by
   obtain ⟨vs,rfl,hn,hh⟩:=Zkf h
   rw [AV.ren]
   exact .tup (by rw [(Rep.renL hρ cs _ hh).1];exact hn) (Rep.renL hρ cs _ hh).2
 | .clo f cs,v,h=>by
   have:∃vs,v=.func (.func f) #[] vs∧vs.size=cs.length∧∀(i:Nat) (d:AV),cs[i]?=some d→Rep w ok L d (vs.getD i undef):=by
    cases h with
    | t h=>cases h with|clo h1 h2=>exact ⟨_,rfl,h1,fun i d hi=>.t (h2 i d hi)⟩
    | clo h1 h2=>exact ⟨_,rfl,h1,h2⟩
   obtain ⟨vs,rfl,hn,hh⟩:=this
   rw [AV.ren]
   exact .clo (by rw [(Rep.renL hρ cs _ hh).1];exact hn) (Rep.renL hρ cs _ hh).2
theorem Rep.renL{ρ:Nat→Option Nat}(hρ:∀b i,ρ b=some i→L' i=L b):∀(cs:List AV) (f:Nat→Value),(∀(i:Nat) (d:AV),cs[i]?=some d→Rep w ok L d (f i))→(AV.renL ρ cs).length=cs.length∧∀(i:Nat) (d:AV),(AV.renL ρ cs)[i]?=some d→Rep w ok L' d (f i)
 | [],f,h=>⟨rfl,fun i d hi=>by simp [AV.renL] at hi⟩
 | c::cs,f,h=>by
   have h1:=Rep.renL hρ cs (fun i=>f (i+1)) fun i d hi=>h (i+1) d (by simpa using hi)
   refine ⟨by simp [AV.renL,h1.1],fun i d hi=>?_⟩
   cases i with
   | zero=>simp [AV.renL] at hi;subst hi;exact Rep.ren hρ c _ (h 0 c rfl)
   | succ i=>exact h1.2 i d (by simpa [AV.renL] using hi)
end
theorem JW:∀{l:List Nat} {i j b:Nat},KU l=true→l[i]?=some b→l[j]?=some b→i=j
 | [],_,_,_,_,h,_=>by simp at h
 | x::l,0,0,_,_,_,_=>rfl
 | x::l,0,j+1,b,hn,hi,hj=>by
   rw [KU,Bool.and_eq_true] at hn
   simp at hi hj
   subst hi
   have:=List.mem_of_getElem? hj
   simp [this] at hn
 | x::l,i+1,0,b,hn,hi,hj=>by
   rw [KU,Bool.and_eq_true] at hn
   simp at hi hj
   subst hj
   have:=List.mem_of_getElem? hi
   simp [this] at hn
 | x::l,i+1,j+1,b,hn,hi,hj=>by
   rw [KU,Bool.and_eq_true] at hn
   exact congrArg (·+1) (JW hn.2 (by simpa using hi) (by simpa using hj))
def ZnV(P:Program)(f:FuncId)(bin:List AB)(args:List AV)(r:AV)(outs:List (Nat × AB)):Prop:=
 ∀(w:World) (E:Nat→Nat→Prop) (L:Nat→Option Value) (vs:Array Value),BsRel E (fun i=>bin[i]?) L w→(∀i,bin.length≤i→L i=none)→RV (Rep w (okS E (fun i=>bin[i]?) L) L) args vs.toList→
  Calls P f vs w (fun e w'=>∃v L',e=.returned v∧(∀i u,i<bin.length→L i=some u→L' i=some u)∧BsRel E (YE outs) L' w'∧Rep w' (okS E (YE outs) L') L' r v∧Run (fun i=>bin[i]?) L (YE outs) L' w w')
theorem ZbA{k:List AB→Tr}{x:AV × List (Nat × Option AB) × Nat}:∀{ids:List Nat},(ZeQ ids k).run T B=some x→∃bs,(k bs).run T B=some x∧bs.length=ids.length∧∀(i:Nat) (b:Nat),ids[i]?=some b→∃y,bs[i]?=some y∧B b=some y
 | [],h=>⟨[],h,rfl,fun i b hi=>by simp at hi⟩
 | c::ids,h=>by
   simp only [ZeQ,Tr.run] at h
   split at h
   ·rename_i y hy
    obtain ⟨bs,h1,h2,h3⟩:=ZbA (k:=fun bs=>k (y::bs)) h
    refine ⟨y::bs,h1,by simp [h2],fun i b hi=>?_⟩
    cases i with
    | zero=>simp at hi;subst hi;exact ⟨y,rfl,hy⟩
    | succ i=>simpa using h3 i b (by simpa using hi)
   ·cases h
def LinP(E:Nat→Nat→Prop)(B:Nat→Option AB)(L:Nat→Option Value)(w:World)(ids fs:List Nat)(i0:Nat)(d d':AV):Prop:=
 (∀v,Rep w (okS E B L) L d v→∀ok',FrzOk E B L w fs ok'→RepT w ok' d' v)∨∃(q b:Nat),ids[q]?=some b∧((∃n,d=.own b n∧d'=.own (i0+q) n)∨∃o,d=.ptr b o∧d'=.ptr (i0+q) o)
theorem LinP.fs{ids fs fs':List Nat}{i0:Nat}{d d':AV}(h:LinP E B L w ids fs i0 d d')(hs:∀b∈fs,b∈fs'):LinP E B L w ids fs' i0 d d':=by
 rcases h with h|h
 ·exact .inl fun v hv ok' hf=>h v hv ok' (hf.sub hs)
 ·exact .inr h
theorem LinP.front{ids i1 fs:List Nat}{i0:Nat}{d d':AV}(h:LinP E B L w ids fs (i0+i1.length) d d'):LinP E B L w (i1++ids) fs i0 d d':=by
 rcases h with h|⟨q,b,h1,h2⟩
 ·exact .inl h
 ·refine .inr ⟨i1.length+q,b,by rw [List.getElem?_append_right (by omega),Nat.add_sub_cancel_left];exact h1,?_⟩
  rwa [show i0+(i1.length+q)=i0+i1.length+q by omega]
theorem LinP.back{ids i1 fs:List Nat}{i0:Nat}{d d':AV}(h:LinP E B L w i1 fs i0 d d'):LinP E B L w (i1++ids) fs i0 d d':=by
 rcases h with h|⟨q,b,h1,h2⟩
 ·exact .inl h
 ·have:=(List.getElem?_eq_some_iff.1 h1).1
  exact .inr ⟨q,b,by rw [List.getElem?_append_left this];exact h1,h2⟩
theorem UQ(h:BsRel E B L w):∀(ds:List AV) (i0:Nat) (k:List AV→List Nat→List Nat→Tr) (x:AV × List (Nat × Option AB) × Nat),(JD ds i0 k).run T B=some x→
  ∃as ids fs,(k as ids fs).run T B=some x∧as.length=ds.length∧∀(i:Nat) (d d':AV),ds[i]?=some d→as[i]?=some d'→LinP E B L w ids fs i0 d d'
 | [],i0,k,x,hx=>⟨[],[],[],by simpa [JD] using hx,rfl,fun i d d' h=>by simp at h⟩
 | d::ds,i0,k,x,hx=>by
   have plain:((res 3 d fun d' f1=>JD ds i0 fun as ids f2=>k (d'::as) ids (f1++f2)).run T B=some x)→
     ∃as ids fs,(k as ids fs).run T B=some x∧as.length=(d::ds).length∧∀(i:Nat) (e e':AV),(d::ds)[i]?=some e→as[i]?=some e'→LinP E B L w ids fs i0 e e':=fun hx=>by
    obtain ⟨d',f1,h1,h2⟩:=Qv h 3 d _ _ hx
    obtain ⟨as,ids,f2,h3,h4,h5⟩:=UQ h ds i0 _ x h1
    refine ⟨d'::as,ids,f1++f2,h3,by simp [h4],fun i e e' h6 h7=>?_⟩
    cases i with
    | zero=>simp at h6 h7;subst h6 h7;exact .inl fun v hv ok' hf=>h2 v hv ok' (hf.sub fun b hb=>by simp [hb])
    | succ i=>exact (h5 i e e' (by simpa using h6) (by simpa using h7)).fs fun b hb=>by simp [hb]
   have nil:∀n,d=.nl n→((JD ds i0 fun as ids fs=>k (.nl n::as) ids fs).run T B=some x)→
     ∃as ids fs,(k as ids fs).run T B=some x∧as.length=(d::ds).length∧∀(i:Nat) (e e':AV),(d::ds)[i]?=some e→as[i]?=some e'→LinP E B L w ids fs i0 e e':=fun n hd hx=>by
    obtain ⟨as,ids,f2,h3,h4,h5⟩:=UQ h ds i0 _ x hx
    refine ⟨.nl n::as,ids,f2,h3,by simp [h4],fun i e e' h6 h7=>?_⟩
    cases i with
    | zero=>simp at h6 h7;subst h6 h7;subst hd;exact .inl fun v hv ok' hf=>(hv.toT rfl).mono (fun _ _ _ _ h=>h) hf.old
    | succ i=>exact h5 i e e' (by simpa using h6) (by simpa using h7)
   have Zmu:∀(b n:Nat),d=.own b n→((JD ds (i0+1) fun as ids fs=>k (.own i0 n::as) (b::ids) fs).run T B=some x)→
     ∃as ids fs,(k as ids fs).run T B=some x∧as.length=(d::ds).length∧∀(i:Nat) (e e':AV),(d::ds)[i]?=some e→as[i]?=some e'→LinP E B L w ids fs i0 e e':=fun b n hd hx=>by
    obtain ⟨as,ids,fs,h3,h4,h5⟩:=UQ h ds (i0+1) _ x hx
    refine ⟨.own i0 n::as,b::ids,fs,h3,by simp [h4],fun i e e2 h6 h7=>?_⟩
    cases i with
    | zero=>simp at h6 h7;subst h6 h7;exact .inr ⟨0,b,rfl,.inl ⟨n,hd,rfl⟩⟩
    | succ i=>exact LinP.front (i1:=[b]) (h5 i e e2 (by simpa using h6) (by simpa using h7))
   cases d <;>first
    | exact plain (by simpa [JD] using hx)
    | exact Zmu _ _ rfl (by simpa [JD] using hx)
    | exact nil _ rfl (by simpa [JD] using hx)
def LinA(E:Nat→Nat→Prop)(B:Nat→Option AB)(L:Nat→Option Value)(w:World)(ids fs:List Nat)(i0:Nat)(d d':AV):Prop:=
 LinP E B L w ids fs i0 d d'∨∃cs cs',d=.agg cs∧d'=.agg cs'∧cs'.length=cs.length∧∀(j:Nat) (c c':AV),cs[j]?=some c→cs'[j]?=some c'→LinP E B L w ids fs i0 c c'
theorem LinA.fs{ids fs fs':List Nat}{i0:Nat}{d d':AV}(h:LinA E B L w ids fs i0 d d')(hs:∀b∈fs,b∈fs'):LinA E B L w ids fs' i0 d d':=by
 rcases h with h|⟨cs,cs',h1,h2,h3,h4⟩
 ·exact .inl (h.fs hs)
 ·exact .inr ⟨cs,cs',h1,h2,h3,fun j c c' h5 h6=>(h4 j c c' h5 h6).fs hs⟩
theorem LinA.front{ids i1 fs:List Nat}{i0:Nat}{d d':AV}(h:LinA E B L w ids fs (i0+i1.length) d d'):LinA E B L w (i1++ids) fs i0 d d':=by
 rcases h with h|⟨cs,cs',h1,h2,h3,h4⟩
 ·exact .inl h.front
 ·exact .inr ⟨cs,cs',h1,h2,h3,fun j c c' h5 h6=>(h4 j c c' h5 h6).front⟩
theorem LinA.back{ids i1 fs:List Nat}{i0:Nat}{d d':AV}(h:LinA E B L w i1 fs i0 d d'):LinA E B L w (i1++ids) fs i0 d d':=by
 rcases h with h|⟨cs,cs',h1,h2,h3,h4⟩
 ·exact .inl h.back
 ·exact .inr ⟨cs,cs',h1,h2,h3,fun j c c' h5 h6=>(h4 j c c' h5 h6).back⟩
theorem Kb(h:BsRel E B L w):∀(ms:List Bool) (ds:List AV) (i0:Nat) (k:List AV→List Nat→List Nat→Tr) (x:AV × List (Nat × Option AB) × Nat),(US ms ds i0 k).run T B=some x→
  ∃as ids fs,(k as ids fs).run T B=some x∧as.length=ds.length∧∀(i:Nat) (d d':AV),ds[i]?=some d→as[i]?=some d'→LinA E B L w ids fs i0 d d'
 | ms,[],i0,k,x,hx=>by
   refine ⟨[],[],[],?_,rfl,fun i d d' h=>by simp at h⟩
   cases ms with
   | nil=>simpa [US] using hx
   | cons m ms=>cases m <;>simpa [US] using hx
 | ms,d::ds,i0,k,x,hx=>by
   have plain:∀(ms':List Bool),((res 3 d fun d' f1=>US ms' ds i0 fun as ids f2=>k (d'::as) ids (f1++f2)).run T B=some x)→
     ∃as ids fs,(k as ids fs).run T B=some x∧as.length=(d::ds).length∧∀(i:Nat) (e e':AV),(d::ds)[i]?=some e→as[i]?=some e'→LinA E B L w ids fs i0 e e':=fun ms' hx=>by
    obtain ⟨d',f1,h1,h2⟩:=Qv h 3 d _ _ hx
    obtain ⟨as,ids,f2,h3,h4,h5⟩:=Kb h ms' ds i0 _ x h1
    refine ⟨d'::as,ids,f1++f2,h3,by simp [h4],fun i e e' h6 h7=>?_⟩
    cases i with
    | zero=>simp at h6 h7;subst h6 h7;exact .inl (.inl fun v hv ok' hf=>h2 v hv ok' (hf.sub fun b hb=>by simp [hb]))
    | succ i=>exact (h5 i e e' (by simpa using h6) (by simpa using h7)).fs fun b hb=>by simp [hb]
   cases ms with
   | nil=>exact plain [] (by simpa [US] using hx)
   | cons m ms=>
     cases m with
     | false=>exact plain ms (by simpa [US] using hx)
     | true=>
       have Zmu:∀(b:Nat) (e':AV),((∃n,d=.own b n∧e'=.own i0 n)∨∃o,d=.ptr b o∧e'=.ptr i0 o)→((US ms ds (i0+1) fun as ids fs=>k (e'::as) (b::ids) fs).run T B=some x)→
         ∃as ids fs,(k as ids fs).run T B=some x∧as.length=(d::ds).length∧∀(i:Nat) (e e':AV),(d::ds)[i]?=some e→as[i]?=some e'→LinA E B L w ids fs i0 e e':=fun b e' hd hx=>by
        obtain ⟨as,ids,fs,h3,h4,h5⟩:=Kb h ms ds (i0+1) _ x hx
        refine ⟨e'::as,b::ids,fs,h3,by simp [h4],fun i e e2 h6 h7=>?_⟩
        cases i with
        | zero=>simp at h6 h7;subst h6 h7;exact .inl (.inr ⟨0,b,rfl,hd⟩)
        | succ i=>exact LinA.front (i1:=[b]) (h5 i e e2 (by simpa using h6) (by simpa using h7))
       have strct:∀(cs:List AV),d=.agg cs→((JD cs i0 fun cs' i1 f1=>US ms ds (i0+i1.length) fun as ids f2=>k (.agg cs'::as) (i1++ids) (f1++f2)).run T B=some x)→
         ∃as ids fs,(k as ids fs).run T B=some x∧as.length=(d::ds).length∧∀(i:Nat) (e e':AV),(d::ds)[i]?=some e→as[i]?=some e'→LinA E B L w ids fs i0 e e':=fun cs hd hx=>by
        obtain ⟨cs',i1,f1,h1,h2,h2'⟩:=UQ h cs i0 _ x hx
        obtain ⟨as,ids,f2,h3,h4,h5⟩:=Kb h ms ds (i0+i1.length) _ x h1
        refine ⟨.agg cs'::as,i1++ids,f1++f2,h3,by simp [h4],fun i e e2 h6 h7=>?_⟩
        cases i with
        | zero=>simp at h6 h7;subst h6 h7;exact .inr ⟨cs,cs',hd,rfl,h2,fun j c c' h8 h9=>((h2' j c c' h8 h9).back).fs fun b hb=>by simp [hb]⟩
        | succ i=>exact ((h5 i e e2 (by simpa using h6) (by simpa using h7)).front).fs fun b hb=>by simp [hb]
       cases d <;>first
        | exact plain ms (by simpa [US] using hx)
        | exact Zmu _ _ (.inl ⟨_,rfl,rfl⟩) (by simpa [US] using hx)
        | exact Zmu _ _ (.inr ⟨_,rfl,rfl⟩) (by simpa [US] using hx)
        | exact strct _ rfl (by simpa [US] using hx)
theorem ZgF{outs:List (Nat × AB)}:∀{ids:List Nat} {i0 x:Nat} {o:Option AB},ZD (Kp outs ids i0) x=some o→∃j,ids[j]?=some x∧o=YE outs (i0+j)
 | [],i0,x,o,h=>by simp [Kp,ZD] at h
 | b::ids,i0,x,o,h=>by
   simp only [Kp,ZD] at h
   split at h
   ·rename_i e;subst e;cases h;exact ⟨0,rfl,rfl⟩
   ·obtain ⟨j,h1,h2⟩:=ZgF h
    exact ⟨j+1,by simpa using h1,by rw [h2];congr 1;omega⟩
theorem Zen{outs:List (Nat × AB)}:∀{ids:List Nat} {i0 x j:Nat},ids[j]?=some x→(ZD (Kp outs ids i0) x).isSome=true
 | [],i0,x,j,h=>by simp at h
 | b::ids,i0,x,0,h=>by simp at h;subst h;simp [Kp,ZD]
 | b::ids,i0,x,j+1,h=>by
   simp only [Kp,ZD]
   split
   ·rfl
   ·exact Zen (j:=j) (by simpa using h)
theorem Zeq{m nx:Nat}{outs:List (Nat × AB)}:∀{c x:Nat} {o:Option AB},ZD (upNew m nx outs c) x=some o→nx≤x∧x<nx+c∧o=YE outs (m+(x-nx))
 | 0,x,o,h=>by simp [upNew,ZD] at h
 | c+1,x,o,h=>by
   simp only [upNew,ZD] at h
   split at h
   ·rename_i e;subst e;cases h;exact ⟨by omega,by omega,by congr 1;omega⟩
   ·obtain ⟨h1,h2,h3⟩:=Zeq h
    exact ⟨h1,by omega,h3⟩
end
theorem Zlp{ids fs:List Nat}(h:(ids.all fun b=>!fs.contains b)=true):∀b∈ids,b ∉ fs:=fun b hb=>by
 have:=List.all_eq_true.1 h b hb
 simpa using this
section
variable{P:Program}{E:Nat→Nat→Prop}{w w' w1:World}{N:Nat}{T:Nat→AV}{B B' B1:Nat→Option AB}{L L' L1:Nat→Option Value}{a:Act}{up:List (Nat × Option AB)}{ok:Nat→Nat→Prop}
theorem BRel.notU_any{id:Nat}{blk:AB}(h:BRel w ok L id blk){v:Value}{g o:Nat}(hv:L id=some v)(hg:gOf v=some g){z:Int}(hc:w.cell? ⟨g,o,none⟩=some (.int .u32 z)):False:=by
 cases blk with
 | row e k es fz=>
   obtain ⟨v',xs,h1,h2,_⟩:=h
   rw [hv] at h1;cases h1
   rcases h2.own.2 with ⟨h3,_⟩|⟨g',cap,cur,h3,_,h4,_⟩
   ·subst h3;simp [gOf] at hg
   ·subst h3
    cases hg
    have:cur[o]?=some (.int .u32 z):=by simpa [World.cell?,h4] using hc
    exact h2.all _ cur e (0,0) rfl h4 _ (Array.mem_of_getElem? this) z rfl
 | box t cs fz=>
   obtain ⟨g',cells,h1,h2,_,_,h5⟩:=h
   rw [hv] at h1;cases h1
   cases hg
   have:cells[o]?=some (.int .u32 z):=by simpa [World.cell?,h2] using hc
   exact h5 _ (Array.mem_of_getElem? this) z rfl
 | mp es=>
   obtain ⟨g',ents,c,h1,h2,_⟩:=h
   rw [hv] at h1;cases h1
   cases hg
   simp [World.cell?,h2] at hc
theorem Zbx:∀{l:List Nat} {b i:Nat},Qo l b=some i→l[i]?=some b
 | [],_,_,h=>by simp [Qo] at h
 | x::l,b,i,h=>by
   simp only [Qo] at h
   split at h
   ·rename_i e;cases h;subst e;rfl
   ·obtain ⟨j,h1,rfl⟩:=Option.map_eq_some_iff.1 h
    simpa using Zbx h1
theorem AB.ren_frz{ρ:Nat→Option Nat}{blk:AB}:(blk.ren ρ).frz=blk.frz:=by cases blk <;>rfl
theorem Zc0:∀(l ids:List Nat),∃ex,Zgh ids l=ids++ex
 | [],ids=>⟨[],by simp [Zgh]⟩
 | b::l,ids=>by
   simp only [Zgh]
   split
   ·exact Zc0 l ids
   ·obtain ⟨ex,h⟩:=Zc0 l (ids++[b])
    exact ⟨b::ex,by rw [h];simp⟩
theorem Zdt{x:AV × List (Nat × Option AB) × Nat}:∀{n:Nat} {ids:List Nat} {k:List Nat→Tr},(Zby n ids k).run T B=some x→∃ex,(k (ids++ex)).run T B=some x
 | 0,ids,k,h=>⟨[],by simpa [Zby] using h⟩
 | n+1,ids,k,h=>by
   simp only [Zby] at h
   obtain ⟨bs,h1,_⟩:=ZbA h
   obtain ⟨ex,h2⟩:=Zdt h1
   obtain ⟨ex0,h3⟩:=Zc0 (AB.refsL bs) ids
   rw [h3,List.append_assoc] at h2
   exact ⟨ex0++ex,h2⟩
theorem Zcg(ρ:Nat→Option Nat):∀(o:List (Nat × AB)) (j:Nat),YE (VZ ρ o) j=(YE o j).map (AB.ren ρ)
 | [],j=>rfl
 | (i,b)::l,j=>by
   simp only [VZ,YE]
   split
   ·rfl
   ·exact Zcg ρ l j
theorem BRel.moveR{ok':Nat→Nat→Prop}{id id':Nat}{blk:AB}{ρ:Nat→Option Nat}(h:BRel w ok L id blk)(hρ:∀b i,ρ b=some i→L' i=L b)(hL:∀v,L id=some v→L' id'=some v)(hok:∀b o v,ok b o→w.cell? ⟨b,o,none⟩=some v→ok' b o):BRel w ok' L' id' (blk.ren ρ):=by
 cases blk with
 | row e k es fz=>
   obtain ⟨v,xs,h1,h2,h3,h4,h5⟩:=h
   exact ⟨v,xs,hL _ h1,h2,h3,h4,fun i j x d h6 h7=>by
    obtain ⟨u,h8,h9⟩:=h5 i j x d h6 h7
    exact ⟨u,h8,h9.mono (fun _ _ _ _ h=>h) hok⟩⟩
 | box t cs fz=>
   obtain ⟨g,cells,h1,h2,h3,h4,h5⟩:=h
   have h6:=Rep.renL (L':=L') hρ cs (fun i=>cells.getD i undef) h4
   exact ⟨g,cells,hL _ h1,h2,by rw [h6.1];exact h3,fun i d hi=>(h6.2 i d hi).mono (fun _ _ _ _ h=>h) hok (fun _ _ h=>h),h5⟩
 | mp es=>
   obtain ⟨g,ents,c,h1,h2,h3⟩:=h
   exact ⟨g,ents,c,hL _ h1,h2,h3⟩
theorem ZmW(h:BsRel E B L w){f:FuncId}{ms:List Bool}{g:List AV→List AB→Option (AV × List (Nat × AB))}(hg:∀bin args r outs,g args bin=some (r,outs)→ZnV P f bin args r outs){ds:List AV}{vs:Array Value}(hv:RV (Rep w (okS E B L) L) ds vs.toList){nx nx':Nat}{d:AV}(hr:(Zsh ms g ds nx).run T B=some (d,up,nx'))(hfree:∀id,nx≤id→id<nx'→L id=none):
  Calls P f vs w (fun e w'=>∃v L',e=.returned v∧Aft E B L (ZT B up) L' w w'∧Rep w' (okS E (ZT B up) L') L' d v∧∀id,L id=none→L' id≠none→nx≤id∧id<nx'):=by
 unfold Zsh at hr
 obtain ⟨as,ids0,fs,hr,hal,hargs⟩:=Kb h ms ds 0 _ _ hr
 obtain ⟨ex,hr⟩:=Zdt hr
 have hargs:∀(i:Nat) (d d':AV),ds[i]?=some d→as[i]?=some d'→LinA E B L w (ids0++ex) fs 0 d d':=fun i d d' h1 h2=>(hargs i d d' h1 h2).back
 generalize ids0++ex=ids at hr hargs
 split at hr
 ·rename_i hc
  obtain ⟨hnd,hnf⟩:=hc
  have hnf:=Zlp hnf
  obtain ⟨bs,hr,hbl,hbs⟩:=ZbA hr
  ·obtain ⟨hr,_⟩:=Y4 hr
   split at hr
   ·rename_i r outs hgr
    ·simp only [Tr.run,Option.some.injEq,Prod.mk.injEq] at hr
     obtain ⟨rfl,rfl,rfl⟩:=hr
     -- the state in which fs are kept
     have hB1:Aft E B L (ZT B (YY B fs)) L w w:=(Step.frz h fs).aft h
     have h1:=hB1.bs
     have hBid:∀(i b:Nat),ids[i]?=some b→∃y,bs[i]?=some y∧ZT B (YY B fs) b=some y:=fun i b hi=>by
      obtain ⟨y,h2,h3⟩:=hbs i b hi
      refine ⟨y,h2,?_⟩
      rw [QQ (by rw [UC,if_neg (hnf b (List.mem_of_getElem? hi))])]
      exact h3
     generalize hBB:ZT B (YY B fs)=BB at*
     -- the callee's numbers and cells
     let Lc:Nat→Option Value:=fun i=>(ids[i]?).bind L
     have Lc_get:∀(i b:Nat),ids[i]?=some b→Lc i=L b:=fun i b hi=>by simp only [Lc,hi,Option.bind_some]
     let Ec:Nat→Nat→Prop:=fun b o=>E b o∧∀id blk v,BB id=some blk→id ∉ ids→L id=some v→gOf v=some b→blk.frz o
     have hρ:∀b i,Qo ids b=some i→Lc i=L b:=fun b i hi=>Lc_get i b (Zbx hi)
     have bin_id:∀(i:Nat) (y:AB),(bs.map (AB.ren (Qo ids)))[i]?=some y→∃b y0,ids[i]?=some b∧BB b=some y0∧y=y0.ren (Qo ids):=fun i y hi=>by
      rw [List.getElem?_map] at hi
      obtain ⟨y0,hi0,rfl⟩:=Option.map_eq_some_iff.1 hi
      have hlt:=(List.getElem?_eq_some_iff.1 hi0).1
      have h2:ids[i]?=some (ids[i]'(by omega)):=List.getElem?_eq_getElem _
      obtain ⟨y',h3,h4⟩:=hBid i _ h2
      rw [hi0] at h3;cases h3
      exact ⟨_,_,h2,h4,rfl⟩
     have okc:∀b o,okS E BB L b o→okS Ec (fun i=>(bs.map (AB.ren (Qo ids)))[i]?) Lc b o:=fun b o hok=>⟨⟨hok.1,fun id blk v h2 _ h3 h4=>hok.2 id blk v h2 h3 h4⟩,fun i blk v h2 h3 h4=>by
      obtain ⟨b',y0,h5,h6,rfl⟩:=bin_id i blk h2
      rw [Lc_get i b' h5] at h3
      rw [AB.ren_frz]
      exact hok.2 b' y0 v h6 h3 h4⟩
     have hlimb:∀b o z,w.cell? ⟨b,o,none⟩=some (.int .u32 z)→Ec b o:=fun b o z hz=>⟨h1.limb b o z hz,fun id blk v h2 _ h3 h4=>((h1.blk id blk h2).notU_any h3 h4 hz).elim⟩
     have hcall:BsRel Ec (fun i=>(bs.map (AB.ren (Qo ids)))[i]?) Lc w:=by
      refine ⟨fun i blk h2=>?_,fun i blk v g' h2 h3 h4 o=>?_,fun g' o hg'=>⟨h1.fresh g' o hg',fun id blk v h2 _ h3 h4=>absurd ((h1.blk id blk h2).g_lt h3 h4) (by omega)⟩,hlimb,fun i i' blk blk' v v' g' h2 h3 h4 h5 h6 h7=>?_,h1.glob.mono (fun _ _ _ _ h=>h) (fun b o _ h8 _=>okc b o h8) fun _ _=>rfl⟩
      ·obtain ⟨b,y0,h5,h6,rfl⟩:=bin_id i blk h2
       exact (h1.blk b y0 h6).moveR hρ (fun v hv=>by rw [Lc_get i b h5];exact hv) fun b o _ h8 _=>okc b o h8
      ·obtain ⟨b,y0,h5,h6,rfl⟩:=bin_id i blk h2
       rw [Lc_get i b h5] at h3
       refine ⟨h1.ext b y0 v g' h6 h3 h4 o,fun id blk' v' h8 h9 h10 h11=>?_⟩
       have:=h1.inj b id y0 blk' v v' g' h6 h8 h3 h10 h4 h11
       exact absurd (this▸List.mem_of_getElem? h5) h9
      ·obtain ⟨b,y0,h8,h9,rfl⟩:=bin_id i blk h2
       obtain ⟨b',y1,h10,h11,rfl⟩:=bin_id i' blk' h3
       rw [Lc_get i b h8] at h4
       rw [Lc_get i' b' h10] at h5
       have:=h1.inj b b' y0 y1 v v' g' h9 h11 h4 h5 h6 h7
       subst this
       exact JW hnd h8 h10
     have hLcn:∀i,(bs.map (AB.ren (Qo ids))).length≤i→Lc i=none:=fun i hi=>by
      rw [List.length_map] at hi
      have:ids[i]?=none:=List.getElem?_eq_none (by omega)
      simp only [Lc,this,Option.bind_none]
     have hargsR:RV (Rep w (okS Ec (fun i=>(bs.map (AB.ren (Qo ids)))[i]?) Lc) Lc) as vs.toList:=by
      refine ⟨by rw [hv.1,hal],fun i d' hi=>?_⟩
      have hlt:=(List.getElem?_eq_some_iff.1 hi).1
      have h2:ds[i]?=some (ds[i]'(by omega)):=List.getElem?_eq_getElem _
      obtain ⟨u,h3,h4⟩:=hv.2 i _ h2
      refine ⟨u,h3,?_⟩
      have cell:∀(d d':AV) (u:Value),LinP E B L w ids fs 0 d d'→Rep w (okS E B L) L d u→Rep w (okS Ec (fun i=>(bs.map (AB.ren (Qo ids)))[i]?) Lc) Lc d' u:=fun d d' u hlp h4=>by
       rcases hlp with h5|⟨q,b,h5,h6⟩
       ·have:=h5 u h4 (okS E BB L) (by rw [←hBB];exact FrzOk.of h fs)
        exact .t (this.mono (fun _ _ _ _ h=>h) fun b o _ h8 _=>okc b o h8)
       ·rw [Nat.zero_add] at h6
        rcases h6 with ⟨n,h7,h8⟩|⟨o,h7,h8⟩
        ·rw [h7] at h4
         obtain ⟨ad,c,rfl,hL⟩:=h4.own_inv
         rw [h8]
         exact .own (by rw [Lc_get q b h5];exact hL)
        ·rw [h7] at h4
         rw [h8]
         cases h4 with
         | t h4=>cases h4
         | ptr hL=>exact .ptr (by rw [Lc_get q b h5];exact hL)
      rcases hargs i _ d' h2 hi with h5|⟨cs,cs',h5,rfl,h6,h7⟩
      ·exact cell _ _ u h5 h4
      ·rw [h5] at h4
       have key:∃us:Array Value,u=.agg us∧us.size=cs.length∧∀(j:Nat) (c:AV),cs[j]?=some c→Rep w (okS E B L) L c (us.getD j undef):=by
        cases h4 with
        | t h4=>cases h4 with
          | agg hn hh=>exact ⟨_,rfl,hn,fun j c hj=>.t (hh j c hj)⟩
        | agg hn hh=>exact ⟨_,rfl,hn,hh⟩
       obtain ⟨us,rfl,hn,hh⟩:=key
       refine .agg (by rw [hn,h6]) fun j c' hj=>?_
       have hlt:=(List.getElem?_eq_some_iff.1 hj).1
       have h8:cs[j]?=some (cs[j]'(by omega)):=List.getElem?_eq_getElem _
       exact cell _ _ _ (h7 j _ c' h8 hj) (hh j _ h8)
     refine (hg (bs.map (AB.ren (Qo ids))) as r outs hgr w Ec Lc vs hcall hLcn hargsR).mono ?_
     rintro e w' ⟨v,Lc',rfl,hlk,hbs',hrep,hrun⟩
     have hOU:∀j,YE (VZ (KT ids nx (XR ids.length outs)) outs) j=(YE outs j).map (AB.ren (KT ids nx (XR ids.length outs))):=Zcg _ _
     generalize VZ (KT ids nx (XR ids.length outs)) outs=OU at hOU
     -- the caller's numbers behind the call
     let L':Nat→Option Value:=fun id=>if nx≤id∧id<nx+XR ids.length outs then Lc' (id-nx+ids.length) else L id
     have L'_new:∀id,nx≤id→id<nx+XR ids.length outs→L' id=Lc' (id-nx+ids.length):=fun id h2 h3=>if_pos ⟨h2,h3⟩
     have L'_old:∀id u,L id=some u→L' id=some u:=fun id u hu=>by
      have:¬(nx≤id∧id<nx+XR ids.length outs):=fun ⟨h2,h3⟩=>by rw [hfree id h2 h3] at hu;cases hu
      show (if _ then _ else _)=_
      rw [if_neg this];exact hu
     have renOk:∀j id,KT ids nx (XR ids.length outs) j=some id→L' id=Lc' j:=fun j id hj=>by
      unfold KT at hj
      split at hj
      ·rename_i b hb
       cases hj
       obtain ⟨y,h4,h5⟩:=hBid j id hb
       obtain ⟨u,hu⟩:=(h1.blk id y h5).has
       have h6:Lc j=some u:=by rw [Lc_get j id hb];exact hu
       rw [L'_old id u hu,hlk j u (by rw [List.length_map];exact (List.getElem?_eq_some_iff.1 h4).1) h6]
      ·rename_i hn
       split at hj
       ·rename_i hlt
        cases hj
        have hge:ids.length≤j:=by
         rcases Nat.lt_or_ge j ids.length with h9|h9
         ·rw [List.getElem?_eq_getElem h9] at hn;cases hn
         ·exact h9
        rw [L'_new _ (by omega) (by omega)]
        congr 1;omega
       ·cases hj
     -- an updated block of the caller is a block of the callee's
     have upd:∀id blk,ZD (Kp OU ids 0++upNew ids.length nx OU (XR ids.length outs)) id=some (some blk)→∃j b0,YE outs j=some b0∧blk=b0.ren (KT ids nx (XR ids.length outs))∧KT ids nx (XR ids.length outs) j=some id∧L' id=Lc' j:=fun id blk hu=>by
      have fin:∀j,YE OU j=some blk→∃b0,YE outs j=some b0∧blk=b0.ren (KT ids nx (XR ids.length outs)):=fun j hj=>by
       rw [hOU] at hj
       obtain ⟨b0,h2,h3⟩:=Option.map_eq_some_iff.1 hj
       exact ⟨b0,h2,h3.symm⟩
      rw [V3] at hu
      split at hu
      ·rename_i o ho
       cases hu
       obtain ⟨j,h2,h3⟩:=ZgF ho
       rw [Nat.zero_add] at h3
       obtain ⟨b0,h4,h5⟩:=fin j h3.symm
       have h6:KT ids nx (XR ids.length outs) j=some id:=by simp [KT,h2]
       exact ⟨j,b0,h4,h5,h6,renOk j id h6⟩
      ·obtain ⟨h2,h3,h4⟩:=Zeq hu
       obtain ⟨b0,h5,h7⟩:=fin _ h4.symm
       have h6:KT ids nx (XR ids.length outs) (ids.length+(id-nx))=some id:=by
        have:ids[ids.length+(id-nx)]?=none:=List.getElem?_eq_none (by omega)
        simp only [KT,this]
        rw [if_pos (by omega)]
        congr 1;omega
       exact ⟨ids.length+(id-nx),b0,h5,h7,h6,renOk _ id h6⟩
     have upd_ids:∀(j b:Nat),ids[j]?=some b→ZD (Kp OU ids 0++upNew ids.length nx OU (XR ids.length outs)) b≠none:=fun j b hj=>by
      rw [V3]
      obtain ⟨o,ho⟩:=Option.isSome_iff_exists.1 (Zen (outs:=OU) (i0:=0) hj)
      rw [ho];simp
     have okb:∀b o,okS Ec (YE outs) Lc' b o→okS E (ZT BB (Kp OU ids 0++upNew ids.length nx OU (XR ids.length outs))) L' b o:=fun b o hok=>by
      refine ⟨hok.1.1,fun id blk u h2 h3 h4=>?_⟩
      cases hu:ZD (Kp OU ids 0++upNew ids.length nx OU (XR ids.length outs)) id with
      | none=>
        rw [QQ hu] at h2
        obtain ⟨u',hu'⟩:=(h1.blk id blk h2).has
        have:=L'_old id u' hu'
        rw [h3] at this;cases this
        exact hok.1.2 id blk u h2 (fun hm=>by
         obtain ⟨j,hj⟩:=List.mem_iff_getElem?.1 hm
         exact upd_ids j id hj hu) hu' h4
      | some o'=>
        rw [Qb hu] at h2
        subst h2
        obtain ⟨j,b0,h5,rfl,_,h7⟩:=upd id blk hu
        rw [h7] at h3
        rw [AB.ren_frz]
        exact hok.2 j b0 u h5 h3 h4
     have hst:Step E BB L (Kp OU ids 0++upNew ids.length nx OU (XR ids.length outs)) L' w w':=by
      refine ⟨L'_old,hrun.mod.mono fun g' o hg' ⟨i,blk,u,h2,h3,h4,h5⟩=>?_,fun _ _ id blk hu=>?_,fun id blk u g' hu h3 h4=>?_,fun id id' blk blk' u u' g' hu hu' h3 h4 h5 h6=>?_⟩
      ·obtain ⟨b,y0,h6,h7,rfl⟩:=bin_id i blk h2
       rw [Lc_get i b h6] at h3
       rw [AB.ren_frz] at h5
       exact ⟨b,y0,u,by
        cases hx:ZD (Kp OU ids 0++upNew ids.length nx OU (XR ids.length outs)) b with
        | none=>exact absurd hx (upd_ids i b h6)
        | some _=>rfl,h7,h3,h4,h5⟩
      ·obtain ⟨j,b0,h5,rfl,_,h7⟩:=upd id blk hu
       exact (hbs'.blk j b0 h5).moveR renOk (fun v hv=>by rw [h7];exact hv) fun b o _ h9 _=>okb b o h9
      ·obtain ⟨j,b0,h5,rfl,_,h7⟩:=upd id blk hu
       rw [h7] at h3
       rcases Nat.lt_or_ge g' w.heap.size with hlt|hge
       ·obtain ⟨i,blk0,u0,k1,k2,k3,k4⟩:=hrun.own j b0 u g' h5 h3 h4 hlt
        obtain ⟨b,y0,k5,k6,rfl⟩:=bin_id i blk0 k1
        rw [Lc_get i b k5] at k2
        exact .inr ⟨b,y0,u0,by
         cases hx:ZD (Kp OU ids 0++upNew ids.length nx OU (XR ids.length outs)) b with
         | none=>exact absurd hx (upd_ids i b k5)
         | some _=>rfl,k6,k2,k3,fun o ho=>by rw [AB.ren_frz];exact k4 o (by rw [AB.ren_frz];exact ho)⟩
       ·exact .inl hge
      ·obtain ⟨j,b0,k1,rfl,k2,k3⟩:=upd id blk hu
       obtain ⟨j',b1,k4,rfl,k5,k6⟩:=upd id' blk' hu'
       rw [k3] at h3
       rw [k6] at h4
       have:=hbs'.inj j j' b0 b1 u u' g' k1 k4 h3 h4 h5 h6
       subst this
       rw [k2] at k5
       exact Option.some.inj k5
     have hA:=hB1.trans (hst.aft h1)
     have eB:ZT BB (Kp OU ids 0++upNew ids.length nx OU (XR ids.length outs))=ZT B (Kp OU ids 0++(upNew ids.length nx OU (XR ids.length outs)++YY B fs)):=by
      rw [←hBB,XL,List.append_assoc]
     rw [←eB]
     refine ⟨v,L',rfl,hA,?_,fun id h2 h3=>?_⟩
     ·exact (Rep.ren (L':=L') (ρ:=KT ids nx (XR ids.length outs)) renOk r v hrep).mono (fun _ _ _ _ h=>h) (fun b o _ h9 _=>okb b o h9) fun _ _ h=>h
     ·by_cases hx:nx≤id∧id<nx+XR ids.length outs
      ·exact hx
      ·exfalso
       apply h3
       show (if _ then _ else _)=_
       rw [if_neg hx];exact h2
   ·simp [Tr.run] at hr
 ·simp [Tr.run] at hr
end
def okN(ok:Nat→Nat→Prop)(w w':World)(b o:Nat):Prop:=ok b o∨w.heap.size≤b∨∃z,w'.cell? ⟨b,o,none⟩=some (.int .u32 z)
def Con(P:Program)(f:FuncId)(args:List AV)(r:AV):Prop:=
 ∀(w:World) (ok:Nat→Nat→Prop) (vs:Array Value),Glob w ok→RV (RepT w ok) args vs.toList→Calls P f vs w (fun e w'=>∃v,e=.returned v∧RepT w' (okN ok w w') r v∧Below w.heap.size w w')
def XE(P:Program)(f:FuncId):Bool:=
 match P.funcs[f]? with
 | some fn=>!(fn.name== "runtime.NumGoroutine") && fn.body.isSome
 | none=>false
structure OrcOk (P:Program) (O:FuncId→Option Orc):Prop where
 pure:∀f g,O f=some (.pure g)→XE P f=true∧∀args r,g args=some r→Con P f args r
 lin:∀f ms g,O f=some (.lin ms g)→XE P f=true∧∀bin args r outs,g args bin=some (r,outs)→ZnV P f bin args r outs
section
variable{P:Program}{E:Nat→Nat→Prop}{w w':World}{N:Nat}{T:Nat→AV}{B:Nat→Option AB}{L L':Nat→Option Value}{a:Act}{up:List (Nat × Option AB)}{ok:Nat→Nat→Prop}
theorem Zam{f:FuncId}(h:XE P f=true)(args:Array Value):(callFunc f args).run P w=.ok (.enter f args) w:=by
 unfold XE at h
 split at h
 ·rename_i fn hf
  simp only [Bool.and_eq_true,Bool.not_eq_true'] at h
  obtain ⟨h1,h2⟩:=h
  have h3:¬fn.body=none:=by cases hb:fn.body <;>simp_all
  have h4:¬fn.name= "runtime.NumGoroutine":=by simpa using h1
  simp [callFunc,program,Sem.run,hf,h4,h3]
 ·cases h
theorem Zt8(h:BsRel E B L w)(hb:Below w.heap.size w w'){b o:Nat}{v:Value}(hok:okN (okS E B L) w w' b o)(hc:w'.cell? ⟨b,o,none⟩=some v):okS E B L b o:=by
 rcases hok with h1|h1|⟨z,h1⟩
 ·exact h1
 ·refine ⟨h.fresh _ _ h1,fun id blk v h2 h3 h4=>?_⟩
  exact absurd ((h.blk id blk h2).g_lt h3 h4) (by omega)
 ·have hE:E b o:=by
   rcases Nat.lt_or_ge b w.heap.size with hlt|hge
   ·rw [hb.cell (p:=⟨b,o,none⟩) hlt] at h1
    exact h.limb b o z h1
   ·exact h.fresh b o hge
  refine ⟨hE,fun id blk v h2 h3 h4=>?_⟩
  have hlt:=(h.blk id blk h2).g_lt h3 h4
  have:=hb.cell (p:=⟨b,o,none⟩) hlt
  rw [this] at h1
  exact ((h.blk id blk h2).notU_any h3 h4 h1).elim
theorem Yk{o:Oper}{K:Act→World→Prop}{Q:Exit→Act→World→Prop}{v:Value}(h:(execOp a.eval o).run P w=.ok (.value v) w')(hK:K (a.put o.dst v) w'):o.wp P a w K Q:=by
 unfold Oper.wp;rw [h];exact hK
theorem ZdB{o:Oper}{K:Act→World→Prop}{Q:Exit→Act→World→Prop}(h:(execOp a.eval o).run P w=.ok .skip w')(hK:K (a.put o.dst undef) w'):o.wp P a w K Q:=by
 unfold Oper.wp;rw [h];exact hK
theorem V0{xs:List Operand}{ds:List AV}(h1:ds.length=xs.length)(h2:∀(i:Nat) (x:Operand) (d:AV),xs[i]?=some x→ds[i]?=some d→Rep w ok L d (a.eval x)):RV (Rep w ok L) ds (xs.map a.eval):=by
 refine ⟨by simp [h1],fun i d hi=>?_⟩
 have hlt:=(List.getElem?_eq_some_iff.1 hi).1
 have h3:xs[i]?=some (xs[i]'(by omega)):=List.getElem?_eq_getElem _
 exact ⟨a.eval _,by rw [List.getElem?_map,h3];rfl,h2 i _ d h3 hi⟩
theorem RV.append{R:AV→Value→Prop}{cs ds:List AV}{vs us:List Value}(h:RV R cs vs)(hd:RV R ds us):RV R (cs++ds) (vs++us):=by
 refine ⟨by simp [h.1,hd.1],fun i d hi=>?_⟩
 have:=h.1
 rcases Nat.lt_or_ge i cs.length with hlt|hge
 ·rw [List.getElem?_append_left hlt] at hi
  rw [List.getElem?_append_left (by omega)]
  exact h.2 i d hi
 ·rw [List.getElem?_append_right hge] at hi
  rw [List.getElem?_append_right (by omega),this]
  exact hd.2 _ d hi
theorem Ziu(h:BsRel E B L w){f:FuncId}{g:List AV→Option AV}(hg:XE P f=true∧∀args r,g args=some r→Con P f args r){ds:List AV}{vs:Array Value}(hv:RV (Rep w (okS E B L) L) ds vs.toList){nx nx':Nat}{d:AV}(hr:(Zkg g ds nx).run T B=some (d,up,nx')):
  nx'=nx∧Calls P f vs w (fun e w'=>∃v,e=.returned v∧Aft E B L (ZT B up) L w w'∧Rep w' (okS E (ZT B up) L) L d v):=by
 unfold Zkg at hr
 obtain ⟨ds',fs,hr,hres⟩:=Zc6 h hr hv
 obtain ⟨hr,_⟩:=Y4 hr
 split at hr
 ·rename_i r hgr
  simp only [Tr.run,Option.some.injEq,Prod.mk.injEq] at hr
  obtain ⟨rfl,rfl,rfl⟩:=hr
  have hB1:Aft E B L (ZT B (YY B fs)) L w w:=(Step.frz h fs).aft h
  refine ⟨rfl,(hg.2 ds' r hgr w _ vs hB1.bs.glob (hres _ (FrzOk.of h fs))).mono ?_⟩
  rintro e w' ⟨v,rfl,h1,h2⟩
  have hA:Aft E (ZT B (YY B fs)) L (ZT B (YY B fs)) L w w':=(Step.still (Mod.of_below h2 _)).aft hB1.bs
  exact ⟨v,rfl,hB1.trans hA,.t (h1.mono (fun _ _ _ _ h=>h) fun b o u h3 h4=>Zt8 hB1.bs h2 h3 h4)⟩
 ·simp [Tr.run] at hr
theorem Zjt{xs:List Operand}{ds:List AV}{d:AV}(h:ds=[d])(h1:ds.length=xs.length):∃x,xs=[x]:=by
 subst h
 match xs,h1 with
 | [x],_=>exact ⟨x,rfl⟩
theorem ZgE{xs:List Operand}{ds:List AV}{d d':AV}(h:ds=[d,d'])(h1:ds.length=xs.length):∃x y,xs=[x,y]:=by
 subst h
 match xs,h1 with
 | [x,y],_=>exact ⟨x,y,rfl⟩
theorem Zej(parts:Array (Nat × Operand)):(parts.map fun (p:Nat × Operand)=>(p.1,a.eval p.2)).toList=(parts.toList.map (·.1)).zip ((parts.toList.map (·.2)).map a.eval):=by
 rw [Array.toList_map]
 induction parts.toList with
 | nil=>rfl
 | cons p l ih=>simp [ih]
theorem ZiQ(h:BsRel E B L w)(n:Nat)(d:AV)(k:AV→List Nat→Tr)(x:AV × List (Nat × Option AB) × Nat)(hx:(QN n d k).run T B=some x):
  ∃d' fs,(k d' fs).run T B=some x∧∀v,Rep w (okS E B L) L d v→∀ok',FrzOk E B L w fs ok'→RepT w ok' d' v:=by
 unfold QN at hx
 split at hx
 ·exact ⟨_,[],hx,fun v hv ok' hf=>(hv.toT rfl).mono (fun _ _ _ _ h=>h) hf.old⟩
 ·exact Qv h n d k x hx
theorem ZeE{O:FuncId→Option Orc}(hO:OrcOk P O)(h:SRel E N T B L a w){o:Oper}{nx nx':Nat}{d:AV}(hr:(aop P O o nx).run T B=some (d,up,nx'))(hf:∀id,nx≤id→id<nx'→L id=none){K:Act→World→Prop}{Q:Exit→Act→World→Prop}(hK:∀v w' L',Aft E B L (ZT B up) L' w w'→Rep w' (okS E (ZT B up) L') L' d v→(∀id,L id=none→L' id≠none→nx≤id∧id<nx')→K (a.put o.dst v) w'):o.wp P a w K Q:=by
 have hb:=h.bs
 -- an operation that makes no memory
 have pure1:∀{s:Sem Value} {v:Value},execOp a.eval o=(do pure (.value (←s)):Sem Next)→s.run P w=.ok v w→up=[]→Rep w (okS E B L) L d v→o.wp P a w K Q:=fun {s v} he hs hu hv=>by
  subst hu
  refine Yk (w':=w) (v:=v) (by rw [he];simp [hs]) (hK v w L ?_ ?_ fun id h1 h2=>absurd h1 h2)
  ·rw [Q4];exact Aft.refl hb
  ·rw [Q4];exact hv
 obtain ⟨dst,op,ty,pos,after,guard⟩:=o
 cases op <;>simp only [aop] at hr <;>try (simp [Tr.run] at hr;done)
 case move x=>
  obtain ⟨d',hr,hx⟩:=ZJ h hr
  simp only [Tr.run,Option.some.injEq,Prod.mk.injEq] at hr
  obtain ⟨rfl,rfl,rfl⟩:=hr
  exact pure1 (s:=pure (a.eval x)) (by simp [execOp]) (by simp) rfl hx
 case assign x=>
  split at hr
  ·rename_i e k hn
   have hx:a.eval x=.slice none 0 0:=by
    unfold ZiD at hn
    split at hn
    ·rfl
    ·cases hn
   split at hr
   ·simp only [Tr.run,Option.some.injEq,Prod.mk.injEq] at hr
    obtain ⟨rfl,rfl,rfl⟩:=hr
    exact pure1 (s:=pure (a.eval x)) (v:=a.eval x) (by simp [execOp]) (by simp) rfl (by rw [hx];exact .t (.nil _ _))
   simp only [Tr.run,Option.some.injEq,Prod.mk.injEq] at hr
   obtain ⟨rfl,rfl,rfl⟩:=hr
   have hL:=hf nx (Nat.le_refl _) (by omega)
   have hst:Step E B L [(nx,some (.row e k [] 0))] (Wb L nx (.slice none 0 0)) w w:=
    Step.fresh hL (Mod.refl _ _) (fun _=>trivial) (fun hr hrt=>⟨_,[],ZH _ _ _,Row.nil _ _ _ _ _,Nat.le_refl _,fun x hx=>(by cases hx),fun i j x d hi=>(by simp at hi)⟩) fun g hg=>by simp [gOf] at hg
   exact Yk (by simp [execOp,hx]) (hK _ _ _ (hst.aft hb) (.own (ZH _ _ _)) (Xt _))
  ·obtain ⟨d',hr,hx⟩:=ZJ h hr
   simp only [Tr.run,Option.some.injEq,Prod.mk.injEq] at hr
   obtain ⟨rfl,rfl,rfl⟩:=hr
   exact pure1 (s:=pure (a.eval x)) (by simp [execOp]) (by simp) rfl hx
 case pick c x y=>
  obtain ⟨d',hr,hc⟩:=ZJ h hr
  split at hr
  ·rename_i t
   obtain ⟨d',hr,hx⟩:=ZJ h hr
   simp only [Tr.run,Option.some.injEq,Prod.mk.injEq] at hr
   obtain ⟨rfl,rfl,rfl⟩:=hr
   have e:=ZY hc
   refine pure1 (s:=pure (a.eval (if t then x else y))) ?_ (by simp) rfl hx
   cases t <;>simp [execOp,e,asBool]
  ·simp [Tr.run] at hr
 case alloc e=>
  split at hr
  ·rename_i zs hz
   split at hr
   ·rename_i hn
    simp only [Tr.run,Option.some.injEq,Prod.mk.injEq] at hr
    obtain ⟨rfl,rfl,rfl⟩:=hr
    obtain ⟨i,z,hi,hzz,rfl⟩:=Zbo hz
    have hL:=hf nx (Nat.le_refl _) (by omega)
    have hA:=ZbP hb hL (t:=e) (cs:=zAV P e z.cells.toList) (cells:=z.cells) (by rw [zAV_len];simp) (fun i d hi=>by
     obtain ⟨u,h1,h2⟩:=Zcq hi
     have:z.cells.getD i undef=u:=by rw [Array.getD_eq_getD_getElem?,←Array.getElem?_toList,h1];rfl
     rw [this];exact .t h2) hn
    exact Yk (by simp [execOp,Instr.alloc,zeroValue,typeInfo,hi,hzz,newVar,newRow]) (hK _ _ _ hA (.ptr (ZH _ _ _)) (Xt _))
   ·simp [Tr.run] at hr
  ·simp [Tr.run] at hr
 case box e x=>
  obtain ⟨d',hr,hx⟩:=ZJ h hr
  split at hr
  ·split at hr
   ·rename_i cs hcs
    split at hr
    ·rename_i hn
     simp only [Tr.run,Option.some.injEq,Prod.mk.injEq] at hr
     obtain ⟨rfl,rfl,rfl⟩:=hr
     have hL:=hf nx (Nat.le_refl _) (by omega)
     obtain ⟨h1,h2⟩:=Xm hcs hx
     have hA:=ZbP hb hL (t:=e) h1 h2 hn
     exact Yk (by simp [execOp,Instr.box,newVar,newRow]) (hK _ _ _ hA (.ptr (ZH _ _ _)) (Xt _))
    ·simp [Tr.run] at hr
   ·simp [Tr.run] at hr
  ·split at hr
   ·rename_i cs hcs
    obtain ⟨cs',fs,hr,hlen',hres⟩:=Wv (F:=fun d v=>Rep w (okS E B L) L d v) (G:=fun d' fs v=>∀ok',FrzOk E B L w fs ok'→RepT w ok' d' v) (fun d k x hx=>ZiQ hb 3 d k x hx) cs _ _ hr
    split at hr
    ·rename_i hn
     obtain ⟨hr,_⟩:=Y4 hr
     simp only [Tr.run,Option.some.injEq,Prod.mk.injEq] at hr
     obtain ⟨rfl,rfl,rfl⟩:=hr
     have hL:=hf nx (Nat.le_refl _) (by omega)
     have hB1:=(Step.frz hb fs).aft hb
     obtain ⟨h1,h2⟩:=Xm hcs hx
     have hA:=hB1.trans (ZbP hB1.bs hL (t:=e) (cells:=(a.eval x).cells) (cs:=cs') (by omega) (fun i d hi=>by
      have hlt:=(List.getElem?_eq_some_iff.1 hi).1
      have h3:cs[i]?=some (cs[i]'(by omega)):=List.getElem?_eq_getElem _
      obtain ⟨fs',h4,h5⟩:=hres i _ d h3 hi
      exact .t (h5 _ (h2 i _ h3) _ ((FrzOk.of hb fs).sub h4))) hn)
     rw [XL] at hA
     exact Yk (by simp [execOp,Instr.box,newVar,newRow]) (hK _ _ _ hA (.ptr (ZH _ _ _)) (Xt _))
    ·simp [Tr.run] at hr
   ·simp [Tr.run] at hr
 case build t parts=>
  obtain ⟨ds,hr,h1,h2⟩:=Qd h hr
  obtain ⟨h3,h4,v,h5,h6⟩:=Zhh (P:=P) (w:=w) (V0 h1 h2) hr (Zej parts)
  exact pure1 (s:=Instr.build t (parts.map fun (i,x)=>(i,a.eval x))) (by simp [execOp]) h5 h3 h6
 case buildSlice t len parts=>
  obtain ⟨ds,hr,h1,h2⟩:=Qd h hr
  obtain ⟨v,w',L',h3,h4,h5,h6⟩:=Zfm hb (V0 h1 h2) hr (Zej parts) (fun hne=>by
   have hle:nx≤nx':=by
    unfold Zaa at hr
    split at hr
    ·split at hr
     ·split at hr
      ·split at hr <;>(simp only [Tr.run,Option.some.injEq,Prod.mk.injEq] at hr;omega)
      ·obtain ⟨ds',fs,hr,_⟩:=Zc6 hb hr (V0 h1 h2)
       split at hr
       ·split at hr
        ·split at hr
         ·obtain ⟨hr,_⟩:=Y4 hr
          simp only [Tr.run,Option.some.injEq,Prod.mk.injEq] at hr;omega
         ·simp [Tr.run] at hr
        ·split at hr
         ·obtain ⟨hr,_⟩:=Y4 hr
          simp only [Tr.run,Option.some.injEq,Prod.mk.injEq] at hr;omega
         ·simp [Tr.run] at hr
       ·simp [Tr.run] at hr
     ·simp [Tr.run] at hr
    ·simp [Tr.run] at hr
   exact hf nx (Nat.le_refl _) (by omega))
  exact Yk (by simp [execOp,h3]) (hK _ _ _ h4 h5 h6)
 case load t x=>
  obtain ⟨d',hr,hx⟩:=ZJ h hr
  split at hr
  ·rename_i g n ht
   obtain ⟨h1,h2,u,h3,h4⟩:=Zg7 hb ht hx hr
   exact pure1 (s:=Instr.loadAt t (a.eval x)) (by simp [execOp]) h3 h1 h4
  ·simp [Tr.run] at hr
 case store t x y=>
  obtain ⟨d1,hr,hx⟩:=ZJ h hr
  obtain ⟨d2,hr,hy⟩:=ZJ h hr
  split at hr
  ·rename_i g n ht
   obtain ⟨rfl,rfl,w',h3,h4⟩:=Zhn hb ht hx hy hr
   exact ZdB (by simp [execOp,h3]) (hK _ _ _ h4 (.t (.any _)) fun id h1 h2=>absurd h1 h2)
  ·simp [Tr.run] at hr
 case nilCheck x=>
  obtain ⟨d',hr,hx⟩:=ZJ h hr
  have key:∀p,a.eval x=.pointer (some p)→up=[]→Rep w (okS E B L) L d (a.eval x)→Oper.wp P {dst:=dst,op:=.nilCheck x,type:=ty,pos:=pos,after:=after,guard:=guard} a w K Q:=fun p hp hu hv=>
   pure1 (s:=pure (a.eval x)) (by simp [execOp,hp]) (by simp) hu hv
  split at hr
  ·simp only [Tr.run,Option.some.injEq,Prod.mk.injEq] at hr
   obtain ⟨rfl,rfl,rfl⟩:=hr
   have hp:∃p,a.eval x=.pointer (some p):=by
    generalize a.eval x=u at hx
    cases hx with
    | t hx=>cases hx
    | ptr _=>exact ⟨_,rfl⟩
   obtain ⟨p,hp⟩:=hp
   exact key p hp rfl hx
  ·simp only [Tr.run,Option.some.injEq,Prod.mk.injEq] at hr
   obtain ⟨rfl,rfl,rfl⟩:=hr
   have hp:∃p,a.eval x=.pointer (some p):=by
    generalize a.eval x=u at hx
    cases hx with
    | t hx=>cases hx
    | rptr _=>exact ⟨_,rfl⟩
   obtain ⟨p,hp⟩:=hp
   exact key p hp rfl hx
  ·simp only [Tr.run,Option.some.injEq,Prod.mk.injEq] at hr
   obtain ⟨rfl,rfl,rfl⟩:=hr
   obtain ⟨b,o,hp,_⟩:=(Ky hx).mem_inv
   exact key _ hp rfl hx
  ·simp [Tr.run] at hr
 case binOp op xt x y yt=>
  obtain ⟨d1,hr,hx⟩:=ZJ h hr
  obtain ⟨d2,hr,hy⟩:=ZJ h hr
  split at hr
  ·rename_i u v
   have e1:=ZY hx
   have e2:=ZY hy
   split at hr
   ·rename_i r hbv
    simp only [Tr.run,Option.some.injEq,Prod.mk.injEq] at hr
    obtain ⟨rfl,rfl,rfl⟩:=hr
    exact pure1 (s:=(do eqGuard op xt x y (a.eval x) (a.eval y);binOp op xt (a.eval x) (a.eval y))) (by simp [execOp]) (by rw [e1,e2];exact Zow hbv) rfl (.t (.lit _))
   ·split at hr
    ·rename_i c hnil
     simp only [Tr.run,Option.some.injEq,Prod.mk.injEq] at hr
     obtain ⟨rfl,rfl,rfl⟩:=hr
     exact pure1 (s:=(do eqGuard op xt x y (a.eval x) (a.eval y);binOp op xt (a.eval x) (a.eval y))) (by simp [execOp]) (by rw [e1,e2];exact Zlz hnil) rfl (.t (.lit _))
    ·split at hr
     ·rename_i hbt
      obtain ⟨h1,h2,h3⟩:=QT hr
      obtain ⟨r,h4,rfl⟩:=Option.map_eq_some_iff.1 h1
      exact pure1 (s:=(do eqGuard op xt x y (a.eval x) (a.eval y);binOp op xt (a.eval x) (a.eval y))) (by simp [execOp]) (by rw [e1,e2];exact Zmb h4 hbt) h2 (.t (.lit _))
     ·obtain ⟨h1,h2,h3⟩:=QT hr
      obtain ⟨u,h4,h5⟩:=ZcX (P:=P) h1 hx hy (x:=x) (y:=y)
      exact pure1 (s:=(do eqGuard op xt x y (a.eval x) (a.eval y);binOp op xt (a.eval x) (a.eval y))) (by simp [execOp]) h4 h2 h5
  ·split at hr
   ·rename_i c herr
    simp only [Tr.run,Option.some.injEq,Prod.mk.injEq] at hr
    obtain ⟨rfl,rfl,rfl⟩:=hr
    exact pure1 (s:=(do eqGuard op xt x y (a.eval x) (a.eval y);binOp op xt (a.eval x) (a.eval y))) (by simp [execOp]) (Zmx herr hx hy) rfl (.t (.lit _))
   ·obtain ⟨h1,h2,h3⟩:=QT hr
    obtain ⟨u,h4,h5⟩:=ZcX (P:=P) h1 hx hy (x:=x) (y:=y)
    exact pure1 (s:=(do eqGuard op xt x y (a.eval x) (a.eval y);binOp op xt (a.eval x) (a.eval y))) (by simp [execOp]) h4 h2 h5
 case unOp op xt x=>
  obtain ⟨d1,hr,hx⟩:=ZJ h hr
  split at hr
  ·rename_i u
   have e1:=ZY hx
   obtain ⟨h1,h2,h3⟩:=QT hr
   obtain ⟨r,h4,rfl⟩:=Option.map_eq_some_iff.1 h1
   exact pure1 (s:=Op.unary op (a.eval x)) (by simp [execOp]) (by rw [e1];exact ZsS h4) h2 (.t (.lit _))
  ·simp [Tr.run] at hr
 case convert src dst' x=>
  obtain ⟨d1,hr,hx⟩:=ZJ h hr
  split at hr
  ·rename_i s
   split at hr
   ·rename_i hs
    have e1:=ZY hx
    obtain ⟨hu,v,w',h3,hA,h4⟩:=ZmD (P:=P) hb hs hr
    subst hu
    exact Yk (w':=w') (v:=v) (by simp [execOp,e1,h3]) (hK v w' L (by rw [Q4];exact hA) (by rw [Q4];exact h4) fun id h1 h2=>absurd h1 h2)
   ·simp [Tr.run] at hr
  ·obtain ⟨h1,u,h3,h4⟩:=ZlS (P:=P) hx hr
   exact pure1 (s:=convert src dst' (a.eval x)) (by simp [execOp]) h3 h1 h4
  ·obtain ⟨h1,h2,u,h3,h4⟩:=ZhY (P:=P) hx hr
   exact pure1 (s:=convert src dst' (a.eval x)) (by simp [execOp]) h3 h1 h4
 case makeFunc fn first captured=>
  split at hr
  ·rename_i f
   split at hr
   ·rename_i h0
    obtain ⟨ds,hr,h1,h2⟩:=Qd h hr
    obtain ⟨h3,h4⟩:=RV.getD (V0 h1 h2)
    have hf0:first=#[]:=Array.eq_empty_of_size_eq_zero h0
    have hrun:(Instr.makeFunc (.func f) (first.map a.eval) (captured.map a.eval)).run P w=.ok (.func (.func f) #[] (captured.toList.map a.eval).toArray) w:=by
     subst hf0
     have:(captured.toList.map a.eval).toArray=captured.map a.eval:=by
      apply Array.toList_inj.1;simp
     rw [this]
     simp [Instr.makeFunc]
    split at hr
    ·obtain ⟨cs',fs,hr,hlen',hres⟩:=Wv (F:=fun d v=>Rep w (okS E B L) L d v) (G:=fun d' fs v=>∀ok',FrzOk E B L w fs ok'→RepT w ok' d' v) (fun d k x hx=>Qv hb 3 d k x hx) ds _ _ hr
     obtain ⟨hr,_⟩:=Y4 hr
     simp only [Tr.run,Option.some.injEq,Prod.mk.injEq] at hr
     obtain ⟨rfl,rfl,rfl⟩:=hr
     have hB1:=(Step.frz hb fs).aft hb
     refine Yk (w':=w) (v:=.func (.func f) #[] (captured.toList.map a.eval).toArray) (by simp [execOp,hrun]) (hK _ _ L hB1 (.clo (by omega) (fun i d hi=>?_)) fun id h1 h2=>absurd h1 h2)
     have hlt:=(List.getElem?_eq_some_iff.1 hi).1
     have h6:ds[i]?=some (ds[i]'(by omega)):=List.getElem?_eq_getElem _
     obtain ⟨fs',h7,h8⟩:=hres i _ d h6 hi
     exact .t (h8 _ (h4 i _ h6) _ ((FrzOk.of hb fs).sub h7))
    ·simp only [Tr.run,Option.some.injEq,Prod.mk.injEq] at hr
     obtain ⟨rfl,rfl,rfl⟩:=hr
     exact pure1 (s:=Instr.makeFunc (.func f) (first.map a.eval) (captured.map a.eval)) (by simp [execOp]) (v:=.func (.func f) #[] (captured.toList.map a.eval).toArray) hrun rfl (.clo h3 h4)
   ·simp [Tr.run] at hr
  ·simp [Tr.run] at hr
 case makeSlice t l c=>
  obtain ⟨d1,hr,hl⟩:=ZJ h hr
  obtain ⟨d2,hr,hc⟩:=ZJ h hr
  have hlt:nx<nx':=by
   unfold mkT at hr
   split at hr
   ·split at hr
    ·simp only [Tr.run,Option.some.injEq,Prod.mk.injEq] at hr;omega
    ·simp [Tr.run] at hr
   ·simp [Tr.run] at hr
  obtain ⟨rfl,v,w',L',h1,h2,h3,rfl⟩:=ZnK hb hl hc hr (hf nx (Nat.le_refl _) hlt)
  exact Yk (by simp [execOp,h1]) (hK _ _ _ h2 h3 (Xt _))
 case makeMap t r=>
  split at hr
  ·simp only [Tr.run,Option.some.injEq,Prod.mk.injEq] at hr
   obtain ⟨rfl,rfl,rfl⟩:=hr
   have hL:=hf nx (Nat.le_refl _) (by omega)
   exact Yk (by simp [execOp,Instr.makeMap,newObj];rfl) (hK _ _ _ (Zom hb hL) (.mp (ZH _ _ _)) (Xt _))
  ·simp [Tr.run] at hr
 case lookup t x i ok=>
  obtain ⟨d1,hr,hx⟩:=ZJ h hr
  obtain ⟨d2,hr,hi⟩:=ZJ h hr
  obtain ⟨h1,v,h3,h4⟩:=Zo3 hb hx hi hr
  exact pure1 (s:=Instr.lookup t (a.eval x) (a.eval i) ok) (by simp [execOp]) h3 h1 h4
 case mapUpdate t x i v=>
  obtain ⟨d1,hr,hx⟩:=ZJ h hr
  obtain ⟨d2,hr,hi⟩:=ZJ h hr
  obtain ⟨d3,hr,hv⟩:=ZJ h hr
  obtain ⟨rfl,rfl,w',h3,h4⟩:=Zob hb hx hi hv hr
  exact ZdB (by simp [execOp,h3]) (hK _ _ _ h4 (.t (.any _)) fun id h1 h2=>absurd h1 h2)
 case slice t x lo hi mx=>
  obtain ⟨d1,hr,hx⟩:=ZJ h hr
  cases mx with
  | some m=>simp [Tr.run] at hr
  | none=>
    have fin:∀{lo' hi':Option AV},Kr (Rep w (okS E B L) L) lo' (lo.map a.eval)→Kr (Rep w (okS E B L) L) hi' (hi.map a.eval)→(slT P t d1 lo' hi' nx).run T B=some (d,up,nx')→Oper.wp P {dst:=dst,op:=.slice t x lo hi none,type:=ty,pos:=pos,after:=after,guard:=guard} a w K Q:=fun h1 h2 hr=>by
     obtain ⟨rfl,v,h3,h4,h5⟩:=Zqx hb hx h1 h2 hr
     exact Yk (by simp [execOp,h3]) (hK _ _ _ h4 h5 fun id h1 h2=>absurd h1 h2)
    cases lo with
    | none=>
      cases hi with
      | none=>exact fin .none .none hr
      | some q=>
        obtain ⟨d3,hr,hq⟩:=ZJ h hr
        exact fin .none (.some hq) hr
    | some p=>
      cases hi with
      | none=>
        obtain ⟨d2,hr,hp⟩:=ZJ h hr
        exact fin (.some hp) .none hr
      | some q=>
        obtain ⟨d2,hr,hp⟩:=ZJ h hr
        obtain ⟨d3,hr,hq⟩:=ZJ h hr
        exact fin (.some hp) (.some hq) hr
 case fieldAddr s x f=>
  obtain ⟨d1,hr,hx⟩:=ZJ h hr
  split at hr
  ·rename_i off g n hfo
   split at hr
   ·simp [Tr.run] at hr
   ·rename_i hn
    obtain ⟨h1,h2,h3⟩:=QT hr
    obtain ⟨v,h4,h5⟩:=Zd6 (P:=P) hfo hn hx h1
    exact pure1 (s:=Instr.fieldAt s (a.eval x) f) (by simp [execOp]) h4 h2 h5
  ·simp [Tr.run] at hr
 case field s x f=>
  obtain ⟨d1,hr,hx⟩:=ZJ h hr
  split at hr
  ·rename_i off g n cs hfo
   obtain ⟨h1,h2,h3⟩:=QT hr
   obtain ⟨v,h4,h5⟩:=ZgB (P:=P) hfo hx h1
   exact pure1 (s:=Instr.field s (a.eval x) f) (by simp [execOp]) h4 h2 h5
  ·simp [Tr.run] at hr
 case indexAddr t x i=>
  obtain ⟨d1,hr,hx⟩:=ZJ h hr
  obtain ⟨d2,hr,hi⟩:=ZJ h hr
  obtain ⟨h1,h2,v,h3,h4⟩:=Zqa hb hx hi hr
  exact pure1 (s:=Instr.indexAt t (a.eval x) (a.eval i)) (by simp [execOp]) h3 h1 h4
 case index t x i=>
  obtain ⟨d1,hr,hx⟩:=ZJ h hr
  obtain ⟨d2,hr,hi⟩:=ZJ h hr
  obtain ⟨h1,h2,v,h3,h4⟩:=ZmG (P:=P) hx hi hr
  exact pure1 (s:=Instr.index t (a.eval x) (a.eval i)) (by simp [execOp]) h3 h1 h4
 case extract t i=>
  obtain ⟨d1,hr,hx⟩:=ZJ h hr
  split at hr
  ·rename_i cs
   obtain ⟨h1,h2,h3⟩:=QT hr
   obtain ⟨vs,hv,h4,h5⟩:=Zkf hx
   have hlt:=(List.getElem?_eq_some_iff.1 h1).1
   exact pure1 (s:=Instr.extract (a.eval t) i) (by simp [execOp]) (v:=vs.getD i undef) (by simp only [Instr.extract,hv,Zhc (show i<vs.size by omega)];rfl) h2 (h5 i d h1)
  ·simp [Tr.run] at hr
 case call c=>
  obtain ⟨callee,args,argTypes⟩:=c
  dsimp only at hr
  split at hr
  ·-- len
   split at hr
   ·rename_i t ht
    obtain ⟨ds,hr,h1,h2⟩:=Qd h hr
    split at hr
    ·rename_i d1
     obtain ⟨x,hx⟩:=Zjt rfl h1
     obtain ⟨h3,h4,h5⟩:=QT hr
     obtain ⟨n,h6,rfl⟩:=Option.map_eq_some_iff.1 h3
     have hxr:=h2 0 x d1 (by rw [hx];rfl) rfl
     have ha:args=#[x]:=by apply Array.toList_inj.1;simpa using hx
     have hat:argTypes=#[t]:=by apply Array.toList_inj.1;simpa using ht
     subst ha hat
     have hrun:=ZkC (P:=P) h6 hxr ty
     exact pure1 (s:=Builtin.len_ #[t] ty #[a.eval x]) (by simp [execOp,resolve,invoke,builtin]) hrun h4 (.t (.lit _))
    ·simp [Tr.run] at hr
   ·simp [Tr.run] at hr
  ·-- append
   split at hr
   ·rename_i t t' ht
    obtain ⟨ds,hq,h1,h2⟩:=Qd h hr
    clear hr
    split at hq
    ·rename_i s x
     obtain ⟨xs,xx,hx⟩:=ZgE rfl h1
     have hsr:=h2 0 xs s (by rw [hx];rfl) rfl
     have hxr:=h2 1 xx x (by rw [hx];rfl) rfl
     have ha:args=#[xs,xx]:=by apply Array.toList_inj.1;simpa using hx
     have hat:argTypes=#[t,t']:=by apply Array.toList_inj.1;simpa using ht
     subst ha hat
     split at hq
     ·rename_i htt
      subst htt
      have hlt:nx<nx':=by
       unfold apT at hq
       split at hq
       ·split at hq
        ·obtain ⟨d',fs,hq,_⟩:=Qv hb 3 x _ _ hq
         split at hq
         ·split at hq
          ·split at hq
           ·split at hq
            ·simp only [Tr.run] at hq
             split at hq
             ·split at hq
              ·split at hq
               ·obtain ⟨hq,_⟩:=Y4 hq
                simp only [Tr.run,Option.some.injEq,Prod.mk.injEq] at hq;omega
               ·simp [Tr.run] at hq
              ·simp [Tr.run] at hq
             ·cases hq
            ·simp [Tr.run] at hq
           ·split at hq
            ·split at hq
             ·obtain ⟨hq,_⟩:=Y4 hq
              simp only [Tr.run,Option.some.injEq,Prod.mk.injEq] at hq;omega
             ·simp [Tr.run] at hq
            ·simp [Tr.run] at hq
          ·simp [Tr.run] at hq
         ·simp [Tr.run] at hq
        ·simp [Tr.run] at hq
       ·simp [Tr.run] at hq
      obtain ⟨rfl,v,w',L',h3,h4,h5,rfl⟩:=ZnQ (ty:=ty) hb hsr hxr hq (hf nx (Nat.le_refl _) hlt)
      exact Yk (by simp [execOp,resolve,invoke,builtin,h3]) (hK _ _ _ h4 h5 (Xt _))
     ·obtain ⟨rfl,v,w',L',h3,h4,h5,rfl⟩:=Zkx (ty:=ty) hb hsr hxr hq (hf nx (Nat.le_refl _))
      exact Yk (by simp [execOp,resolve,invoke,builtin,h3]) (hK _ _ _ h4 h5 (Xt _))
    ·simp [Tr.run] at hq
   ·simp [Tr.run] at hr
  ·-- unsafe.SliceData
   obtain ⟨ds,hq,h1,h2⟩:=Qd h hr
   split at hq
   ·rename_i d1
    obtain ⟨x,hx⟩:=Zjt rfl h1
    have hxr:=h2 0 x d1 (by rw [hx];rfl) rfl
    have ha:args=#[x]:=by apply Array.toList_inj.1;simpa using hx
    subst ha
    obtain ⟨rfl,h4,u,h5,h6⟩:=Zme (P:=P) (ats:=argTypes) (ty:=ty) hb hxr hq
    exact pure1 (s:=Builtin.unsafeSliceData_ argTypes ty #[a.eval x]) (by simp [execOp,resolve,invoke,builtin]) h5 h4 h6
   ·simp [Tr.run] at hq
  ·-- unsafe.String
   split at hr
   ·rename_i t t' ht
    obtain ⟨ds,hq,h1,h2⟩:=Qd h hr
    split at hq
    ·rename_i s x
     obtain ⟨xs,xx,hx⟩:=ZgE rfl h1
     have hsr:=h2 0 xs s (by rw [hx];rfl) rfl
     have hxr:=h2 1 xx x (by rw [hx];rfl) rfl
     have ha:args=#[xs,xx]:=by apply Array.toList_inj.1;simpa using hx
     have hat:argTypes=#[t,t']:=by apply Array.toList_inj.1;simpa using ht
     subst ha hat
     obtain ⟨rfl,v,w',h3,h4,h5⟩:=ZoO (ty:=ty) (it:=t') hb hsr hxr hq
     exact Yk (by simp [execOp,resolve,invoke,builtin,h3]) (hK _ _ _ h4 h5 fun id h1 h2=>absurd h1 h2)
    ·simp [Tr.run] at hq
   ·simp [Tr.run] at hr
  ·-- max
   obtain ⟨ds,hr,h1,h2⟩:=Qd h hr
   obtain ⟨h3,h4,h5⟩:=QT hr
   obtain ⟨v,h6,h7⟩:=ZaH (P:=P) h3 (V0 h1 h2) argTypes ty
   have e:(args.toList.map a.eval).toArray=args.map a.eval:=by apply Array.toList_inj.1;simp
   simp only [if_true,e] at h6
   exact pure1 (s:=Builtin.max_ argTypes ty (args.map a.eval)) (by simp [execOp,resolve,invoke,builtin]) h6 h4 h7
  ·-- min
   obtain ⟨ds,hr,h1,h2⟩:=Qd h hr
   obtain ⟨h3,h4,h5⟩:=QT hr
   obtain ⟨v,h6,h7⟩:=ZaH (P:=P) h3 (V0 h1 h2) argTypes ty
   have e:(args.toList.map a.eval).toArray=args.map a.eval:=by apply Array.toList_inj.1;simp
   simp only [Bool.false_eq_true,if_false,e] at h6
   exact pure1 (s:=Builtin.min_ argTypes ty (args.map a.eval)) (by simp [execOp,resolve,invoke,builtin]) h6 h4 h7
  ·-- a function
   rename_i f
   obtain ⟨d1,hr,hfv⟩:=ZJ h hr
   split at hr
   ·rename_i fid caps
    have hclo:∃vs:Array Value,a.eval f=.func (.func fid) #[] vs∧RV (Rep w (okS E B L) L) caps vs.toList:=by
     generalize a.eval f=u at hfv
     cases hfv with
     | t hfv=>cases hfv with|clo h3 h4=>exact ⟨_,rfl,RV.of_getD h3 fun i d hi=>.t (h4 i d hi)⟩
     | clo h3 h4=>exact ⟨_,rfl,RV.of_getD h3 h4⟩
    obtain ⟨vs,hev,hcaps⟩:=hclo
    split at hr
    ·rename_i g hg
     obtain ⟨ds,hr,h1,h2⟩:=Qd h hr
     have hrv:RV (Rep w (okS E B L) L) (ds++caps) (args.map a.eval++vs).toList:=by
      rw [Array.toList_append,Array.toList_map]
      exact (V0 h1 h2).append hcaps
     obtain ⟨rfl,hcalls⟩:=Ziu hb (hO.pure fid g hg) hrv hr
     unfold Oper.wp
     have he:(execOp a.eval {dst:=dst,op:=.call {callee:=.value f,args:=args,argTypes:=argTypes},type:=ty,pos:=pos,after:=after,guard:=guard}).run P w=.ok (.enter fid (args.map a.eval++vs)) w:=by
      simp [execOp,resolve,invoke,hev,Deferred.ofValue,Zam (hO.pure fid g hg).1]
     rw [he]
     refine hcalls.mono ?_
     rintro e w' ⟨v,rfl,h3,h4⟩
     exact hK v w' L h3 h4 fun id h1 h2=>absurd h1 h2
    ·rename_i ms g hg
     obtain ⟨ds,hr,h1,h2⟩:=Qd h hr
     have hrv:RV (Rep w (okS E B L) L) (ds++caps) (args.map a.eval++vs).toList:=by
      rw [Array.toList_append,Array.toList_map]
      exact (V0 h1 h2).append hcaps
     have hcalls:=ZmW (P:=P) hb (hO.lin fid ms g hg).2 hrv hr hf
     unfold Oper.wp
     have he:(execOp a.eval {dst:=dst,op:=.call {callee:=.value f,args:=args,argTypes:=argTypes},type:=ty,pos:=pos,after:=after,guard:=guard}).run P w=.ok (.enter fid (args.map a.eval++vs)) w:=by
      simp [execOp,resolve,invoke,hev,Deferred.ofValue,Zam (hO.lin fid ms g hg).1]
     rw [he]
     refine hcalls.mono ?_
     rintro e w' ⟨v,L',rfl,h3,h4,h5⟩
     exact hK v w' L' h3 h4 h5
    ·simp [Tr.run] at hr
   ·simp [Tr.run] at hr
  ·simp [Tr.run] at hr
end
end Go.Proofs.YtdaonnnlgfhlaaaGreatDoor
