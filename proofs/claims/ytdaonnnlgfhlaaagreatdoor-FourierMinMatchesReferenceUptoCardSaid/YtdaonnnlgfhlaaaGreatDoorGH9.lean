import Derived.WalkKit
import Derived.OwnWalk
import Derived.Below
import Derived.RegionTactic
import Derived.Deep.OwnRows
import Derived.Deep.AppendLies
import Derived.Maps.AppendAt
import Derived.KernelRfl
set_option linter.all false
namespace Go.Proofs.YtdaonnnlgfhlaaaGreatDoor
open Go.RowKit
structure Row (Qc:Value→Prop) (w:World) (base:Nat) (e:TypeId) (size:Nat) (v:Value) (n:Nat) (xs:List Value):Prop where
 own:w.ownsRow base e size v n xs
 all:∀g cur t p,v.ownBlock=some g→w.heap[g]?=some (.cells cur t p)→∀x∈cur,Qc x
section
variable {Qc : Value → Prop} {w w' : World} {base : Nat} {e : TypeId} {size : Nat} {v : Value} {n : Nat} {xs : List Value}
theorem Row.nil(Qc:Value→Prop)(w:World)(base:Nat)(e:TypeId)(size:Nat):Row Qc w base e size (.slice none 0 0) 0 []:=
 ⟨World.ownsRow_nil w base e size,fun g cur t p h=>by simp [Value.ownBlock] at h⟩
theorem Row.kept{row:Option Nat}(h:Row Qc w base e size v n xs)(hg:w.grownBy w' row)(hne:v.ownBlock=none∨v.ownBlock≠row):Row Qc w' base e size v n xs:=
 ⟨h.own.kept hg hne,fun g cur t p h1 h2=>by
  have hlt:=(h.own.lt g h1).2
  rw [hg.block g hlt (fun e=>by rcases hne with h9|h9;(rw [h9] at h1;cases h1);exact h9 (h1.trans e))] at h2
  exact h.all g cur t p h1 h2⟩
theorem Zcf(hb:Below w.heap.size w w')(row:Option Nat):w.grownBy w' row:=⟨hb.os,hb.tape,hb.output,hb.size,fun k hk _=>hb.block k hk⟩
theorem Row.on(h:Row Qc w base e size v n xs)(hb:Below w.heap.size w w'):Row Qc w' base e size v n xs:=
 h.kept (Zcf hb none) (by cases v.ownBlock <;>simp)
theorem Row.base_le(h:Row Qc w base e size v n xs){b:Nat}(hb:b≤base):Row Qc w b e size v n xs:=
 ⟨⟨h.own.1,h.own.2.imp id (fun ⟨g,cap,cur,h1,h2,h3⟩=>⟨g,cap,cur,h1,Nat.le_trans hb h2,h3⟩)⟩,h.all⟩
theorem Zgu{row:Option Nat}{B:Nat}(hg:w.grownBy w' row)(hB:B≤w.heap.size)(hrow:∀k,row=some k→B≤k):Below B w w':=
 (Below.refl _ _).grown hg hB hrow
theorem Row.below(h:Row Qc w base e size v n xs)(hg:w.grownBy w' v.ownBlock)(hb:base≤w.heap.size):Below base w w':=
 Zgu hg hb (fun k hk=>(h.own.lt k hk).1)
end
section
variable{P:Program}(w:World)
theorem ZsV{Qc:Value→Prop}(base:Nat)(t ty e:TypeId)(i:TypeInfo)(z:Value)(size bytes:Nat)(ht:P.underlying t=some (.slice e))(hi:P.info? e=some i)(hz:i.zero=some z)(hsize:i.size=size)(hby:i.bytes=bytes)(hzs:z.cells.size=size)(hsz:0<size)(v:Value)(n:Nat)(xs:List Value)(hown:Row Qc w base e size v n xs)(a:Addr)(m c:Nat)(news:List Value)(hl:news.length=m*size)(hnews:∀j u,news[j]?=some u→w.cell? (a.add j)=some u)(h1:∀u∈news,u.oneCell'=true)(h63:n+m≤maxLen)(hbytes:(n+m)*bytes≤140737488355328)(hbase:base≤w.heap.size)(hm:0<m)(hQz:∀x∈z.cells,Qc x)(hQn:∀x∈news,Qc x):
  ∃v' w',(Builtin.append_ #[t,t] ty #[v,.slice (some a) m c]).run P w=.ok v' w'∧Row Qc w' base e size v' (n+m) (xs++news)∧w.grownBy w' v.ownBlock∧(v'.ownBlock=v.ownBlock∨v'.ownBlock=some w.heap.size):=by
 obtain ⟨v',w',hrun,h2,h3,_,h5⟩:=run_append_own_at (P:=P) w base t ty e i z size bytes ht hi hz hsize hby hzs hsz v n xs hown.own a m c news hl hnews h1 h63 hbytes hbase
 refine ⟨v',w',hrun,⟨h2,?_⟩,h3,h5⟩
 subst hsize
 subst hby
 have hsmall:n+m≤9223372036854775807:=by simp only [maxLen] at h63;omega
 have hzero:∀k,∀x∈Builtin.zeroCells z.cells k,Qc x:=fun k x hx=>by
  simp only [Builtin.zeroCells,Array.mem_map,Array.mem_range] at hx
  obtain ⟨j,_,rfl⟩:=hx
  rw [getElem!_pos z.cells (j % z.cells.size) (Nat.mod_lt _ (by omega))]
  exact hQz _ (Array.getElem_mem _)
 have fin:∀(v1:Value) (w1:World),(Builtin.append_ #[t,t] ty #[v,.slice (some a) m c]).run P w=.ok v1 w1→v1=v'∧w1=w':=fun v1 w1 h=>by
  rw [hrun] at h;cases h;exact ⟨rfl,rfl⟩
 have hxs:∀x∈xs,Qc x:=fun x hx=>by
  rcases hown.own.2 with ⟨rfl,h0⟩|⟨g,cap,cur,rfl,_,hg,_,_,_,htake⟩
  ·have hx0:xs=[]:=List.eq_nil_of_length_eq_zero (by rw [hown.own.1,h0];simp)
   rw [hx0] at hx;cases hx
  ·rw [←htake] at hx
   exact hown.all g cur e (0,0) rfl hg x (by simpa using List.mem_of_mem_take hx)
 rcases hown.own.2 with ⟨rfl,h0⟩|⟨g,cap,cur,rfl,hbg,hg,hnc,hcm,hcs,htake⟩
 ·subst h0
  have hr:=run_append_nil (P:=P) w t ty e i z ht hi hz a m c news hl hnews hm (by omega) (by have hb:=hbytes;simp only [Nat.zero_add] at hb;omega)
  obtain ⟨rfl,rfl⟩:=fin _ _ hr
  intro g cur t' p hg hc x hx
  simp only [Value.ownBlock,Option.some.injEq] at hg
  subst hg
  rw [show w.heap.size=w.drew.heap.size from rfl,heap_alloc_new] at hc
  cases hc
  rcases Array.mem_append.1 hx with h|h
  ·exact hQn x (by simpa using h)
  ·exact hzero _ x h
 ·by_cases hroom:n+m≤cap
  ·have hfit:n*i.size+news.length≤cur.size:=by rw [hl,hcs,←Nat.add_mul];exact Nat.mul_le_mul_right _ hroom
   have hr:=run_append_room (P:=P) w t ty e i ht hi g n cap cur hg a m c news hl hnews h1 hroom hfit
   obtain ⟨rfl,rfl⟩:=fin _ _ hr
   intro g' cur' t' p hg' hc x hx
   simp only [Value.ownBlock,Option.some.injEq] at hg'
   subst hg'
   rw [setRow_heap w g cur _ e _ hg] at hc
   cases hc
   simp only [List.mem_toArray,List.mem_append] at hx
   rcases hx with (h|h)|h
   ·exact hown.all g cur e (0,0) rfl hg x (by simpa using List.mem_of_mem_take h)
   ·exact hQn x h
   ·exact hown.all g cur e (0,0) rfl hg x (by simpa using List.mem_of_mem_drop h)
  ·have holds:∀j u,xs[j]?=some u→w.cell? ((⟨g,0,none⟩:Addr).add j)=some u:=hown.own.cells (g:=g) rfl
   have hr:=run_append_grow (P:=P) w t ty e i z ht hi hz ⟨g,0,none⟩ n cap xs hown.own.1 holds a m c news hl hnews (by omega) (by omega) (growslice_fits (by omega) hbytes)
   obtain ⟨rfl,rfl⟩:=fin _ _ hr
   intro g' cur' t' p hg' hc x hx
   simp only [Value.ownBlock,Option.some.injEq] at hg'
   subst hg'
   rw [show w.heap.size=w.drew.heap.size from rfl,heap_alloc_new] at hc
   cases hc
   rcases Array.mem_append.1 hx with h|h
   ·rcases Array.mem_append.1 h with h|h
    ·exact hxs x (by simpa using h)
    ·exact hQn x (by simpa using h)
   ·exact hzero _ x h
theorem Zfh{Qc:Value→Prop}(base:Nat)(t ty e:TypeId)(i:TypeInfo)(z:Value)(size bytes:Nat)(ht:P.underlying t=some (.slice e))(hi:P.info? e=some i)(hz:i.zero=some z)(hsize:i.size=size)(hby:i.bytes=bytes)(hsz:0<size)(v:Value)(n:Nat)(xs:List Value)(hown:Row Qc w base e size v n xs)(a:Addr)(m c:Nat)(news:List Value)(hl:news.length=m*size)(hnews:∀j u,news[j]?=some u→w.cell? (a.add j)=some u)(h1:∀u∈news,u.oneCell'=true)(h63:n+m≤maxLen)(hbytes:(n+m)*bytes≤140737488355328)(v':Value)(w':World)(hrun:(Builtin.append_ #[t,t] ty #[v,.slice (some a) m c]).run P w=.ok v' w')(g:Nat)(hg:v.ownBlock=some g)(j:Nat)(u:Value)(hu:xs[j]?=some u):w'.cell? ⟨g,j,none⟩=some u:=by
 subst hsize
 subst hby
 have hsmall:n+m≤9223372036854775807:=by simp only [maxLen] at h63;omega
 rcases hown.own.2 with ⟨rfl,h0⟩|⟨g',cap,cur,rfl,hbg,hgg,hnc,hcm,hcs,htake⟩
 ·simp [Value.ownBlock] at hg
 ·simp only [Value.ownBlock,Option.some.injEq] at hg
  subst hg
  have hold:w.cell? ⟨g',j,none⟩=some u:=by
   have:=hown.own.cells (g:=g') rfl j u hu
   rw [show (⟨g',0,none⟩:Addr).add j=⟨g',j,none⟩ by unfold Addr.add;split <;>simp_all] at this
   exact this
  by_cases hroom:n+m≤cap
  ·have hfit:n*i.size+news.length≤cur.size:=by rw [hl,hcs,←Nat.add_mul];exact Nat.mul_le_mul_right _ hroom
   have hr:=run_append_room (P:=P) w t ty e i ht hi g' n cap cur hgg a m c news hl hnews h1 hroom hfit
   rw [hr] at hrun
   cases hrun
   rw [cell_setRow_same w g' j cur _ e _ hgg]
   have hj:j<xs.length:=(List.getElem?_eq_some_iff.1 hu).1
   rw [hown.own.1] at hj
   rw [←htake] at hu
   rw [←Array.getElem?_toList]
   simp only [List.append_assoc]
   rw [List.getElem?_append_left (by simp;omega)]
   exact hu
  ·have holds:∀j u,xs[j]?=some u→w.cell? ((⟨g',0,none⟩:Addr).add j)=some u:=hown.own.cells (g:=g') rfl
   have hr:=run_append_grow (P:=P) w t ty e i z ht hi hz ⟨g',0,none⟩ n cap xs hown.own.1 holds a m c news hl hnews (by omega) (by omega) (growslice_fits (by omega) hbytes)
   rw [hr] at hrun
   cases hrun
   have hlt:g'<w.heap.size:=(Array.getElem?_eq_some_iff.1 hgg).1
   rw [World.cell?_of_block (w:=w) (a:=⟨g',j,none⟩) (Below.heap_alloc w.drew _ g' hlt)]
   exact hold
theorem Zd2{Qc:Value→Prop}(base:Nat)(t ty e:TypeId)(i:TypeInfo)(z:Value)(size bytes:Nat)(ht:P.underlying t=some (.slice e))(hi:P.info? e=some i)(hz:i.zero=some z)(hsize:i.size=size)(hby:i.bytes=bytes)(hsz:0<size)(v:Value)(n:Nat)(xs:List Value)(hown:Row Qc w base e size v n xs)(a:Addr)(m c:Nat)(news:List Value)(hl:news.length=m*size)(hnews:∀j u,news[j]?=some u→w.cell? (a.add j)=some u)(h1:∀u∈news,u.oneCell'=true)(h63:n+m≤maxLen)(hbytes:(n+m)*bytes≤140737488355328)(v':Value)(w':World)(hrun:(Builtin.append_ #[t,t] ty #[v,.slice (some a) m c]).run P w=.ok v' w')(g:Nat)(hg:v.ownBlock=some g):w'.shape? g=w.shape? g:=by
 subst hsize
 subst hby
 have hsmall:n+m≤9223372036854775807:=by simp only [maxLen] at h63;omega
 rcases hown.own.2 with ⟨rfl,h0⟩|⟨g',cap,cur,rfl,hbg,hgg,hnc,hcm,hcs,htake⟩
 ·simp [Value.ownBlock] at hg
 ·simp only [Value.ownBlock,Option.some.injEq] at hg
  subst hg
  by_cases hroom:n+m≤cap
  ·have hfit:n*i.size+news.length≤cur.size:=by rw [hl,hcs,←Nat.add_mul];exact Nat.mul_le_mul_right _ hroom
   have hr:=run_append_room (P:=P) w t ty e i ht hi g' n cap cur hgg a m c news hl hnews h1 hroom hfit
   rw [hr] at hrun
   cases hrun
   simp [World.shape?,setRow_heap w g' cur _ e _ hgg,hgg]
   omega
  ·have holds:∀j u,xs[j]?=some u→w.cell? ((⟨g',0,none⟩:Addr).add j)=some u:=hown.own.cells (g:=g') rfl
   have hr:=run_append_grow (P:=P) w t ty e i z ht hi hz ⟨g',0,none⟩ n cap xs hown.own.1 holds a m c news hl hnews (by omega) (by omega) (growslice_fits (by omega) hbytes)
   rw [hr] at hrun
   cases hrun
   have hlt:g'<w.heap.size:=(Array.getElem?_eq_some_iff.1 hgg).1
   unfold World.shape?
   rw [Below.heap_alloc w.drew _ g' hlt]
   rfl
theorem ZdX(base:Nat)(t ty e:TypeId)(i:TypeInfo)(size:Nat)(ht:P.underlying t=some (.slice e))(hi:P.info? e=some i)(v:Value)(n:Nat)(xs:List Value)(hown:w.ownsRow base e size v n xs)(A:Option Addr)(c:Nat):(Builtin.append_ #[t,t] ty #[v,.slice A 0 c]).run P w=.ok v w:=by
 rcases hown.2 with ⟨rfl,rfl⟩|⟨g,cap,cur,rfl,_,_,hnc,_⟩
 ·cases A <;>simp [Builtin.append_,run_underlying ht,sizeOf,typeInfo,hi,Builtin.lenOf,Builtin.firstCells,loadCells,loadCellsFrom]
 ·cases A <;>simp [Builtin.append_,run_underlying ht,sizeOf,typeInfo,hi,Builtin.lenOf,Builtin.firstCells,hnc,storeCells,loadCells,loadCellsFrom]
end
def Xp(x:Value):Prop:=∀z,x≠.int .u32 z
theorem Row.shape{w:World}{Qc:Value→Prop}{base:Nat}{e:TypeId}{size:Nat}{v:Value}{n:Nat}{xs:List Value}(h:Row Qc w base e size v n xs):∃ad c,v=.slice ad n c:=by
 rcases h.own.2 with ⟨rfl,rfl⟩|⟨g,cap,cur,rfl,_⟩
 ·exact ⟨_,_,rfl⟩
 ·exact ⟨_,_,rfl⟩
theorem Row.empty{w:World}{t:TypeId}(Qc:Value→Prop)(size:Nat){cs:Array Value}(hcs:cs=#[]):Row Qc (w.alloc (.cells cs t)) w.heap.size t size (.slice (some ⟨w.heap.size,0,none⟩) 0 0) 0 []:=by
 subst hcs
 have h:(w.alloc (.cells #[] t)).heap[w.heap.size]?=some (.cells #[] t (0,0)):=heap_alloc_new ..
 refine ⟨⟨by simp,.inr ⟨w.heap.size,0,#[],rfl,Nat.le_refl _,h,Nat.le_refl _,by simp [maxLen],by simp,by simp⟩⟩,fun g cur t' p hg hc x hx=>?_⟩
 simp only [Value.ownBlock,Option.some.injEq] at hg
 subst hg
 rw [h] at hc
 cases hc
 simp at hx
theorem YN{b o i:Nat}:(⟨b,o,none⟩:Addr).add i=⟨b,o+i,none⟩:=by
 unfold Addr.add
 split
 ·rename_i h;subst h;rfl
 ·rfl
end Go.Proofs.YtdaonnnlgfhlaaaGreatDoor
