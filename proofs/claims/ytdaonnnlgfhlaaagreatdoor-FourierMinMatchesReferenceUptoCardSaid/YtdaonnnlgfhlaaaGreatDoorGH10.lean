import Derived.Test.YtdaonnnlgfhlaaaGreatDoorGH9
set_option linter.all false
namespace Go.Proofs.YtdaonnnlgfhlaaaGreatDoor
open Go.RowKit
inductive AV where
 | any
 | lit (v:Value)
 | nl (k:Nat)
 | agg (cs:List AV)
 | tup (cs:List AV)
 | sl (k:Nat) (es:List (List AV))
 | mem (cs:List AV)
 | clo (f:FuncId) (cs:List AV)
 | own (b n:Nat)
 | ptr (b o:Nat)
 | rptr (b k i j:Nat)
 | mp (b:Nat)
 | err
 deriving Inhabited
inductive RepT (w:World) (ok:Nat→Nat→Prop):AV→Value→Prop
 | any (v:Value):RepT w ok .any v
 | lit (v:Value):RepT w ok (.lit v) v
 | err (t:TypeId) (v:Value):RepT w ok .err (.iface t v)
 | nl (k:Nat):RepT w ok (.nl k) (.slice none 0 0)
 | agg {cs:List AV} {vs:Array Value} (hn:vs.size=cs.length) (h:∀(i:Nat) (d:AV),cs[i]?=some d→RepT w ok d (vs.getD i undef)):RepT w ok (.agg cs) (.agg vs)
 | tup {cs:List AV} {vs:Array Value} (hn:vs.size=cs.length) (h:∀(i:Nat) (d:AV),cs[i]?=some d→RepT w ok d (vs.getD i undef)):RepT w ok (.tup cs) (.tuple vs)
 | clo {f:FuncId} {cs:List AV} {vs:Array Value} (hn:vs.size=cs.length) (h:∀(i:Nat) (d:AV),cs[i]?=some d→RepT w ok d (vs.getD i undef)):RepT w ok (.clo f cs) (.func (.func f) #[] vs)
 | nil {k:Nat} (a:Option Addr) (c:Nat):RepT w ok (.sl k []) (.slice a 0 c)
 | sl {k b o c:Nat} {es:List (List AV)} (hk:∀e∈es,e.length=k) (hc:es.length≤c)
   (hm:∀(i j:Nat) (e:List AV) (d:AV),es[i]?=some e→e[j]?=some d→ok b (o+i*k+j)∧(w.cell? ⟨b,o+i*k+j,none⟩).isSome=true)
   (h:∀(i j:Nat) (e:List AV) (d:AV),es[i]?=some e→e[j]?=some d→RepT w ok d ((w.cell? ⟨b,o+i*k+j,none⟩).getD undef)):RepT w ok (.sl k es) (.slice (some ⟨b,o,none⟩) es.length c)
 | mem {b o:Nat} {cs:List AV}
   (hm:∀(j:Nat) (d:AV),cs[j]?=some d→ok b (o+j)∧(w.cell? ⟨b,o+j,none⟩).isSome=true)
   (h:∀(j:Nat) (d:AV),cs[j]?=some d→RepT w ok d ((w.cell? ⟨b,o+j,none⟩).getD undef)):RepT w ok (.mem cs) (.pointer (some ⟨b,o,none⟩))
theorem RepT.mono{w w':World}{ok ok':Nat→Nat→Prop}(hc:∀b o v,ok b o→w.cell? ⟨b,o,none⟩=some v→w'.cell? ⟨b,o,none⟩=some v)(hok:∀b o v,ok b o→w.cell? ⟨b,o,none⟩=some v→ok' b o){d:AV}{v:Value}(h:RepT w ok d v):RepT w' ok' d v:=by
 have key:∀b o,ok b o→(w.cell? ⟨b,o,none⟩).isSome=true→w'.cell? ⟨b,o,none⟩=w.cell? ⟨b,o,none⟩∧ok' b o:=fun b o h1 h2=>by
  obtain ⟨u,hu⟩:=Option.isSome_iff_exists.1 h2
  exact ⟨(hc b o u h1 hu).trans hu.symm,hok b o u h1 hu⟩
 induction h with
 | any v=>exact .any v
 | lit v=>exact .lit v
 | err t v=>exact .err t v
 | nl k=>exact .nl k
 | agg hn _ ih=>exact .agg hn ih
 | tup hn _ ih=>exact .tup hn ih
 | clo hn _ ih=>exact .clo hn ih
 | nil a c=>exact .nil a c
 | sl hk hcap hm _ ih=>
   refine .sl hk hcap (fun i j e d h1 h2=>?_) (fun i j e d h1 h2=>?_)
   ·obtain ⟨h3,h4⟩:=hm i j e d h1 h2
    obtain ⟨h5,h6⟩:=key _ _ h3 h4
    exact ⟨h6,by rw [h5];exact h4⟩
   ·obtain ⟨h3,h4⟩:=hm i j e d h1 h2
    rw [(key _ _ h3 h4).1]
    exact ih i j e d h1 h2
 | mem hm _ ih=>
   refine .mem (fun j d h1=>?_) (fun j d h1=>?_)
   ·obtain ⟨h3,h4⟩:=hm j d h1
    obtain ⟨h5,h6⟩:=key _ _ h3 h4
    exact ⟨h6,by rw [h5];exact h4⟩
   ·obtain ⟨h3,h4⟩:=hm j d h1
    rw [(key _ _ h3 h4).1]
    exact ih j d h1
inductive Rep (w:World) (ok:Nat→Nat→Prop) (L:Nat→Option Value):AV→Value→Prop
 | t {d:AV} {v:Value} (h:RepT w ok d v):Rep w ok L d v
 | agg {cs:List AV} {vs:Array Value} (hn:vs.size=cs.length) (h:∀(i:Nat) (d:AV),cs[i]?=some d→Rep w ok L d (vs.getD i undef)):Rep w ok L (.agg cs) (.agg vs)
 | tup {cs:List AV} {vs:Array Value} (hn:vs.size=cs.length) (h:∀(i:Nat) (d:AV),cs[i]?=some d→Rep w ok L d (vs.getD i undef)):Rep w ok L (.tup cs) (.tuple vs)
 | clo {f:FuncId} {cs:List AV} {vs:Array Value} (hn:vs.size=cs.length) (h:∀(i:Nat) (d:AV),cs[i]?=some d→Rep w ok L d (vs.getD i undef)):Rep w ok L (.clo f cs) (.func (.func f) #[] vs)
 | own {b n c:Nat} {a:Option Addr} (h:L b=some (.slice a n c)):Rep w ok L (.own b n) (.slice a n c)
 | ptr {b o g:Nat} (h:L b=some (.pointer (some ⟨g,0,none⟩))):Rep w ok L (.ptr b o) (.pointer (some ⟨g,o,none⟩))
 | rptr {b k i j g n c:Nat} (h:L b=some (.slice (some ⟨g,0,none⟩) n c)):Rep w ok L (.rptr b k i j) (.pointer (some ⟨g,i*k+j,none⟩))
 | mp {b g:Nat} (h:L b=some (.map (some g))):Rep w ok L (.mp b) (.map (some g))
theorem Rep.mono{w w':World}{ok ok':Nat→Nat→Prop}{L L':Nat→Option Value}(hc:∀b o v,ok b o→w.cell? ⟨b,o,none⟩=some v→w'.cell? ⟨b,o,none⟩=some v)(hok:∀b o v,ok b o→w.cell? ⟨b,o,none⟩=some v→ok' b o)(hL:∀b v,L b=some v→L' b=some v){d:AV}{v:Value}(h:Rep w ok L d v):Rep w' ok' L' d v:=by
 induction h with
 | t h=>exact .t (h.mono hc hok)
 | agg hn _ ih=>exact .agg hn ih
 | tup hn _ ih=>exact .tup hn ih
 | clo hn _ ih=>exact .clo hn ih
 | own h=>exact .own (hL _ _ h)
 | ptr h=>exact .ptr (hL _ _ h)
 | rptr h=>exact .rptr (hL _ _ h)
 | mp h=>exact .mp (hL _ _ h)
mutual
def AV.isT:AV→Bool
 | .own ..|.ptr ..|.rptr ..|.mp _=>false
 | .agg cs|.tup cs|.clo _ cs=>AV.allT cs
 | _=>true
def AV.allT:List AV→Bool
 | []=>true
 | d::l=>d.isT && AV.allT l
end
theorem AV.allT_get:∀{l:List AV} {i:Nat} {d:AV},AV.allT l=true→l[i]?=some d→d.isT=true
 | [],_,_,_,h=>by simp at h
 | x::l,0,d,h,hi=>by
   rw [AV.allT,Bool.and_eq_true] at h
   simp at hi
   exact hi▸h.1
 | x::l,i+1,d,h,hi=>by
   rw [AV.allT,Bool.and_eq_true] at h
   exact AV.allT_get h.2 (by simpa using hi)
theorem Rep.toT{w:World}{ok:Nat→Nat→Prop}{L:Nat→Option Value}{d:AV}{v:Value}(h:Rep w ok L d v)(ht:d.isT=true):RepT w ok d v:=by
 induction h with
 | t h=>exact h
 | agg hn _ ih=>rw [AV.isT] at ht;exact .agg hn fun i d hi=>ih i d hi (AV.allT_get ht hi)
 | tup hn _ ih=>rw [AV.isT] at ht;exact .tup hn fun i d hi=>ih i d hi (AV.allT_get ht hi)
 | clo hn _ ih=>rw [AV.isT] at ht;exact .clo hn fun i d hi=>ih i d hi (AV.allT_get ht hi)
 | own h=>simp [AV.isT] at ht
 | ptr h=>simp [AV.isT] at ht
 | rptr h=>simp [AV.isT] at ht
 | mp h=>simp [AV.isT] at ht
def AV.notU:AV→Bool
 | .any|.agg _|.tup _=>false
 | .lit v=>match v with
   | .int .u32 _|.agg _|.tuple _=>false
   | _=>true
 | _=>true
theorem Rep.notU{w:World}{ok:Nat→Nat→Prop}{L:Nat→Option Value}{d:AV}{v:Value}(h:Rep w ok L d v)(hn:d.notU=true):Xp v∧v.oneCell'=true:=by
 cases h with
 | t h=>
   cases h with
   | any v=>simp [AV.notU] at hn
   | lit v=>
     cases v <;>simp [AV.notU] at hn <;>refine ⟨fun z e=>?_,rfl⟩
     all_goals first
      | cases e;done
      | (cases e;simp at hn)
   | agg h1 h2=>simp [AV.notU] at hn
   | tup h1 h2=>simp [AV.notU] at hn
   | clo h1 h2=>exact ⟨fun z e=>(by cases e),rfl⟩
   | nl k=>exact ⟨fun z e=>(by cases e),rfl⟩
   | err t v=>exact ⟨fun z e=>(by cases e),rfl⟩
   | nil a c=>exact ⟨fun z e=>(by cases e),rfl⟩
   | sl h1 h2 h3 h4=>exact ⟨fun z e=>(by cases e),rfl⟩
   | mem h1 h2=>exact ⟨fun z e=>(by cases e),rfl⟩
 | agg h1 h2=>simp [AV.notU] at hn
 | tup h1 h2=>simp [AV.notU] at hn
 | clo h1 h2=>exact ⟨fun z e=>(by cases e),rfl⟩
 | own h=>exact ⟨fun z e=>(by cases e),rfl⟩
 | ptr h=>exact ⟨fun z e=>(by cases e),rfl⟩
 | rptr h=>exact ⟨fun z e=>(by cases e),rfl⟩
 | mp h=>exact ⟨fun z e=>(by cases e),rfl⟩
inductive AB where
 | row (e:TypeId) (k:Nat) (es:List (List AV)) (fz:Nat)
 | box (t:TypeId) (cs:List AV) (fz:Bool)
 | mp (es:List (ByteArray × Value))
def AB.frz:AB→Nat→Prop
 | .row _ k _ fz,o=>o<fz*k
 | .box _ _ fz,_=>fz=true
 | .mp _,_=>False
def AB.freeze:AB→AB
 | .row e k es _=>.row e k es es.length
 | .box t cs _=>.box t cs true
 | .mp es=>.mp es
def gOf:Value→Option Nat
 | .slice (some a) _ _=>some a.block
 | .pointer (some a)=>some a.block
 | .map (some r)=>some r
 | _=>none
def BRel(w:World)(ok:Nat→Nat→Prop)(L:Nat→Option Value)(id:Nat):AB→Prop
 | .row e k es fz=>∃v xs,L id=some v∧Row Xp w 0 e k v es.length xs∧fz≤es.length∧(∀x∈es,x.length=k)∧
   ∀(i j:Nat) (x:List AV) (d:AV),es[i]?=some x→x[j]?=some d→∃u,xs[i*k+j]?=some u∧RepT w ok d u
 | .box t cs _=>∃g cells,L id=some (.pointer (some ⟨g,0,none⟩))∧w.heap[g]?=some (.cells cells t (0,0))∧cells.size=cs.length∧
   (∀(i:Nat) (d:AV),cs[i]?=some d→Rep w ok L d (cells.getD i undef))∧∀x∈cells,Xp x
 | .mp es=>∃g ents c,L id=some (.map (some g))∧w.heap[g]?=some (.map ents c)∧ents.toList.map (fun e=>(e.key,e.val))=es.map fun p=>(Value.string p.1,p.2)
def okS(E:Nat→Nat→Prop)(B:Nat→Option AB)(L:Nat→Option Value)(b o:Nat):Prop:=E b o∧∀id blk v,B id=some blk→L id=some v→gOf v=some b→blk.frz o
def Zlh : Nat → Option (List AV) := fun g => if g = 0 then some [.lit (Value.int .u64 1), .lit (Value.int .u64 10), .lit (Value.int .u64 100), .lit (Value.int .u64 1000), .lit (Value.int .u64 10000), .lit (Value.int .u64 100000), .lit (Value.int .u64 1000000), .lit (Value.int .u64 10000000), .lit (Value.int .u64 100000000), .lit (Value.int .u64 1000000000), .lit (Value.int .u64 10000000000), .lit (Value.int .u64 100000000000), .lit (Value.int .u64 1000000000000), .lit (Value.int .u64 10000000000000), .lit (Value.int .u64 100000000000000), .lit (Value.int .u64 1000000000000000), .lit (Value.int .u64 10000000000000000), .lit (Value.int .u64 100000000000000000), .lit (Value.int .u64 1000000000000000000), .lit (Value.int .u64 10000000000000000000)] else none
def ZtW(g:Nat):AV:=match Zlh g with|some cs=>.mem cs|none=>.lit (.pointer (some ⟨g,0,none⟩))
def ZAs : List Nat := []
def ZyG : List Nat := []
def Glob(w:World)(ok:Nat→Nat→Prop):Prop:=(∀g cs,Zlh g=some cs→RepT w ok (.mem cs) (.pointer (some ⟨g,0,none⟩))∧∃t,w.shape? g=some (t,cs.length))∧(∀g∈ZAs,ok g 0∧∃te pe,w.cell? ⟨g,0,none⟩=some (.iface te pe))∧∀g∈ZyG,ok g 0∧∃m,w.cell? ⟨g,0,none⟩=some (.int .i64 m)
theorem ZqN{w:World}{g:Nat}{x:TypeId × Nat}(h:w.shape? g=some x):g<w.heap.size:=by
 rcases Nat.lt_or_ge g w.heap.size with h9|h9
 ·exact h9
 ·simp [World.shape?,Array.getElem?_eq_none h9] at h
theorem Glob.mono{w w':World}{ok ok':Nat→Nat→Prop}(hc:∀b o v,ok b o→w.cell? ⟨b,o,none⟩=some v→w'.cell? ⟨b,o,none⟩=some v)(hok:∀b o v,ok b o→w.cell? ⟨b,o,none⟩=some v→ok' b o)(hs:∀g,g<w.heap.size→w'.shape? g=w.shape? g)(h:Glob w ok):Glob w' ok':=⟨fun g cs hg=>by
 obtain ⟨h1,t,h2⟩:=h.1 g cs hg
 exact ⟨h1.mono hc hok,t,(hs g (ZqN h2)).trans h2⟩,fun g hg=>by
 obtain ⟨h1,te,pe,h2⟩:=h.2.1 g hg
 exact ⟨hok _ _ _ h1 h2,te,pe,hc _ _ _ h1 h2⟩,fun g hg=>by
 obtain ⟨h1,m,h2⟩:=h.2.2 g hg
 exact ⟨hok _ _ _ h1 h2,m,hc _ _ _ h1 h2⟩⟩
theorem Glob.val{w:World}{ok:Nat→Nat→Prop}(h:Glob w ok)(g:Nat):RepT w ok (ZtW g) (.pointer (some ⟨g,0,none⟩)):=by
 unfold ZtW
 split
 ·rename_i cs hg;exact (h.1 g cs hg).1
 ·exact .lit _
structure BsRel (E:Nat→Nat→Prop) (B:Nat→Option AB) (L:Nat→Option Value) (w:World):Prop where
 blk:∀id blk,B id=some blk→BRel w (okS E B L) L id blk
 ext:∀id blk v g,B id=some blk→L id=some v→gOf v=some g→∀o,E g o
 fresh:∀g o,w.heap.size≤g→E g o
 limb:∀b o z,w.cell? ⟨b,o,none⟩=some (.int .u32 z)→E b o
 inj:∀id id' blk blk' v v' g,B id=some blk→B id'=some blk'→L id=some v→L id'=some v'→gOf v=some g→gOf v'=some g→id=id'
 glob:Glob w (okS E B L)
structure Mod (M:Nat→Nat→Prop) (w w':World):Prop where
 os:w'.os=w.os
 tape:w'.tape=w.tape
 output:w'.output=w.output
 size:w.heap.size≤w'.heap.size
 block:∀g,g<w.heap.size→(∀o,¬M g o)→w'.heap[g]?=w.heap[g]?
 cell:∀g o v,¬M g o→w.cell? ⟨g,o,none⟩=some v→w'.cell? ⟨g,o,none⟩=some v
 shape:∀g,g<w.heap.size→w'.shape? g=w.shape? g
theorem Mod.refl(M:Nat→Nat→Prop)(w:World):Mod M w w:=⟨rfl,rfl,rfl,Nat.le_refl _,fun _ _ _=>rfl,fun _ _ _ _ h=>h,fun _ _=>rfl⟩
theorem Mod.trans{M M':Nat→Nat→Prop}{a b c:World}(h:Mod M a b)(k:Mod M' b c):Mod (fun g o=>M g o∨M' g o) a c:=
 ⟨k.os.trans h.os,k.tape.trans h.tape,k.output.trans h.output,Nat.le_trans h.size k.size,
  fun g hg hn=>(k.block g (Nat.lt_of_lt_of_le hg h.size) fun o h9=>hn o (.inr h9)).trans (h.block g hg fun o h9=>hn o (.inl h9)),
  fun g o v hn hv=>k.cell g o v (fun h9=>hn (.inr h9)) (h.cell g o v (fun h9=>hn (.inl h9)) hv),
  fun g hg=>(k.shape g (Nat.lt_of_lt_of_le hg h.size)).trans (h.shape g hg)⟩
theorem Mod.mono{M M':Nat→Nat→Prop}{w w':World}(h:Mod M w w')(hM:∀g o,g<w.heap.size→M g o→M' g o):Mod M' w w':=by
 refine ⟨h.os,h.tape,h.output,h.size,fun g hg hn=>h.block g hg fun o h9=>hn o (hM g o hg h9),fun g o v hn hv=>h.cell g o v (fun h9=>hn (hM g o ?_ h9)) hv,h.shape⟩
 have:g<w.heap.size:=by
  rcases Nat.lt_or_ge g w.heap.size with h|h
  ·exact h
  ·simp [World.cell?,Array.getElem?_eq_none h] at hv
 exact this
theorem Mod.of_below{w w':World}(h:Below w.heap.size w w')(M:Nat→Nat→Prop):Mod M w w':=by
 refine ⟨h.os,h.tape,h.output,h.size,fun g hg _=>h.block g hg,fun g o v _ hv=>?_,fun g hg=>by unfold World.shape?;rw [h.block g hg]⟩
 have:g<w.heap.size:=by
  rcases Nat.lt_or_ge g w.heap.size with h|h
  ·exact h
  ·simp [World.cell?,Array.getElem?_eq_none h] at hv
 exact (h.cell (p:=⟨g,o,none⟩) this).trans hv
theorem Jx{w:World}{g o:Nat}{v:Value}(hv:w.cell? ⟨g,o,none⟩=some v):g<w.heap.size:=by
 rcases Nat.lt_or_ge g w.heap.size with h|h
 ·exact h
 ·simp [World.cell?,Array.getElem?_eq_none h] at hv
theorem Mod.alloc(M:Nat→Nat→Prop)(w:World)(o:Obj):Mod M w (w.alloc o):=Mod.of_below ((Below.refl _ _).alloc (Nat.le_refl _) o) M
theorem Mod.drew(M:Nat→Nat→Prop)(w:World):Mod M w w.drew:=Mod.of_below ((Below.refl _ _).drew) M
def ZD:List (Nat × Option AB)→Nat→Option (Option AB)
 | [],_=>none
 | (y,b)::l,x=>if x=y then some b else ZD l x
def ZT(B:Nat→Option AB)(up:List (Nat × Option AB))(id:Nat):Option AB:=(ZD up id).getD (B id)
theorem Q4(B:Nat→Option AB):ZT B []=B:=funext fun _=>rfl
theorem Qb{B:Nat→Option AB}{up:List (Nat × Option AB)}{id:Nat}{o:Option AB}(h:ZD up id=some o):ZT B up id=o:=by simp [ZT,h]
theorem QQ{B:Nat→Option AB}{up:List (Nat × Option AB)}{id:Nat}(h:ZD up id=none):ZT B up id=B id:=by simp [ZT,h]
theorem Row.ownBlock_g{w:World}{e:TypeId}{k n:Nat}{v:Value}{xs:List Value}(h:Row Xp w 0 e k v n xs):v.ownBlock=gOf v:=by
 obtain ⟨ad,c,rfl⟩:=h.shape
 cases ad <;>rfl
theorem Row.of_block{w w':World}{e:TypeId}{k n:Nat}{v:Value}{xs:List Value}(h:Row Xp w 0 e k v n xs)(hg:∀g,gOf v=some g→w'.heap[g]?=w.heap[g]?):Row Xp w' 0 e k v n xs:=by
 have hb:=h.ownBlock_g
 refine ⟨⟨h.own.1,?_⟩,fun g cur t p h1 h2=>?_⟩
 ·rcases h.own.2 with h9|⟨g,cap,cur,rfl,h3,h4,h5⟩
  ·exact .inl h9
  ·exact .inr ⟨g,cap,cur,rfl,h3,(hg g rfl).trans h4,h5⟩
 ·rw [hg g (hb▸h1)] at h2
  exact h.all g cur t p h1 h2
theorem Row.g_lt{w:World}{e:TypeId}{k n:Nat}{v:Value}{xs:List Value}(h:Row Xp w 0 e k v n xs){g:Nat}(hg:gOf v=some g):g<w.heap.size:=(h.own.lt g (h.ownBlock_g▸hg)).2
theorem BRel.g_lt{w:World}{ok:Nat→Nat→Prop}{L:Nat→Option Value}{id:Nat}{blk:AB}(h:BRel w ok L id blk){v:Value}{g:Nat}(hv:L id=some v)(hg:gOf v=some g):g<w.heap.size:=by
 cases blk with
 | row e k es fz=>
   obtain ⟨v',xs,h1,h2,_⟩:=h
   rw [hv] at h1;cases h1
   exact h2.g_lt hg
 | box t cs fz=>
   obtain ⟨g',cells,h1,h2,_⟩:=h
   rw [hv] at h1;cases h1
   cases hg
   exact (Array.getElem?_eq_some_iff.1 h2).1
 | mp es=>
   obtain ⟨g',ents,c,h1,h2,_⟩:=h
   rw [hv] at h1;cases h1
   cases hg
   exact (Array.getElem?_eq_some_iff.1 h2).1
theorem BRel.has{w:World}{ok:Nat→Nat→Prop}{L:Nat→Option Value}{id:Nat}{blk:AB}(h:BRel w ok L id blk):∃v,L id=some v:=by
 cases blk with
 | row e k es fz=>obtain ⟨v',xs,h1,_⟩:=h;exact ⟨_,h1⟩
 | box t cs fz=>obtain ⟨g',cells,h1,_⟩:=h;exact ⟨_,h1⟩
 | mp es=>obtain ⟨g',ents,c,h1,_⟩:=h;exact ⟨_,h1⟩
theorem BRel.keep{w w':World}{ok ok':Nat→Nat→Prop}{L L':Nat→Option Value}{id:Nat}{blk:AB}(h:BRel w ok L id blk)(hg:∀v g,L id=some v→gOf v=some g→w'.heap[g]?=w.heap[g]?)(hc:∀b o v,ok b o→w.cell? ⟨b,o,none⟩=some v→w'.cell? ⟨b,o,none⟩=some v)(hok:∀b o v,ok b o→w.cell? ⟨b,o,none⟩=some v→ok' b o)(hL:∀b v,L b=some v→L' b=some v):BRel w' ok' L' id blk:=by
 cases blk with
 | row e k es fz=>
   obtain ⟨v,xs,h1,h2,h3,h4,h5⟩:=h
   exact ⟨v,xs,hL _ _ h1,h2.of_block fun g h9=>hg v g h1 h9,h3,h4,fun i j x d h6 h7=>by
    obtain ⟨u,h8,h9⟩:=h5 i j x d h6 h7
    exact ⟨u,h8,h9.mono hc hok⟩⟩
 | box t cs fz=>
   obtain ⟨g,cells,h1,h2,h3,h4,h5⟩:=h
   exact ⟨g,cells,hL _ _ h1,(hg _ g h1 rfl).trans h2,h3,fun i d h6=>(h4 i d h6).mono hc hok hL,h5⟩
 | mp es=>
   obtain ⟨g,ents,c,h1,h2,h3⟩:=h
   exact ⟨g,ents,c,hL _ _ h1,(hg _ g h1 rfl).trans h2,h3⟩
def ZvG(B:Nat→Option AB)(L:Nat→Option Value)(up:List (Nat × Option AB))(g o:Nat):Prop:=
 ∃id blk v,(ZD up id).isSome=true∧B id=some blk∧L id=some v∧gOf v=some g∧¬blk.frz o
structure Step (E:Nat→Nat→Prop) (B:Nat→Option AB) (L:Nat→Option Value) (up:List (Nat × Option AB)) (L':Nat→Option Value) (w w':World):Prop where
 lk:∀b v,L b=some v→L' b=some v
 mod:Mod (ZvG B L up) w w'
 new:(∀d v,Rep w (okS E B L) L d v→Rep w' (okS E (ZT B up) L') L' d v)→(∀d v,RepT w (okS E B L) d v→RepT w' (okS E (ZT B up) L') d v)→∀id blk,ZD up id=some (some blk)→BRel w' (okS E (ZT B up) L') L' id blk
 src:∀id blk v g,ZD up id=some (some blk)→L' id=some v→gOf v=some g→
  w.heap.size≤g∨∃id0 blk0 v0,(ZD up id0).isSome=true∧B id0=some blk0∧L id0=some v0∧gOf v0=some g∧∀o,blk0.frz o→blk.frz o
 inj:∀id id' blk blk' v v' g,ZD up id=some (some blk)→ZD up id'=some (some blk')→L' id=some v→L' id'=some v'→gOf v=some g→gOf v'=some g→id=id'
section
variable{E:Nat→Nat→Prop}{B:Nat→Option AB}{L L':Nat→Option Value}{up:List (Nat × Option AB)}{w w':World}
section
variable(s:Step E B L up L' w w')
include s
theorem Step.cells:∀b o v,okS E B L b o→w.cell? ⟨b,o,none⟩=some v→w'.cell? ⟨b,o,none⟩=some v:=fun b o v hok hc=>
 s.mod.cell b o v (fun ⟨id,blk,v0,_,h1,h2,h3,h4⟩=>h4 (hok.2 id blk v0 h1 h2 h3)) hc
theorem Step.oks(h:BsRel E B L w):∀b o v,okS E B L b o→w.cell? ⟨b,o,none⟩=some v→okS E (ZT B up) L' b o:=fun b o v hok hc=>⟨hok.1,fun id blk v' h1 h2 h3=>by
 cases hu:ZD up id with
 | none=>
   rw [QQ hu] at h1
   obtain ⟨v0,h4⟩:=(h.blk id blk h1).has
   have h5:=s.lk _ _ h4
   rw [h2] at h5;cases h5
   exact hok.2 id blk v' h1 h4 h3
 | some o'=>
   rw [Qb hu] at h1
   subst h1
   rcases s.src id blk v' b hu h2 h3 with h4|⟨id0,blk0,v0,_,h5,h6,h7,h8⟩
   ·exact absurd (Jx hc) (by omega)
   ·exact h8 o (hok.2 id0 blk0 v0 h5 h6 h7)⟩
theorem Step.rep(h:BsRel E B L w):∀d v,Rep w (okS E B L) L d v→Rep w' (okS E (ZT B up) L') L' d v:=fun _ _ hr=>hr.mono s.cells (s.oks h) s.lk
theorem Step.repT(h:BsRel E B L w):∀d v,RepT w (okS E B L) d v→RepT w' (okS E (ZT B up) L') d v:=fun _ _ hr=>hr.mono s.cells (s.oks h)
theorem Step.bs(h:BsRel E B L w):BsRel E (ZT B up) L' w':=by
 have old:∀id blk,ZD up id=none→ZT B up id=some blk→B id=some blk∧∃v,L id=some v∧L' id=some v:=fun id blk hu h1=>by
  rw [QQ hu] at h1
  obtain ⟨v,hv⟩:=(h.blk id blk h1).has
  exact ⟨h1,v,hv,s.lk _ _ hv⟩
 have mixed:∀id id' blk blk' v v' g,ZD up id=none→ZD up id'=some (some blk')→ZT B up id=some blk→L' id=some v→L' id'=some v'→gOf v=some g→gOf v'=some g→False:=fun id id' blk blk' v v' g hu hu' h1 h3 h4 h5 h6=>by
  obtain ⟨hB,v1,hv,hv'⟩:=old id blk hu h1
  rw [h3] at hv';cases hv'
  rcases s.src id' blk' v' g hu' h4 h6 with h7|⟨id0,blk0,v0,h8,h9,h10,h11,_⟩
  ·exact absurd ((h.blk id blk hB).g_lt hv h5) (by omega)
  ·have:=h.inj id id0 blk blk0 v v0 g hB h9 hv h10 h5 h11
   subst this
   rw [hu] at h8;cases h8
 have ext:∀id blk v g,ZT B up id=some blk→L' id=some v→gOf v=some g→∀o,E g o:=fun id blk v g h1 h2 h3 o=>by
  cases hu:ZD up id with
  | none=>
    obtain ⟨hB,v1,hv,hv'⟩:=old id blk hu h1
    rw [h2] at hv';cases hv'
    exact h.ext id blk v g hB hv h3 o
  | some o'=>
    rw [Qb hu] at h1
    subst h1
    rcases s.src id blk v g hu h2 h3 with h7|⟨id0,blk0,v0,_,h9,h10,h11,_⟩
    ·exact h.fresh g o h7
    ·exact h.ext id0 blk0 v0 g h9 h10 h11 o
 refine ⟨fun id blk h1=>?_,ext,fun g o hg=>h.fresh g o (Nat.le_trans s.mod.size hg),fun b o z hz=>?_,fun id id' blk blk' v v' g h1 h2 h3 h4 h5 h6=>?_,h.glob.mono s.cells (s.oks h) s.mod.shape⟩
 rotate_left
 ·rcases Nat.lt_or_ge b w.heap.size with hb|hb
  ·by_cases hm:∃o,ZvG B L up b o
   ·obtain ⟨o',id0,blk0,v0,_,h9,h10,h11,_⟩:=hm
    exact h.ext id0 blk0 v0 b h9 h10 h11 o
   ·have:=s.mod.block b hb fun o h9=>hm ⟨o,h9⟩
    rw [World.cell?_of_block (w:=w) (a:=⟨b,o,none⟩) this] at hz
    exact h.limb b o z hz
  ·exact h.fresh b o hb
 rotate_left
 ·cases hu:ZD up id with
  | none=>
    obtain ⟨hB,_⟩:=old id blk hu h1
    refine (h.blk id blk hB).keep (fun v g hv hg=>?_) s.cells (s.oks h) s.lk
    refine s.mod.block g ((h.blk id blk hB).g_lt hv hg) fun o ⟨id0,blk0,v0,h8,h9,h10,h11,_⟩=>?_
    have:=h.inj id id0 blk blk0 v v0 g hB h9 hv h10 hg h11
    subst this
    rw [hu] at h8;cases h8
  | some o'=>
    rw [Qb hu] at h1
    subst h1
    exact s.new (s.rep h) (s.repT h) id blk hu
 ·cases hu:ZD up id with
  | none=>
    cases hu':ZD up id' with
    | none=>
      obtain ⟨hB,v1,hv,hv1⟩:=old id blk hu h1
      obtain ⟨hB',v2,hv2,hv3⟩:=old id' blk' hu' h2
      rw [h3] at hv1;cases hv1
      rw [h4] at hv3;cases hv3
      exact h.inj id id' blk blk' v v' g hB hB' hv hv2 h5 h6
    | some o'=>
      rw [Qb hu'] at h2
      subst h2
      exact (mixed id id' blk blk' v v' g hu hu' h1 h3 h4 h5 h6).elim
  | some o=>
    rw [Qb hu] at h1
    subst h1
    cases hu':ZD up id' with
    | none=>exact (mixed id' id blk' blk v' v g hu' hu h2 h4 h3 h6 h5).elim
    | some o'=>
      rw [Qb hu'] at h2
      subst h2
      exact s.inj id id' blk blk' v v' g hu hu' h3 h4 h5 h6
end
end
theorem Step.still{E:Nat→Nat→Prop}{B:Nat→Option AB}{L:Nat→Option Value}{w w':World}(h:Mod (fun _ _=>False) w w'):Step E B L [] L w w':=
 ⟨fun _ _ h=>h,h.mono fun _ _ _ h=>h.elim,fun _ _ id blk h=>by simp [ZD] at h,fun id blk v g h=>by simp [ZD] at h,fun id id' blk blk' v v' g h=>by simp [ZD] at h⟩
theorem Step.refl{E:Nat→Nat→Prop}{B:Nat→Option AB}{L:Nat→Option Value}{w:World}:Step E B L [] L w w:=Step.still (Mod.refl _ _)
structure SRel (E:Nat→Nat→Prop) (N:Nat) (T:Nat→AV) (B:Nat→Option AB) (L:Nat→Option Value) (a:Act) (w:World):Prop where
 slots:∀t,Rep w (okS E B L) L (T t) (a.tmps.getD t undef)
 bs:BsRel E B L w
 size:a.tmps.size=N
 defers:a.defers=[]
def Vx(T:Nat→AV)(dst:Option Tmp)(v:AV):Nat→AV:=match dst with|some d=>fun t=>if t=d then v else T t|none=>T
theorem SRel.step{E:Nat→Nat→Prop}{N:Nat}{T:Nat→AV}{B:Nat→Option AB}{L L':Nat→Option Value}{up:List (Nat × Option AB)}{a:Act}{w w':World}(h:SRel E N T B L a w)(s:Step E B L up L' w w'){dst:Option Tmp}{d:AV}{v:Value}(hv:Rep w' (okS E (ZT B up) L') L' d v)(hd:∀t,dst=some t→t<N):SRel E N (Vx T dst d) (ZT B up) L' (a.put dst v) w':=by
 refine ⟨fun t=>?_,s.bs h.bs,?_,?_⟩
 ·cases dst with
  | none=>exact s.rep h.bs _ _ (h.slots t)
  | some x=>
    have hx:=hd x rfl
    by_cases e:t=x
    ·subst e
     have e1:(a.put (some t) v).tmps.getD t undef=v:=by
      simp only [Act.put]
      rw [Array.getD_eq_getD_getElem?,Array.getElem?_setIfInBounds_self_of_lt (by rw [h.size];exact hx)]
      rfl
     have e2:Vx T (some t) d t=d:=if_pos rfl
     rw [e1,e2]
     exact hv
    ·have e1:(a.put (some x) v).tmps.getD t undef=a.tmps.getD t undef:=by
      simp only [Act.put]
      rw [Array.getD_eq_getD_getElem?,Array.getElem?_setIfInBounds_ne (Ne.symm e),←Array.getD_eq_getD_getElem?]
     have e2:Vx T (some x) d t=T t:=if_neg e
     rw [e1,e2]
     exact s.rep h.bs _ _ (h.slots t)
 ·cases dst <;>simp [Act.put,h.size]
 ·cases dst <;>simp [Act.put,h.defers]
inductive Tr where
 | slot (t:Nat) (k:AV→Tr)
 | blk (b:Nat) (k:AB→Tr)
 | done (v:AV) (up:List (Nat × Option AB)) (nx:Nat)
 | fail
def Tr.run(T:Nat→AV)(B:Nat→Option AB):Tr→Option (AV × List (Nat × Option AB) × Nat)
 | .slot t k=>(k (T t)).run T B
 | .blk b k=>match B b with|some x=>(k x).run T B|none=>none
 | .done v up nx=>some (v,up,nx)
 | .fail=>none
def Tr.asks(T:Nat→AV)(B:Nat→Option AB):Tr→List Nat × List Nat
 | .slot t k=>let r:=(k (T t)).asks T B;(t::r.1,r.2)
 | .blk b k=>match B b with|some x=>let r:=(k x).asks T B;(r.1,b::r.2)|none=>([],[b])
 | .done _ _ _=>([],[])
 | .fail=>([],[])
inductive Orc where
 | pure (g:List AV→Option AV)
 | lin (ms:List Bool) (g:List AV→List AB→Option (AV × List (Nat × AB)))
def ofV:Value→AV
 | .agg vs=>.agg (vs.toList.map .lit)
 | v=>.lit v
def rd(x:Operand)(k:AV→Tr):Tr:=
 match x with
 | .tmp t=>.slot t k
 | .const v=>k (ofV v)
 | .global g=>k (ZtW g)
 | .func f=>k (.clo f [])
def rdL:List Operand→(List AV→Tr)→Tr
 | [],k=>k []
 | x::l,k=>rd x fun d=>rdL l fun ds=>k (d::ds)
def Zp4:TypeDesc→Bool
 | .struct _|.array _ _=>true
 | _=>false
def QO(P:Program)(t:TypeId):Option (Bool × Nat):=
 match P.underlying t,P.info? t with
 | some d,some i=>some (Zp4 d,i.size)
 | _,_=>none
def Xh(P:Program)(s:TypeId)(f:Nat):Option (Nat × Bool × Nat):=
 match P.underlying s with
 | some (.struct fs)=>match fs[f]? with
   | some x=>match QO P x.type with|some (g,n)=>some (x.offset,g,n)|none=>none
   | none=>none
 | _=>none
def Wn(P:Program)(t:TypeId):Option (TypeId × Bool × Nat × Nat × List Value):=
 match P.underlying t with
 | some (.slice e)=>match QO P e,P.info? e with
   | some (g,n),some i=>match i.zero with|some z=>some (e,g,n,i.bytes,z.cells.toList)|none=>none
   | _,_=>none
 | _=>none
def ZpD(P:Program)(t:TypeId):Option (Nat × Bool × Nat):=
 match P.underlying t with
 | some (.array n e)=>match QO P e with|some (g,k)=>some (n,g,k)|none=>none
 | _=>none
def Vd(P:Program)(t:TypeId):Option (List Value):=
 match P.info? t with
 | some i=>match i.zero with|some z=>some z.cells.toList|none=>none
 | none=>none
def Zp3(P:Program):Nat→TypeId→List (Option Nat)
 | 0,_=>[]
 | n+1,t=>match P.underlying t with
   | some (.slice e)=>[(P.info? e).map (·.size)]
   | some (.struct fs)=>fs.toList.flatMap fun f=>Zp3 P n f.type
   | some (.array m e)=>(List.replicate m ()).flatMap fun _=>Zp3 P n e
   | _=>[none]
def zA:List (Option Nat)→List Value→List AV
 | _,[]=>[]
 | some k::ks,.slice none 0 0::zs=>.nl k::zA ks zs
 | _::ks,z::zs=>.lit z::zA ks zs
 | [],z::zs=>.lit z::zA [] zs
def zAV(P:Program)(t:TypeId)(zs:List Value):List AV:=zA (Zp3 P 8 t) zs
def AV.nz:AV→AV
 | .nl k=>.sl k []
 | d=>d
def WV(P:Program)(t:TypeId):Option (List (Nat × Nat)):=
 match P.underlying t with
 | some (.struct fs)=>fs.toList.mapM fun f=>(P.info? f.type).map fun i=>(f.offset,i.size)
 | _=>none
def Zxz(P:Program)(t:TypeId):Option IntKind:=
 match P.underlying t with
 | some (.int k)=>some k
 | _=>none
def ZqZ(P:Program)(t:TypeId):Bool:=
 match P.underlying t with
 | some .bool=>true
 | _=>false
def Zcm(P:Program)(t:TypeId):Bool:=
 match P.underlying t with
 | some .string=>true
 | _=>false
def AV.cellsOf:AV→Option (List AV)
 | .agg cs=>some cs
 | .any|.tup _|.lit (.agg _)|.lit (.tuple _)=>none
 | d=>some [d]
def AV.allNotU:List AV→Bool
 | []=>true
 | d::l=>d.notU && AV.allNotU l
def ZbD(agg:Bool)(n:Nat)(cs:List AV):Option AV:=
 if agg then (if n≤cs.length then some (.agg (cs.take n)) else none) else cs.head?
def splice{α:Type}(cs:List α)(o:Nat)(ds:List α):List α:=cs.take o++ds++cs.drop (o+ds.length)
def Zce(place:Nat→Option (Nat × Nat))(cs:List AV):List (Nat × AV)→Option (List AV)
 | []=>some cs
 | (i,v)::rest=>match place i,v.cellsOf with
   | some (off,size),some ds=>if ds.length=size∧off+ds.length≤cs.length then Zce place (splice cs off ds) rest else none
   | _,_=>none
def Zmp:BinOp→Value→Value→Option Value
 | op,.int k a,.int k' b=>
   match op with
   | .shl=>if b<0 then none else some (.int k (k.wrap (a*2 ^ min b.toNat k.bits)))
   | .shr=>if b<0 then none else some (.int k (a.fdiv (2 ^ min b.toNat k.bits)))
   | _=>if k=k' then
      match op with
      | .add=>some (.int k (k.wrap (a+b)))
      | .sub=>some (.int k (k.wrap (a-b)))
      | .mul=>some (.int k (k.wrap (a*b)))
      | .quo=>if b=0 then none else some (.int k (k.wrap (a.tdiv b)))
      | .rem=>if b=0 then none else some (.int k (a.tmod b))
      | .and=>some (.int k (k.wrap (BitVec.ofInt k.bits a &&& BitVec.ofInt k.bits b).toNat))
      | .or=>some (.int k (k.wrap (BitVec.ofInt k.bits a ||| BitVec.ofInt k.bits b).toNat))
      | .xor=>some (.int k (k.wrap (BitVec.ofInt k.bits a ^^^ BitVec.ofInt k.bits b).toNat))
      | .eql=>some (.bool (a==b))
      | .neq=>some (.bool (a !=b))
      | .lss=>some (.bool (decide (a<b)))
      | .leq=>some (.bool (decide (a≤b)))
      | .gtr=>some (.bool (decide (a >b)))
      | .geq=>some (.bool (decide (a ≥ b)))
      | _=>none
     else none
 | op,.string a,.string b=>
   match op with
   | .add=>if ((a.size+b.size:Nat):Int)≤9223372036854775807 then some (.string (a++b)) else none
   | .eql=>some (.bool (a.toList==b.toList))
   | .neq=>some (.bool (!(a.toList==b.toList)))
   | _=>none
 | _,_,_=>none
def Zkt:BinOp→Value→Value→Option Value
 | .eql,.bool a,.bool b=>some (.bool (a==b))
 | .neq,.bool a,.bool b=>some (.bool (!(a==b)))
 | _,_,_=>none
def unV:UnOp→Value→Option Value
 | .neg,.int k n=>some (.int k (k.wrap (0-n)))
 | .not,.bool b=>some (.bool (!b))
 | _,_=>none
def ret(nx:Nat):Option AV→Tr
 | some d=>.done d [] nx
 | none=>.fail
def V4(r:AV→(AV→List Nat→Tr)→Tr):List AV→(List AV→List Nat→Tr)→Tr
 | [],k=>k [] []
 | c::cs,k=>r c fun c' f1=>V4 r cs fun cs' f2=>k (c'::cs') (f1++f2)
def res:Nat→AV→(AV→List Nat→Tr)→Tr
 | 0,d,k=>if d.isT then k d [] else .fail
 | n+1,d,k=>match d with
   | .own b m=>.blk b fun x=>match x with
     | .row _ kk es _=>if es.length=m then k (.sl kk es) [b] else .fail
     | _=>.fail
   | .ptr b o=>.blk b fun x=>match x with
     | .box _ cs _=>V4 (res n) cs fun cs' fs=>k (.mem (cs'.drop o)) (b::fs)
     | _=>.fail
   | .rptr ..=>.fail
   | .mp _=>.fail
   | .agg cs=>V4 (res n) cs fun cs' fs=>k (.agg cs') fs
   | .tup cs=>V4 (res n) cs fun cs' fs=>k (.tup cs') fs
   | .clo f cs=>V4 (res n) cs fun cs' fs=>k (.clo f cs') fs
   | .nl kk=>k (.sl kk []) []
   | d=>k d []
def ZaU:List Nat→(List (Nat × Option AB)→Tr)→Tr
 | [],k=>k []
 | b::l,k=>.blk b fun x=>ZaU l fun up=>k ((b,some x.freeze)::up)
def idx:AV→Option Int
 | .lit (.int _ i)=>some i
 | _=>none
def ZG(n bytes:Nat):Bool:=decide (n≤1099511627776) && decide (n*bytes≤140737488355328)
def ZhH:AV→Option (List (List AV))
 | .sl _ es=>some es
 | .nl _=>some []
 | .lit (.slice _ 0 _)=>some []
 | _=>none
def JD:List AV→Nat→(List AV→List Nat→List Nat→Tr)→Tr
 | [],_,k=>k [] [] []
 | .own b n::l,i,k=>JD l (i+1) fun as ids fs=>k (.own i n::as) (b::ids) fs
 | .nl n::l,i,k=>JD l i fun as ids fs=>k (.nl n::as) ids fs
 | d::l,i,k=>res 3 d fun d' f1=>JD l i fun as ids f2=>k (d'::as) ids (f1++f2)
def US:List Bool→List AV→Nat→(List AV→List Nat→List Nat→Tr)→Tr
 | _,[],_,k=>k [] [] []
 | true::ms,.own b n::l,i,k=>US ms l (i+1) fun as ids fs=>k (.own i n::as) (b::ids) fs
 | true::ms,.ptr b o::l,i,k=>US ms l (i+1) fun as ids fs=>k (.ptr i o::as) (b::ids) fs
 | true::ms,.agg cs::l,i,k=>JD cs i fun cs' i1 f1=>US ms l (i+i1.length) fun as ids f2=>k (.agg cs'::as) (i1++ids) (f1++f2)
 | _::ms,d::l,i,k=>res 3 d fun d' f1=>US ms l i fun as ids f2=>k (d'::as) ids (f1++f2)
 | [],d::l,i,k=>res 3 d fun d' f1=>US [] l i fun as ids f2=>k (d'::as) ids (f1++f2)
def AB.isT:AB→Bool
 | .row ..=>true
 | .box _ cs _=>AV.allT cs
 | .mp _=>true
def ZeQ:List Nat→(List AB→Tr)→Tr
 | [],k=>k []
 | b::l,k=>.blk b fun x=>ZeQ l fun bs=>k (x::bs)
def YE:List (Nat × AB)→Nat→Option AB
 | [],_=>none
 | (y,b)::l,x=>if x=y then some b else YE l x
def KU:List Nat→Bool
 | []=>true
 | x::l=>!l.contains x && KU l
def Zfp:AV→Nat→Option AV
 | .ptr b o,n=>some (.ptr b (o+n))
 | .rptr b k i j,n=>some (.rptr b k i (j+n))
 | .mem cs,n=>some (.mem (cs.drop n))
 | _,_=>none
def ldT(agg:Bool)(n:Nat)(d:AV)(nx:Nat):Tr:=
 match d with
 | .mem cs=>ret nx (ZbD agg n cs)
 | .ptr b o=>.blk b fun x=>match x with
   | .box _ cs _=>ret nx (ZbD agg n (cs.drop o))
   | _=>.fail
 | .rptr b k i j=>.blk b fun x=>match x with
   | .row _ k' es _=>if k=k' then (match es[i]? with|some e=>ret nx (ZbD agg n (e.drop j))|none=>.fail) else .fail
   | _=>.fail
 | _=>.fail
def stT(n:Nat)(a d:AV)(nx:Nat):Tr:=
 match d.cellsOf with
 | some ds=>if ds.length=n∧AV.allNotU ds=true then
   match a with
   | .ptr b o=>.blk b fun x=>match x with
     | .box t cs fz=>if fz=false∧o+ds.length≤cs.length then .done .any [(b,some (.box t (splice cs o ds) false))] nx else .fail
     | _=>.fail
   | .rptr b k i j=>V4 (res 2) ds fun ds' fs=>if fs.contains b=false then .blk b fun x=>(match x with
     | .row e k' es fz=>if k=k'∧fz≤i then
       (match es[i]? with
        | some el=>if j+ds'.length≤el.length then ZaU fs fun up=>.done .any ((b,some (.row e k' (es.set i (splice el j ds')) fz))::up) nx else .fail
        | none=>.fail) else .fail
     | _=>.fail) else .fail
   | _=>.fail
   else .fail
 | none=>.fail
def ixT(P:Program)(t:TypeId)(x i:AV)(nx:Nat):Tr:=
 match idx i with
 | some z=>if 0≤z then
   match Wn P t with
   | some (_,_,k,_,_)=>
     match x with
     | .sl k' es=>if k=k' then (match es[z.toNat]? with|some el=>.done (.mem el) [] nx|none=>.fail) else .fail
     | .own b n=>.blk b fun y=>match y with
       | .row _ k' es _=>if k=k'∧es.length=n∧z.toNat<n then .done (.rptr b k z.toNat 0) [] nx else .fail
       | _=>.fail
     | _=>.fail
   | none=>match ZpD P t with
     | some (n,_,k)=>(match x with
       | .mem cs=>if z<(n:Int)∧1<n then .done (.mem (cs.drop (z.toNat*k))) [] nx else .fail
       | .ptr b o=>if z<(n:Int)∧1<n then .done (.ptr b (o+z.toNat*k)) [] nx else .fail
       | _=>.fail)
     | none=>.fail
   else .fail
 | none=>.fail
def ixV(P:Program)(t:TypeId)(x i:AV)(nx:Nat):Tr:=
 match idx i with
 | some z=>if 0≤z then
   match x with
   | .agg cs=>(match ZpD P t with
     | some (n,g,k)=>if z<(n:Int)∧cs.length=n*k∧0<k then ret nx (ZbD g k (cs.drop (z.toNat*k))) else .fail
     | none=>.fail)
   | .lit (.string s)=>if Zcm P t=true then (match s[z.toNat]? with|some b=>.done (.lit (.int .u8 b.toNat)) [] nx|none=>.fail) else .fail
   | _=>.fail
   else .fail
 | none=>.fail
def Zd0(d:Option AV)(z:Nat):Option Int:=
 match d with
 | none=>some z
 | some d=>idx d
def Zxd(k:Nat):AV→Option (List (List AV))
 | .sl k' es=>if k=k' then some es else none
 | .nl _=>some []
 | .lit (.slice none 0 0)=>some []
 | _=>none
def slT(P:Program)(t:TypeId)(x:AV)(lo hi:Option AV)(nx:Nat):Tr:=
 match x with
 | .lit (.string s)=>if Zcm P t=true then
   (match Zd0 lo 0,Zd0 hi s.size with
    | some l,some h=>if 0≤l∧l≤h∧h≤(s.size:Int) then .done (.lit (.string (s.extract l.toNat h.toNat))) [] nx else .fail
    | _,_=>.fail) else .fail
 | x=>(match Wn P t with
   | some (_,_,k,_,_)=>res 1 x fun d fs=>(match Zxd k d with
     | some es=>(match Zd0 lo 0,Zd0 hi es.length with
       | some l,some h=>if 0≤l∧l≤h∧h≤(es.length:Int) then ZaU fs fun up=>.done (.sl k ((es.take h.toNat).drop l.toNat)) up nx else .fail
       | _,_=>.fail)
     | none=>.fail)
   | none=>.fail)
def mkT(P:Program)(t:TypeId)(l c:AV)(nx:Nat):Tr:=
 match idx l,idx c,Wn P t with
 | some n,some m,some (e,_,k,by_,z)=>
   if 0≤n∧n≤m∧ZG m.toNat by_=true∧z.length=k∧0<k∧AV.allNotU (zAV P e z)=true then
    .done (.own nx n.toNat) [(nx,some (.row e k (List.replicate n.toNat ((zAV P e z).map .nz)) 0))] (nx+1)
   else .fail
 | _,_,_=>.fail
def Qq(k:Nat)(es:List (List AV)):Bool:=es.all fun el=>decide (el.length=k) && AV.allT el && AV.allNotU el
def Zcb:AV→Bool
 | .nl _=>true
 | .lit (.slice none 0 0)=>true
 | _=>false
def apT(P:Program)(t:TypeId)(s x:AV)(nx:Nat):Tr:=
 match Wn P t with
 | some (e,_,k,by_,z)=>
   if z.length=k∧0<k∧AV.allNotU (zAV P e z)=true then
    res 3 x fun d fs=>match ZhH d with
     | some news=>
       if Qq k news=true then
        match s with
        | .own b n=>if fs.contains b=false then .blk b fun y=>(match y with
          | .row e' k' es fz=>
            if e=e'∧k=k'∧es.length=n∧ZG (n+news.length) by_=true then
             ZaU fs fun up=>.done (.own nx (n+news.length)) ((nx,some (.row e k (es++news) fz))::(b,none)::up) (nx+1)
            else .fail
          | _=>.fail) else .fail
        | s=>if Zcb s=true then
          (if ZG news.length by_=true then
           ZaU fs fun up=>.done (.own nx news.length) ((nx,some (.row e k news 0))::up) (nx+1)
          else .fail) else .fail
       else .fail
     | none=>.fail
   else .fail
 | none=>.fail
def Zx(s:ByteArray):List (List AV):=s.data.toList.map fun b=>[.lit (.int .u8 b.toNat)]
def Kt:List (List AV)→Option (List UInt8)
 | []=>some []
 | [.lit (.int .u8 z)]::l=>if 0≤z∧z<256 then (Kt l).map (UInt8.ofNat z.toNat::·) else none
 | _=>none
def Zhv(es:List (List AV)):Option ByteArray:=(Kt es).map fun l=>⟨l.toArray⟩
def Zg2(P:Program)(t:TypeId):Option TypeId:=
 match P.underlying t with
 | some (.slice e)=>match P.underlying e,P.info? e with
   | some (.int .u8),some i=>match i.zero with
     | some (.int .u8 0)=>if i.size=1∧i.bytes=1 then some e else none
     | _=>none
   | _,_=>none
 | _=>none
def ptT(P:Program)(t:TypeId):Option TypeId:=
 match P.underlying t with
 | some (.pointer e)=>some e
 | _=>none
def apS(P:Program)(t t':TypeId)(s x:AV)(nx:Nat):Tr:=
 match x with
 | .lit (.string bs)=>(match Zg2 P t with
   | some e=>if Zcm P t'=true then
     match s with
     | .own b n=>.blk b fun y=>(match y with
       | .row e' k es fz=>
         if e=e'∧k=1∧es.length=n∧ZG (n+bs.size) 1=true then
          .done (.own nx (n+bs.size)) [(nx,some (.row e 1 (es++Zx bs) fz)),(b,none)] (nx+1)
         else .fail
       | _=>.fail)
     | s=>if Zcb s=true∧ZG bs.size 1=true then .done (.own nx bs.size) [(nx,some (.row e 1 (Zx bs) 0))] (nx+1) else .fail
     else .fail
   | none=>.fail)
 | _=>.fail
def Zs7(d:AV)(nx:Nat):Tr:=
 match d with
 | .own b n=>.blk b fun y=>match y with
   | .row _ k es _=>if k=1∧es.length=n∧0<n then .done (.rptr b 1 0 0) [] nx else .fail
   | _=>.fail
 | d=>if Zcb d=true then .done (.lit (.pointer none)) [] nx else .fail
def usT(P:Program)(pt:TypeId)(d n:AV)(nx:Nat):Tr:=
 match n with
 | .lit (.int .i64 z)=>(match d with
   | .lit (.pointer none)=>if z=0 then .done (.lit (.string .empty)) [] nx else .fail
   | .rptr b 1 0 0=>.blk b fun y=>(match y with
     | .row e k es _=>if k=1∧0<es.length∧(es.length:Int)=z∧z≤9223372036854775807∧ptT P pt=some e∧(QO P e).map (·.2)=some 1 then
       (match Zhv es with
       | some s=>.done (.lit (.string s)) [(b,none)] nx
       | none=>.fail) else .fail
     | _=>.fail)
   | _=>.fail)
 | _=>.fail
def ZfG:AV→Bool
 | .ptr ..|.rptr ..|.mem _=>true
 | _=>false
def Zjv:AV→AV→Option Bool
 | .lit (.pointer none),.lit (.pointer none)=>some true
 | .lit (.pointer none),d=>if ZfG d=true then some false else none
 | d,.lit (.pointer none)=>if ZfG d=true then some false else none
 | _,_=>none
def ZoX:AV→AV→Option Bool
 | .sl _ (_::_),.lit (.slice none _ _)=>some false
 | .lit (.slice a _ _),.lit (.slice none _ _)=>some a.isNone
 | .nl _,.lit (.slice none _ _)=>some true
 | _,_=>none
def Zci(P:Program)(op:BinOp)(xt:TypeId)(d d':AV):Option AV:=
 if (ptT P xt).isSome=true then
  match op with
  | .eql=>(Zjv d d').map fun b=>.lit (.bool b)
  | .neq=>(Zjv d d').map fun b=>.lit (.bool !b)
  | _=>none
 else if (Wn P xt).isSome=true then
  match op with
  | .eql=>(ZoX d d').map fun b=>.lit (.bool b)
  | .neq=>(ZoX d d').map fun b=>.lit (.bool !b)
  | _=>none
 else none
def ifT(P:Program)(t:TypeId):Bool:=match P.underlying t with
 | some (.interface _)=>true
 | _=>false
def isC:Operand→Bool
 | .const _=>true
 | _=>false
def Zjr(P:Program)(op:BinOp)(xt:TypeId)(x y:Operand)(a b:Value):Option Bool:=
 match op,a,b with
 | .eql,.nilIface,.nilIface=>if (isC x || isC y)=true∧ifT P xt=true then some true else none
 | .neq,.nilIface,.nilIface=>if (isC x || isC y)=true∧ifT P xt=true then some false else none
 | _,_,_=>none
def Zj0(P:Program)(op:BinOp)(xt:TypeId)(x y:Operand)(d d':AV):Option Bool:=
 match op,d,d' with
 | .eql,.err,.lit .nilIface=>if (isC x || isC y)=true∧ifT P xt=true then some false else none
 | .neq,.err,.lit .nilIface=>if (isC x || isC y)=true∧ifT P xt=true then some true else none
 | _,_,_=>none
def ZcY(mx:Bool):List AV→Option AV
 | [.lit (.int k a),.lit (.int _ b)]=>some (.lit (.int k (if mx then (if b >a then b else a) else (if b<a then b else a))))
 | _=>none
def Zkg(g:List AV→Option AV)(args:List AV)(nx:Nat):Tr:=
 V4 (res 3) args fun as fs=>ZaU fs fun up=>match g as with
  | some r=>.done r up nx
  | none=>.fail
mutual
def AV.ren(ρ:Nat→Option Nat):AV→AV
 | .own b n=>match ρ b with|some i=>.own i n|none=>.any
 | .ptr b o=>match ρ b with|some i=>.ptr i o|none=>.any
 | .rptr b k i j=>match ρ b with|some i'=>.rptr i' k i j|none=>.any
 | .mp b=>match ρ b with|some i=>.mp i|none=>.any
 | .agg cs=>.agg (AV.renL ρ cs)
 | .tup cs=>.tup (AV.renL ρ cs)
 | .clo f cs=>.clo f (AV.renL ρ cs)
 | d=>d
def AV.renL(ρ:Nat→Option Nat):List AV→List AV
 | []=>[]
 | d::l=>d.ren ρ::AV.renL ρ l
end
mutual
def AV.refs:AV→List Nat
 | .own b _=>[b]
 | .ptr b _=>[b]
 | .rptr b _ _ _=>[b]
 | .mp b=>[b]
 | .agg cs|.tup cs|.clo _ cs=>AV.refsL cs
 | _=>[]
def AV.refsL:List AV→List Nat
 | []=>[]
 | d::l=>d.refs++AV.refsL l
end
def AB.ren(ρ:Nat→Option Nat):AB→AB
 | .row e k es fz=>.row e k es fz
 | .box t cs fz=>.box t (AV.renL ρ cs) fz
 | .mp es=>.mp es
def Qo:List Nat→Nat→Option Nat
 | [],_=>none
 | x::l,b=>if b=x then some 0 else (Qo l b).map (·+1)
def AB.refsL:List AB→List Nat
 | []=>[]
 | .box _ cs _::l=>AV.refsL cs++AB.refsL l
 | .row ..::l=>AB.refsL l
 | .mp _::l=>AB.refsL l
def Zgh:List Nat→List Nat→List Nat
 | ids,[]=>ids
 | ids,b::l=>if ids.contains b=true then Zgh ids l else Zgh (ids++[b]) l
def Zby:Nat→List Nat→(List Nat→Tr)→Tr
 | 0,ids,k=>k ids
 | n+1,ids,k=>ZeQ ids fun bs=>Zby n (Zgh ids (AB.refsL bs)) k
def XR(m:Nat):List (Nat × AB)→Nat
 | []=>0
 | (j,_)::l=>Nat.max (j+1-m) (XR m l)
def KT(ids:List Nat)(nx cnt j:Nat):Option Nat:=
 match ids[j]? with
 | some b=>some b
 | none=>if j-ids.length<cnt then some (nx+(j-ids.length)) else none
def Kp(outs:List (Nat × AB)):List Nat→Nat→List (Nat × Option AB)
 | [],_=>[]
 | b::l,i=>(b,YE outs i)::Kp outs l (i+1)
def upNew(m nx:Nat)(outs:List (Nat × AB)):Nat→List (Nat × Option AB)
 | 0=>[]
 | c+1=>(nx+c,YE outs (m+c))::upNew m nx outs c
def VZ(ρ:Nat→Option Nat):List (Nat × AB)→List (Nat × AB)
 | []=>[]
 | (i,b)::l=>(i,b.ren ρ)::VZ ρ l
def Zsh(ms:List Bool)(g:List AV→List AB→Option (AV × List (Nat × AB)))(args:List AV)(nx:Nat):Tr:=
 US ms args 0 fun as ids0 fs=>Zby 2 ids0 fun ids=>
  if KU ids=true∧(ids.all fun b=>!fs.contains b)=true then
   ZeQ ids fun bs=>
    ZaU fs fun up=>match g as (bs.map (AB.ren (Qo ids))) with
     | some (r,outs)=>
       .done (r.ren (KT ids nx (XR ids.length outs))) (Kp (VZ (KT ids nx (XR ids.length outs)) outs) ids 0++(upNew ids.length nx (VZ (KT ids nx (XR ids.length outs)) outs) (XR ids.length outs)++up)) (nx+XR ids.length outs)
     | none=>.fail
  else .fail
def Zki(P:Program)(src dst:TypeId)(x:AV)(nx:Nat):Tr:=
 match P.underlying src,Zxz P dst,x with
 | some _,some k,.lit (.int _ n)=>.done (.lit (.int k (k.wrap n))) [] nx
 | _,_,_=>.fail
def cvB(P:Program)(dst:TypeId)(s:ByteArray)(nx:Nat):Tr:=
 match Zg2 P dst with
 | some _=>.done (.sl 1 (Zx s)) [] nx
 | none=>.fail
def cvS(P:Program)(src dst:TypeId)(es:List (List AV))(nx:Nat):Tr:=
 match Zg2 P src,Zhv es with
 | some _,some s=>if 0<es.length∧Zcm P dst=true then .done (.lit (.string s)) [] nx else .fail
 | _,_=>.fail
def ZfT(P:Program)(t:TypeId)(ix:List Nat)(ds:List AV)(nx:Nat):Tr:=
 match Vd P t with
 | some zs=>(match WV P t with
   | some places=>(match Zce (fun i=>places[i]?) (zAV P t zs) (ix.zip ds) with
     | some cs=>.done (.agg cs) [] nx
     | none=>.fail)
   | none=>(match ZpD P t with
     | some (_,_,k)=>(match Zce (fun i=>some (i*k,k)) (zAV P t zs) (ix.zip ds) with
       | some cs=>.done (.agg cs) [] nx
       | none=>.fail)
     | none=>.fail))
 | none=>.fail
def ZbC:List AV→Option (List (List AV))
 | []=>some []
 | d::l=>match d.cellsOf,ZbC l with
   | some c,some cs=>some (c::cs)
   | _,_=>none
def flatNil : List Nat := [24, 24]
def ownLit : List Nat := [40]
def Zaa(P:Program)(t:TypeId)(len:Nat)(ix:List Nat)(ds:List AV)(nx:Nat):Tr:=
 match Wn P t with
 | some (e,_,k,_,z)=>
   if z.length=k∧0<k∧len*k≤16777216∧ix=List.range' 0 len∧ds.length=len then
    if len=0 then (if flatNil.contains t=true then .done (.sl k []) [] nx else .done (.own nx 0) [(nx,some (.row e k [] 0))] (nx+1)) else
     V4 (res 3) ds fun ds' fs=>match ZbC ds' with
      | some es=>if ownLit.contains t=true then (if Qq k es=true then ZaU fs fun up=>.done (.own nx len) ((nx,some (.row e k es 0))::up) (nx+1) else .fail)
        else if es.all (fun el=>decide (el.length=k))=true then ZaU fs fun up=>.done (.sl k es) up nx else .fail
      | none=>.fail
   else .fail
 | none=>.fail
def ZkP(P:Program)(t:TypeId):Option TypeId:=
 match P.underlying t with
 | some (.map k e)=>if Zcm P k=true then some e else none
 | _=>none
def Wr(s:ByteArray):List (ByteArray × Value)→Option Value
 | []=>none
 | (k,v)::l=>if (s==k)=true then some v else Wr s l
def Zbw(s:ByteArray)(v:Value):List (ByteArray × Value)→List (ByteArray × Value)
 | []=>[(s,v)]
 | (k,u)::l=>if (s==k)=true then (s,v)::l else (k,u)::Zbw s v l
def ZjF(P:Program)(t:TypeId):Option Value:=
 match P.info? t with
 | some i=>i.zero
 | none=>none
def luT(P:Program)(t:TypeId)(x i:AV)(ok:Bool)(nx:Nat):Tr:=
 match ZkP P t,i with
 | some e,.lit (.string s)=>(match x with
   | .mp b=>.blk b fun y=>(match y,ZjF P e with
     | .mp es,some z=>(match Wr s es with
       | some v=>.done (if ok then .tup [.lit v,.lit (.bool true)] else .lit v) [] nx
       | none=>.done (if ok then .tup [.lit z,.lit (.bool false)] else .lit z) [] nx)
     | _,_=>.fail)
   | _=>.fail)
 | _,_=>.fail
def muT(P:Program)(t:TypeId)(x i v:AV)(nx:Nat):Tr:=
 match ZkP P t,i,v with
 | some _,.lit (.string s),.lit u=>(match x with
   | .mp b=>.blk b fun y=>(match y with
     | .mp es=>.done .any [(b,some (.mp (Zbw s u es)))] nx
     | _=>.fail)
   | _=>.fail)
 | _,_,_=>.fail
def Zd9(P:Program)(t:TypeId)(d:AV):Option Nat:=
 match d with
 | .lit (.string s)=>if Zcm P t=true then some s.size else none
 | .sl _ es=>if (Wn P t).isSome=true then some es.length else none
 | .own _ n=>if (Wn P t).isSome=true then some n else none
 | .nl _=>if (Wn P t).isSome=true then some 0 else none
 | .lit (.slice none 0 0)=>if (Wn P t).isSome=true then some 0 else none
 | _=>none
def ZiD(P:Program)(t:TypeId)(x:Operand):Option (TypeId × Nat):=
 match x with
 | .const (.slice none 0 0)=>(match Wn P t with
   | some (e,_,k,_,_)=>some (e,k)
   | none=>none)
 | _=>none
def frzClo : List Nat := []
def ownBox : List Nat := [28, 28, 78, 78]
def Zkc(P:Program)(e:TypeId):Bool:=
 if ownBox.contains e=true then true else match QO P e with
 | some (_,n)=>Nat.ble n 1
 | none=>true
def QN(n:Nat)(d:AV)(k:AV→List Nat→Tr):Tr:=
 match d with
 | .nl kk=>k (.nl kk) []
 | d=>res n d k
def aop(P:Program)(O:FuncId→Option Orc)(o:Oper)(nx:Nat):Tr:=
 match o.op with
 | .move x=>rd x fun d=>.done d [] nx
 | .assign x=>(match ZiD P o.type x with
   | some (e,k)=>if flatNil.contains o.type=true then .done (.sl k []) [] nx else .done (.own nx 0) [(nx,some (.row e k [] 0))] (nx+1)
   | none=>rd x fun d=>.done d [] nx)
 | .pick c a b=>rd c fun d=>match d with
   | .lit (.bool t)=>rd (if t then a else b) fun d=>.done d [] nx
   | _=>.fail
 | .alloc e=>(match Vd P e with
   | some zs=>if AV.allNotU (zAV P e zs)=true then .done (.ptr nx 0) [(nx,some (.box e (zAV P e zs) false))] (nx+1) else .fail
   | none=>.fail)
 | .box e x=>rd x fun d=>if Zkc P e=true then match d.cellsOf with
   | some cs=>if AV.allNotU cs=true then .done (.ptr nx 0) [(nx,some (.box e cs false))] (nx+1) else .fail
   | none=>.fail
   else match d.cellsOf with
    | some cs=>V4 (QN 3) cs fun cs fs=>if AV.allNotU cs=true then ZaU fs fun up=>.done (.ptr nx 0) ((nx,some (.box e cs false))::up) (nx+1) else .fail
    | none=>.fail
 | .build t parts=>rdL (parts.toList.map (·.2)) fun ds=>ZfT P t (parts.toList.map (·.1)) ds nx
 | .buildSlice t len parts=>rdL (parts.toList.map (·.2)) fun ds=>Zaa P t len (parts.toList.map (·.1)) ds nx
 | .load t a=>rd a fun d=>match QO P t with
   | some (g,n)=>ldT g n d nx
   | none=>.fail
 | .store t a x=>rd a fun d=>rd x fun v=>match QO P t with
   | some (_,n)=>stT n d v nx
   | none=>.fail
 | .nilCheck x=>rd x fun d=>match d with
   | .ptr ..|.rptr ..|.mem _=>.done d [] nx
   | _=>.fail
 | .binOp op xt x y _=>rd x fun d=>rd y fun d'=>match d,d' with
   | .lit a,.lit b=>(match Zmp op a b with
     | some v=>.done (.lit v) [] nx
     | none=>match Zjr P op xt x y a b with
       | some c=>.done (.lit (.bool c)) [] nx
       | none=>if ZqZ P xt=true then ret nx ((Zkt op a b).map .lit) else ret nx (Zci P op xt (.lit a) (.lit b)))
   | d,d'=>match Zj0 P op xt x y d d' with
     | some c=>.done (.lit (.bool c)) [] nx
     | none=>ret nx (Zci P op xt d d')
 | .unOp op _ x=>rd x fun d=>match d with
   | .lit a=>ret nx ((unV op a).map .lit)
   | _=>.fail
 | .convert src dst x=>rd x fun d=>(match d with
   | .lit (.string s)=>if Zcm P src=true then cvB P dst s nx else .fail
   | .sl 1 es=>cvS P src dst es nx
   | d=>Zki P src dst d nx)
 | .makeFunc fn first captured=>(match fn with
   | .func f=>if first.size=0 then rdL captured.toList fun ds=>
     if frzClo.contains f=true then V4 (res 3) ds fun cs fs=>ZaU fs fun up=>.done (.clo f cs) up nx else .done (.clo f ds) [] nx
     else .fail
   | _=>.fail)
 | .makeSlice t l c=>rd l fun l=>rd c fun c=>mkT P t l c nx
 | .makeMap t r=>(match ZkP P t,r with
   | some _,none=>.done (.mp nx) [(nx,some (.mp []))] (nx+1)
   | _,_=>.fail)
 | .lookup t x i ok=>rd x fun d=>rd i fun z=>luT P t d z ok nx
 | .mapUpdate t x i v=>rd x fun d=>rd i fun z=>rd v fun u=>muT P t d z u nx
 | .slice t x lo hi mx=>rd x fun d=>(match mx with
   | some _=>.fail
   | none=>(match lo,hi with
     | none,none=>slT P t d none none nx
     | some l,none=>rd l fun l=>slT P t d (some l) none nx
     | none,some h=>rd h fun h=>slT P t d none (some h) nx
     | some l,some h=>rd l fun l=>rd h fun h=>slT P t d (some l) (some h) nx))
 | .fieldAddr s x f=>rd x fun d=>(match Xh P s f with
   | some (off,_,n)=>if n=0 then .fail else ret nx (Zfp d off)
   | none=>.fail)
 | .field s x f=>rd x fun d=>(match Xh P s f,d with
   | some (off,g,n),.agg cs=>ret nx (ZbD g n (cs.drop off))
   | _,_=>.fail)
 | .indexAddr t x i=>rd x fun d=>rd i fun z=>ixT P t d z nx
 | .index t x i=>rd x fun d=>rd i fun z=>ixV P t d z nx
 | .extract t i=>rd t fun d=>(match d with
   | .tup cs=>ret nx cs[i]?
   | _=>.fail)
 | .call c=>(match c.callee with
   | .builtin .len=>(match c.argTypes.toList with
     | [t]=>rdL c.args.toList fun ds=>(match ds with
       | [d]=>ret nx ((Zd9 P t d).map fun (n:Nat)=>.lit (.int .i64 (n:Int)))
       | _=>.fail)
     | _=>.fail)
   | .builtin .append=>(match c.argTypes.toList with
     | [t,t']=>rdL c.args.toList fun ds=>(match ds with|[s,x]=>if t=t' then apT P t s x nx else apS P t t' s x nx|_=>.fail)
     | _=>.fail)
   | .builtin .unsafeSliceData=>rdL c.args.toList fun ds=>(match ds with|[d]=>Zs7 d nx|_=>.fail)
   | .builtin .unsafeString=>(match c.argTypes.toList with
     | [t,_]=>rdL c.args.toList fun ds=>(match ds with|[d,n]=>usT P t d n nx|_=>.fail)
     | _=>.fail)
   | .builtin .max=>rdL c.args.toList fun ds=>ret nx (ZcY true ds)
   | .builtin .min=>rdL c.args.toList fun ds=>ret nx (ZcY false ds)
   | .value f=>rd f fun d=>(match d with
     | .clo fid caps=>(match O fid with
       | some (.pure g)=>rdL c.args.toList fun ds=>Zkg g (ds++caps) nx
       | some (.lin ms g)=>rdL c.args.toList fun ds=>Zsh ms g (ds++caps) nx
       | none=>.fail)
     | _=>.fail)
   | _=>.fail)
 | _=>.fail
section
variable {P : Program} {w : World}
theorem Zow{op:BinOp}{xt:TypeId}{x y:Operand}{a b v:Value}(h:Zmp op a b=some v):(do eqGuard op xt x y a b;binOp op xt a b:Sem Value).run P w=.ok v w:=by
 cases a <;>cases b <;>(try (simp only [Zmp] at h;cases h;done))
 ·rename_i k a k' b
  have hg:eqGuard op xt x y (.int k a) (.int k' b)=pure ():=by cases op <;>rfl
  rw [hg]
  cases op <;>simp only [Zmp] at h <;>
   first
   | (split at h
      ·cases h
      ·rename_i h0
       injection h with h
       subst h
       simp [binOp,Op.shift,h0,Sem.run_bind,Sem.run_pure])
   | (split at h
      ·rename_i hk
       subst hk
       first
       | (injection h with h
          subst h
          simp [binOp,Op.intArith,Op.intBits,Op.intCmp,Sem.run_bind,Sem.run_pure])
       | (split at h
          ·cases h
          ·rename_i h0
           injection h with h
           subst h
           simp [binOp,Op.intDiv,h0,Sem.run_bind,Sem.run_pure])
       | cases h
      ·cases h)
   | cases h
 ·rename_i a b
  have hg:eqGuard op xt x y (.string a) (.string b)=pure ():=by cases op <;>rfl
  rw [hg]
  cases op <;>simp only [Zmp] at h <;>
   first
   | (split at h
      ·rename_i h0
       injection h with h
       subst h
       have h1:¬((a.size+b.size:Nat):Int) >IntKind.i64.max:=by
        have:IntKind.i64.max=9223372036854775807:=by decide
        omega
       simp only [binOp,Op.stringOp]
       rw [if_neg h1]
       rfl
      ·cases h)
   | (injection h with h
      subst h
      simp [binOp,Op.stringOp,Sem.run_bind,Sem.run_pure])
   | cases h
theorem Zmb{op:BinOp}{xt:TypeId}{x y:Operand}{a b v:Value}(h:Zkt op a b=some v)(ht:ZqZ P xt=true):(do eqGuard op xt x y a b;binOp op xt a b:Sem Value).run P w=.ok v w:=by
 have hu:P.underlying xt=some .bool:=by
  unfold ZqZ at ht
  split at ht
  ·assumption
  ·cases ht
 have hx:∀a b:Bool,(Op.equal xt (.bool a) (.bool b)).run P w=.ok (a==b) w:=fun a b=>by
  have e:Op.maxDepth=9999+1:=rfl
  rw [Op.equal,e,Op.equalIn]
  simp only [underlying,program,Sem.run_bind,Sem.run,Result.andThen_ok,hu,Sem.run_pure]
 cases a <;>cases b <;>cases op <;>simp only [Zkt] at h <;>(try (cases h;done))
 ·injection h with h
  subst h
  simp [eqGuard,binOp,Sem.run_bind,Sem.run_pure,hx]
 ·injection h with h
  subst h
  simp [eqGuard,binOp,Sem.run_bind,Sem.run_pure,hx]
theorem ZsS{op:UnOp}{a v:Value}(h:unV op a=some v):(Op.unary op a).run P w=.ok v w:=by
 cases op <;>cases a <;>simp only [unV] at h <;>(try (cases h;done)) <;>(injection h with h;subst h;simp [Op.unary,Op.intArith,Sem.run_pure])
theorem VI{t:TypeId}{g:Bool}{n:Nat}(h:QO P t=some (g,n)):(∃d,P.underlying t=some d∧Zp4 d=g)∧∃i,P.info? t=some i∧i.size=n:=by
 unfold QO at h
 split at h
 ·rename_i d i h1 h2
  injection h with h
  injection h with h3 h4
  exact ⟨⟨d,h1,h3⟩,i,h2,h4⟩
 ·cases h
theorem ZbY{t:TypeId}{g:Bool}{n:Nat}(h:QO P t=some (g,n)):(isAgg t).run P w=.ok g w:=by
 obtain ⟨⟨d,h1,h2⟩,_⟩:=VI h
 subst h2
 simp only [isAgg,underlying,program,Sem.run_bind,Sem.run,Result.andThen_ok,h1,Sem.run_pure]
 cases d <;>rfl
theorem QJ{t:TypeId}{g:Bool}{n:Nat}(h:QO P t=some (g,n)):(sizeOf t).run P w=.ok n w:=by
 obtain ⟨_,i,h1,h2⟩:=VI h
 subst h2
 simp [sizeOf,typeInfo,program,Sem.run_bind,Sem.run,h1,Sem.run_pure]
end
section
variable {P : Program} {E : Nat → Nat → Prop} {w : World} {N : Nat} {T : Nat → AV} {B : Nat → Option AB} {L : Nat → Option Value} {a : Act}
theorem ZjW(ok:Nat→Nat→Prop)(v:Value):RepT w ok (ofV v) v:=by
 cases v with
 | agg vs=>
   refine .agg (by simp) fun i d h=>?_
   rw [List.getElem?_map] at h
   cases hv:vs.toList[i]? with
   | none=>rw [hv] at h;cases h
   | some u=>
     rw [hv] at h
     cases h
     have:vs.getD i undef=u:=by rw [Array.getD_eq_getD_getElem?,←Array.getElem?_toList,hv];rfl
     rw [this]
     exact .lit _
 | _=>exact .lit _
theorem ZJ(h:SRel E N T B L a w){x:Operand}{k:AV→Tr}{r:AV × List (Nat × Option AB) × Nat}(hr:(rd x k).run T B=some r):∃d,(k d).run T B=some r∧Rep w (okS E B L) L d (a.eval x):=by
 cases x with
 | tmp t=>exact ⟨_,hr,h.slots t⟩
 | const v=>exact ⟨_,hr,.t (ZjW _ v)⟩
 | global g=>exact ⟨_,hr,.t (h.bs.glob.val g)⟩
 | func f=>exact ⟨_,hr,.t (.clo rfl fun i d h=>by simp at h)⟩
theorem Qd(h:SRel E N T B L a w):∀{xs:List Operand} {k:List AV→Tr} {r:AV × List (Nat × Option AB) × Nat},(rdL xs k).run T B=some r→
  ∃ds,(k ds).run T B=some r∧ds.length=xs.length∧∀(i:Nat) (x:Operand) (d:AV),xs[i]?=some x→ds[i]?=some d→Rep w (okS E B L) L d (a.eval x)
 | [],k,r,hr=>⟨[],hr,rfl,fun i x d h1=>by simp at h1⟩
 | x::l,k,r,hr=>by
   obtain ⟨d,h1,h2⟩:=ZJ h hr
   obtain ⟨ds,h3,h4,h5⟩:=Qd h h1
   refine ⟨d::ds,h3,by simp [h4],fun i x' d' h6 h7=>?_⟩
   cases i with
   | zero=>simp at h6 h7;subst h6 h7;exact h2
   | succ i=>exact h5 i x' d' (by simpa using h6) (by simpa using h7)
theorem QT{nx:Nat}{o:Option AV}{d:AV}{up:List (Nat × Option AB)}{nx':Nat}(h:(ret nx o).run T B=some (d,up,nx')):o=some d∧up=[]∧nx'=nx:=by
 cases o with
 | none=>simp [ret,Tr.run] at h
 | some x=>simp [ret,Tr.run] at h;obtain ⟨rfl,rfl,rfl⟩:=h;exact ⟨rfl,rfl,rfl⟩
theorem Zro{R:AV→Value→Prop}(hagg:∀cs vs,vs.size=cs.length→(∀(i:Nat) (d:AV),cs[i]?=some d→R d (vs.getD i undef))→R (.agg cs) (.agg vs)){t:TypeId}{g:Bool}{n b o:Nat}(ht:QO P t=some (g,n)){cs:List AV}(hc:∀(j:Nat) (d:AV),cs[j]?=some d→∃u,w.cell? ⟨b,o+j,none⟩=some u∧R d u){d:AV}(hd:ZbD g n cs=some d):∃v,(Instr.loadAt t (.pointer (some ⟨b,o,none⟩))).run P w=.ok v w∧R d v:=by
 have e:(Instr.loadAt t (.pointer (some ⟨b,o,none⟩))).run P w=(loadVar t ⟨b,o,none⟩).run P w:=by
  simp [Instr.loadAt,Instr.sureAddr,Sem.run_bind,Sem.run_pure]
 rw [e]
 simp only [loadVar,Sem.run_bind,ZbY ht,Result.andThen_ok]
 cases g with
 | true=>
   simp only [ZbD,if_true] at hd
   split at hd
   ·rename_i hn
    cases hd
    have hv:∀j,j<n→∃u,w.cell? ⟨b,o+j,none⟩=some u:=fun j hj=>by
     obtain ⟨u,h1,_⟩:=hc j _ (List.getElem?_eq_getElem (by omega))
     exact ⟨u,h1⟩
    have h1:=run_loadCells (P:=P) w ⟨b,o,none⟩ n (fun j=>(w.cell? ⟨b,o+j,none⟩).getD undef) (fun j hj=>by
     obtain ⟨u,hu⟩:=hv j hj
     rw [YN,hu];rfl)
    simp only [if_true,Sem.run_bind,QJ ht,Result.andThen_ok,h1,Sem.run_pure]
    refine ⟨_,rfl,hagg _ _ (by simp;omega) fun i d hi=>?_⟩
    rw [List.getElem?_take] at hi
    split at hi
    ·rename_i hin
     obtain ⟨u,h2,h3⟩:=hc i d hi
     have:((List.map (fun j=>(w.cell? ⟨b,o+j,none⟩).getD undef) (List.range n)).toArray).getD i undef=u:=by
      rw [Array.getD_eq_getD_getElem?]
      simp [hin,h2]
     rw [this]
     exact h3
    ·cases hi
   ·cases hd
 | false=>
   simp only [ZbD,Bool.false_eq_true,if_false] at hd
   have h0:cs[0]?=some d:=by rw [←List.head?_eq_getElem?];exact hd
   obtain ⟨u,h1,h2⟩:=hc 0 d h0
   refine ⟨u,?_,h2⟩
   simp only [Bool.false_eq_true,if_false,load,Sem.run]
   rw [show (⟨b,o,none⟩:Addr)=⟨b,o+0,none⟩ from rfl,h1]
theorem BRel.row_cell{ok:Nat→Nat→Prop}{id:Nat}{e:TypeId}{k fz:Nat}{es:List (List AV)}(h:BRel w ok L id (.row e k es fz)){g n c:Nat}(hL:L id=some (.slice (some ⟨g,0,none⟩) n c)){i:Nat}{el:List AV}(hi:es[i]?=some el){j:Nat}{d:AV}(hj:el[j]?=some d):
  ∃u,w.cell? ⟨g,i*k+j,none⟩=some u∧RepT w ok d u:=by
 obtain ⟨v,xs,h1,h2,h3,h4,h5⟩:=h
 rw [hL] at h1;cases h1
 obtain ⟨u,h6,h7⟩:=h5 i j el d hi hj
 refine ⟨u,?_,h7⟩
 have:=h2.own.cells (g:=g) rfl _ u h6
 rw [YN,Nat.zero_add] at this
 exact this
theorem BRel.box_cell{ok:Nat→Nat→Prop}{id:Nat}{t:TypeId}{cs:List AV}{fz:Bool}(h:BRel w ok L id (.box t cs fz)){g:Nat}(hL:L id=some (.pointer (some ⟨g,0,none⟩))){i:Nat}{d:AV}(hi:cs[i]?=some d):
  ∃u,w.cell? ⟨g,i,none⟩=some u∧Rep w ok L d u:=by
 obtain ⟨g',cells,h1,h2,h3,h4,h5⟩:=h
 rw [hL] at h1;cases h1
 have hlt:i<cells.size:=by
  have:=(List.getElem?_eq_some_iff.1 hi).1
  omega
 have h6:=h4 i d hi
 refine ⟨cells[i],?_,?_⟩
 ·simp [World.cell?,h2,hlt]
 ·rw [Array.getD_eq_getD_getElem?,Array.getElem?_eq_getElem hlt] at h6
  exact h6
theorem RepT.mem_inv{ok:Nat→Nat→Prop}{cs:List AV}{v:Value}(h:RepT w ok (.mem cs) v):∃b o,v=.pointer (some ⟨b,o,none⟩)∧∀(j:Nat) (d:AV),cs[j]?=some d→ok b (o+j)∧∃u,w.cell? ⟨b,o+j,none⟩=some u∧RepT w ok d u:=by
 cases h with
 | mem hm hh=>
   refine ⟨_,_,rfl,fun j d h1=>?_⟩
   obtain ⟨h2,h3⟩:=hm j d h1
   obtain ⟨u,hu⟩:=Option.isSome_iff_exists.1 h3
   have h4:=hh j d h1
   rw [hu] at h4
   exact ⟨h2,u,hu,h4⟩
theorem Ky{ok:Nat→Nat→Prop}{cs:List AV}{v:Value}(h:Rep w ok L (.mem cs) v):RepT w ok (.mem cs) v:=h.toT rfl
theorem Zg7(h:BsRel E B L w){t:TypeId}{g:Bool}{n:Nat}(ht:QO P t=some (g,n)){d:AV}{v:Value}(hv:Rep w (okS E B L) L d v){nx nx':Nat}{r:AV}{up:List (Nat × Option AB)}(hr:(ldT g n d nx).run T B=some (r,up,nx')):
  up=[]∧nx'=nx∧∃u,(Instr.loadAt t v).run P w=.ok u w∧Rep w (okS E B L) L r u:=by
 have hagg:∀cs vs,vs.size=cs.length→(∀(i:Nat) (d:AV),cs[i]?=some d→Rep w (okS E B L) L d (vs.getD i undef))→Rep w (okS E B L) L (.agg cs) (.agg vs):=fun cs vs h1 h2=>.agg h1 h2
 unfold ldT at hr
 split at hr
 ·rename_i cs
  obtain ⟨h1,h2,h3⟩:=QT hr
  obtain ⟨b,o,rfl,h4⟩:=(Ky hv).mem_inv
  obtain ⟨u,h5,h6⟩:=Zro hagg ht (cs:=cs) (b:=b) (o:=o) (fun j d hj=>by obtain ⟨_,u,h7,h8⟩:=h4 j d hj;exact ⟨u,h7,.t h8⟩) h1
  exact ⟨h2,h3,u,h5,h6⟩
 ·rename_i b o
  simp only [Tr.run] at hr
  split at hr
  ·rename_i x hx
   split at hr
   ·rename_i t' cs fz
    obtain ⟨h1,h2,h3⟩:=QT hr
    cases hv with
    | t h=>cases h
    | ptr hL=>
      rename_i gg
      obtain ⟨u,h5,h6⟩:=Zro hagg ht (cs:=cs.drop o) (b:=gg) (o:=o) (fun j d hj=>(h.blk b _ hx).box_cell hL (by rw [List.getElem?_drop] at hj;exact hj)) h1
      exact ⟨h2,h3,u,h5,h6⟩
   ·simp [Tr.run] at hr
  ·cases hr
 ·rename_i b k i j
  simp only [Tr.run] at hr
  split at hr
  ·rename_i x hx
   split at hr
   ·rename_i e k' es fz
    split at hr
    ·rename_i hk
     subst hk
     split at hr
     ·rename_i el hel
      obtain ⟨h1,h2,h3⟩:=QT hr
      cases hv with
      | t h=>cases h
      | rptr hL=>
        rename_i gg n' c'
        obtain ⟨u,h5,h6⟩:=Zro hagg ht (cs:=el.drop j) (b:=gg) (o:=i*k+j) (fun j' d hj=>by
         rw [List.getElem?_drop] at hj
         obtain ⟨u,h7,h8⟩:=(h.blk b _ hx).row_cell hL hel hj
         exact ⟨u,by rw [Nat.add_assoc];exact h7,.t h8⟩) h1
        exact ⟨h2,h3,u,h5,h6⟩
     ·simp [Tr.run] at hr
    ·simp [Tr.run] at hr
   ·simp [Tr.run] at hr
  ·cases hr
 ·simp [Tr.run] at hr
end
end Go.Proofs.YtdaonnnlgfhlaaaGreatDoor
