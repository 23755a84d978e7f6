import Derived.Test.YtdaonnnlgfhlaaaGreatDoorProg
import Derived.Test.YtdaonnnlgfhlaaaGreatDoorGH0
import Derived.WalkKit
import Derived.WalkSpells
import Derived.WalkLawsBesides
import Derived.Outline
import Derived.Lib.Hide
import Derived.BigQuiet
import Derived.Deep.QuietTactic
import Derived.Deep.DeepMust
import Derived.Deep.DeepFit
import Derived.Deep.DeepCutAuto
import Derived.Deep.LoopGhost
import Derived.Deep.OwnRows
import Derived.Deep.RegionHeld3
import Derived.Deep.AppendLies
import Derived.Deep.Draws
import Derived.StillTailTactics
import Derived.IntWalk
import Derived.Maps.AppendAt
import Derived.RegionTactic
import Derived.OwnWalk
import Derived.Shelf.Small.Bits
set_option linter.all false
namespace Go.Proofs.YtdaonnnlgfhlaaaGreatDoor
open Go.RowKit
structure LimR (w:World) (ad:Option Addr) (n c:Nat) (l:List Nat):Prop where
 len:l.length=n
 cap:n≤c
 lim:Lim l
 cells:0<n→∃b o,ad=some ⟨b,o,none⟩∧b<w.heap.size∧∀i,i<n→w.cell? ⟨b,o+i,none⟩=some (.int .u32 (l.getD i 0:Nat))
theorem LimR.nil(w:World)(ad:Option Addr)(c:Nat):LimR w ad 0 c []:=⟨rfl,by omega,XT,fun h=>by omega⟩
theorem LimR.below{w w':World}{ad:Option Addr}{n c:Nat}{l:List Nat}{B:Nat}(h:LimR w ad n c l)(hb:Below B w w')(hB:w.heap.size≤B):LimR w' ad n c l:=
 ⟨h.len,h.cap,h.lim,fun hn=>by
  obtain ⟨b,o,e,hlt,hc⟩:=h.cells hn
  exact ⟨b,o,e,Nat.lt_of_lt_of_le hlt hb.size,fun i hi=>(hb.cell (p:=⟨b,o+i,none⟩) (Nat.lt_of_lt_of_le hlt hB)).trans (hc i hi)⟩⟩
theorem LimR.on{w w':World}{ad:Option Addr}{n c:Nat}{l:List Nat}(h:LimR w ad n c l)(hb:Below w.heap.size w w'):LimR w' ad n c l:=h.below hb (Nat.le_refl _)
theorem LimR.take{w:World}{ad:Option Addr}{n c:Nat}{l:List Nat}(h:LimR w ad n c l){k:Nat}(hk:k≤n):LimR w ad k c (l.take k):=
 ⟨by rw [List.length_take,h.len];omega,by have:=h.cap;omega,KJ h.lim _,fun hk0=>by
  obtain ⟨b,o,e,hlt,hc⟩:=h.cells (by omega)
  refine ⟨b,o,e,hlt,fun i hi=>(hc i (by omega)).trans ?_⟩
  simp only [List.getD_eq_getElem?_getD]
  rw [List.getElem?_take,if_pos hi]⟩
theorem _root_.Go.RowKit.Below.drewN{B:Nat}{a w:World}(h:Below B a w)(n:Nat):Below B a (w.drewN n):=⟨h.os,h.tape,h.output,h.size,h.block⟩
def Blk(w:World)(g:Nat)(t:TypeId)(cs:Array Value):Prop:=w.heap[g]?=some (.cells cs t (0,0))
section
variable {w w' : World} {g : Nat} {t : TypeId} {cs : Array Value}
theorem Blk.lt(h:Blk w g t cs):g<w.heap.size:=by
 rcases Nat.lt_or_ge g w.heap.size with hlt|hge
 ·exact hlt
 ·unfold Blk at h;rw [Array.getElem?_eq_none hge] at h;cases h
theorem Blk.cell(h:Blk w g t cs)(i:Nat):w.cell? ⟨g,i,none⟩=cs[i]?:=cell_of_row w g i cs t (0,0) h
theorem Blk.frozen(h:Blk w g t cs)(i:Nat):w.frozen? ⟨g,i,none⟩=false:=by
 unfold Blk at h
 simp [World.frozen?,h]
theorem Blk.new(w:World)(t:TypeId)(cs:Array Value):Blk (w.alloc (.cells cs t)) w.heap.size t cs:=heap_alloc_new w _
theorem Blk.alloc(h:Blk w g t cs)(o:Obj):Blk (w.alloc o) g t cs:=(Below.heap_alloc w o g h.lt).trans h
theorem Blk.set_(h:Blk w g t cs)(i:Nat)(u:Value):Blk (w.setCell ⟨g,i,none⟩ u) g t (cs.setIfInBounds i u):=by
 unfold Blk at h ⊢
 simp [World.setCell,Array.getElem?_modify,h]
theorem Blk.far(h:Blk w g t cs){p:Addr}(hp:g≠p.block)(u:Value):Blk (w.setCell p u) g t cs:=(Below.heap_setCell w p u g hp).trans h
theorem Blk.below{B:Nat}(h:Blk w g t cs)(hb:Below B w w')(hg:g<B):Blk w' g t cs:=(hb.block g hg).trans h
theorem Blk.on(h:Blk w g t cs)(hb:Below w.heap.size w w'):Blk w' g t cs:=h.below hb h.lt
end
theorem Zy{W w1:World}{B:Nat}(hb:Below B W w1):(∀b o,b<B→w1.cell? ⟨b,o,none⟩=W.cell? ⟨b,o,none⟩)∧(∀b o,b<B→w1.frozen? ⟨b,o,none⟩=W.frozen? ⟨b,o,none⟩):=
 ⟨fun b o h=>hb.cell (p:=⟨b,o,none⟩) h,fun b o h=>hb.frozen (p:=⟨b,o,none⟩) h⟩
def Vr(l:List Nat):Array Value:=(l.map fun x:Nat=>Value.int .u32 (x:Int)).toArray
theorem Zib(l:List Nat)(i:Nat)(h:i<l.length):(Vr l)[i]?=some (.int .u32 (l.getD i 0:Nat)):=by
 simp [Vr,List.getD_eq_getElem?_getD,List.getElem?_eq_getElem h]
theorem ZhV(l:List Nat)(i x:Nat):(Vr l).setIfInBounds i (.int .u32 (x:Int))=Vr (l.set i x):=by
 unfold Vr
 rw [List.setIfInBounds_toArray,←List.map_set]
theorem Zgk(n:Nat):madeCells #[.int .u32 0] n=Vr (List.replicate n 0):=by
 unfold madeCells Vr
 apply Array.ext
 ·simp
 ·intro i h1 h2
  simp [Nat.mod_one]
def LB(w:World)(g:Nat)(l:List Nat):Prop:=Blk w g 114 (Vr l)∧Lim l
section
variable {w w' : World} {g : Nat} {l : List Nat}
theorem LB.lt(h:LB w g l):g<w.heap.size:=h.1.lt
theorem LB.cell(h:LB w g l){i:Nat}(hi:i<l.length):w.cell? ⟨g,i,none⟩=some (.int .u32 (l.getD i 0:Nat)):=(h.1.cell i).trans (Zib l i hi)
theorem LB.frozen(h:LB w g l)(i:Nat):w.frozen? ⟨g,i,none⟩=false:=h.1.frozen i
theorem LB.made(w:World)(n:Nat):LB (w.alloc (.cells (madeCells #[.int .u32 0] n) 114)) w.heap.size (List.replicate n 0):=
 ⟨by rw [Zgk];exact Blk.new w _ _,Zd8 n⟩
theorem LB.set_(h:LB w g l)(i x:Nat)(hx:x<4294967296):LB (w.setCell ⟨g,i,none⟩ (.int .u32 (x:Int))) g (l.set i x):=
 ⟨by have:=h.1.set_ i (.int .u32 (x:Int));rwa [ZhV] at this,Zsu h.2 i x hx⟩
theorem LB.setI(h:LB w g l)(i:Nat)(x:Int)(h0:0≤x)(hx:x<4294967296):LB (w.setCell ⟨g,i,none⟩ (.int .u32 x)) g (l.set i x.toNat):=by
 have:=h.set_ i x.toNat (by omega)
 rwa [Int.toNat_of_nonneg h0] at this
theorem LB.far(h:LB w g l){p:Addr}(hp:g≠p.block)(u:Value):LB (w.setCell p u) g l:=⟨h.1.far hp u,h.2⟩
theorem LB.below{B:Nat}(h:LB w g l)(hb:Below B w w')(hg:g<B):LB w' g l:=⟨h.1.below hb hg,h.2⟩
theorem LB.on(h:LB w g l)(hb:Below w.heap.size w w'):LB w' g l:=⟨h.1.on hb,h.2⟩
theorem LB.alloc(h:LB w g l)(o:Obj):LB (w.alloc o) g l:=⟨h.1.alloc o,h.2⟩
theorem LB.read(h:LB w g l)(n:Nat)(hn:n=l.length):LimR w (some ⟨g,0,none⟩) n n l:=
 ⟨hn.symm,by omega,h.2,fun h0=>⟨g,0,rfl,h.lt,fun i hi=>by rw [Nat.zero_add];exact h.cell (by omega)⟩⟩
end
theorem LimR.drewN{w:World}{ad:Option Addr}{n c:Nat}{l:List Nat}(h:LimR w ad n c l)(k:Nat):LimR (w.drewN k) ad n c l:=⟨h.len,h.cap,h.lim,h.cells⟩
theorem LimR.at_{w:World}{ad:Option Addr}{n c:Nat}{l:List Nat}(h:LimR w ad n c l){i:Nat}(hi:i<n):
  ∃b o x,ad=some ⟨b,o,none⟩∧b<w.heap.size∧w.cell? ⟨b,o+i,none⟩=some (.int .u32 (x:Nat))∧x<4294967296∧Hid (l.getD i 0=x):=by
 obtain ⟨b,o,e,hb,hc⟩:=h.cells (by omega)
 exact ⟨b,o,_,e,hb,hc i hi,Ye h.lim i,rfl⟩
def ZzR(k:Nat)(w:World)(e:Ending)(w':World):Prop:=∃ad n c,e=.returned (.slice ad n c)∧LimR w' ad n c (lmb k)∧w=w'
def RetN(k:Nat)(w:World)(e:Ending)(w':World):Prop:=∃ad n c,e=.returned (.slice ad n c)∧LimR w' ad n c (lmb k)∧Below w.heap.size w w'
theorem ZF(x:Int):IntKind.u64.wrap x=x % 18446744073709551616:=by
 simp [IntKind.wrap,IntKind.signed,IntKind.bits]
theorem Qu{a b:Int}(h:a=b):Value.int .u64 a=Value.int .u64 b:=by rw [h]
theorem ZgO(x y k:Nat)(hx:x<2 ^ k):x ||| (y*2 ^ k)=x+y*2 ^ k:=by
 have h:=Nat.shiftLeft_add_eq_or_of_lt hx y
 rw [Nat.shiftLeft_eq] at h
 rw [Nat.or_comm];omega
theorem ZfI(x y:Nat)(hx:x<4294967296)(hy:y<4294967296):bits .or .u64 (x:Int) ((y:Int)*4294967296)=((x+y*4294967296:Nat):Int):=by
 rw [show ((y:Int)*4294967296)=((y*4294967296:Nat):Int) by omega,u64_or_nat _ _ (by omega) (by omega)]
 rw [show (4294967296:Nat)=2 ^ 32 from rfl,ZgO x y 32 (by omega)]
theorem ZlZ(y:Nat)(hy:y<18446744073709551616):bits .or .u64 0 (y:Int)=(y:Int):=by
 rw [show (0:Int)=((0:Nat):Int) from rfl,u64_or_nat _ _ (by omega) hy,Nat.zero_or]
theorem ZzZ{y k:Nat}(h:y*2 ^ k<18446744073709551616):IntKind.u64.wrap ((y:Int)*2 ^ k)=((y*2 ^ k:Nat):Int):=by
 rw [ZF]
 have:((y:Int)*2 ^ k)=((y*2 ^ k:Nat):Int):=by rw [Int.natCast_mul,Int.natCast_pow];rfl
 rw [this];omega
theorem ZtY{o y k:Nat}(ho:o<2 ^ k)(hy:y<4294967296)(hk:k≤32):bits .or .u32 (o:Int) (IntKind.u64.wrap ((y:Int)*2 ^ k) % 4294967296)=((o+(y*2 ^ k) % 4294967296:Nat):Int):=by
 rw [ZzZ (Ze3 hy hk).1,show (((y*2 ^ k:Nat):Int) % 4294967296)=(((y*2 ^ k) % 4294967296:Nat):Int) by omega]
 have:=Zbr hk
 rw [u32_or_nat _ _ (by omega) (by omega),Zjh y hk,ZgO _ _ _ ho]
theorem ZCE{y k:Nat}(hy:y<4294967296)(hk:k≤32):IntKind.u64.wrap ((y:Int)*2 ^ k) / 4294967296 % 4294967296=((y*2 ^ k / 4294967296:Nat):Int):=by
 have h:=(Ze3 hy hk).2
 have:=Zbr hk
 rw [ZzZ (Ze3 hy hk).1];omega
theorem Q2{k:IntKind}{a b:Int}(h:a=b):Ending.returned (.int k a)=.returned (.int k b):=by rw [h]
theorem Tryz.infoU32:(Tryz.prog.info? 114).map (fun i=>(i.zero,i.size,i.bytes))=some (some (.int .u32 0),1,4):=by kernel_rfl
theorem Tryz.mkU32(n:Int)(k:Nat)(h:n=k)(h1:n≤35184372088832)(w:World):
  (Instr.makeSlice 24 (.int .i64 n) (.int .i64 n)).run Tryz.prog w=.ok (.slice (some ⟨w.heap.size,0,none⟩) k k) (w.alloc (.cells (madeCells #[.int .u32 0] k) 114)):=by
 subst h
 exact run_make_row' (P:= Tryz.prog) 24 114 (.int .u32 0) 4 Tryz.underlying24 Tryz.infoU32 rfl .i64 .i64 k (by omega) (by omega) w
end Go.Proofs.YtdaonnnlgfhlaaaGreatDoor
namespace Go.Proofs.YtdaonnnlgfhlaaaGreatDoor
open Go.RowKit
theorem Zbk{w:World}{ad:Option Addr}{n c:Nat}{l:List Nat}(h:LimR w ad n c l){k:Nat}(hk:Vg l k=Vg l n)(hkn:k≤n)(hs:k=0∨l.getD (k-1) 0≠0):
  k=Vg l n∧LimR w ad k c (lmb (val l)):=by
 have e:k=Vg l n:=by
  rcases hs with rfl|hs
  ·exact hk
  ·rcases Nat.eq_zero_or_pos k with rfl|h0
   ·exact hk
   ·rw [←hk,Zmo l h0 hs]
 refine ⟨e,?_⟩
 have:=h.take (k:=k) hkn
 rw [e,←h.len,Zft h.lim] at this
 rw [e,←h.len]
 exact this
def ZzB(k:Nat)(ad0:Option Addr)(w:World)(e:Ending)(w':World):Prop:=∃ad n c,e=.returned (.slice ad n c)∧LimR w' ad n c (lmb k)∧(ad=ad0∨ad=none)∧w=w'
set_option maxHeartbeats 400000 in
theorem Zj2(w:World){ad:Option Addr}{n c:Nat}{l:List Nat}(h:LimR w ad n c l)(hn2:n≤140737488355328):
  Calls Tryz.prog 109 #[.slice ad n c] w (ZzB (val l) ad w):=by
 have hcap:=h.cap
 go_enter Tryz.func109, Tryz.ntmps109
 go_wp2
 go_loop [3] (fun i=>∃k:Nat,k≤n∧i=.int .i64 k∧Vg l k=Vg l n) (fun i=>(intOf i).toNat)
 case atStart=>exact ⟨n,by omega,rfl,rfl⟩
 case round=>
  obtain ⟨k,hk,rfl,ht⟩:=hrel
  have HT:=Lib.hid ht;clear ht
  rcases Nat.eq_zero_or_pos k with rfl|hpos
  ·have HE:=Lib.hid (Zbk h HT.out hk (.inl rfl))
   go_wp2
   go_ret
   exact ⟨none,0,0,rfl,by have:=HE.out.2;exact ⟨this.len,by omega,this.lim,fun h=>by omega⟩,.inr rfl,rfl⟩
  ·obtain ⟨b,o,rfl,_,hcell⟩:=h.cells (by omega)
   have hc1:=hcell (k-1) (by omega)
   clear hcell
   have HS:=Lib.hid (ZeN l hpos)
   have HE:=Lib.hid (Zbk h HT.out hk)
   by_cases hz:l.getD (k-1) 0=0
   ·rw [hz] at hc1
    have HZ:=Lib.hid hz;clear hz
    go_wp2
    go_round
    case rel=>exact ⟨k-1,by omega,by go_num,(HS.out HZ.out).trans HT.out⟩
    case measure=>simp [intOf];omega
   ·obtain ⟨x,hx⟩:∃x:Nat,x=l.getD (k-1) 0:=⟨_,rfl⟩
    rw [←hx] at hc1 hz
    have HX:=Lib.hid hx;clear hx
    have hk0:((k:Int)==0)=false:=by simp;omega
    go_wp2
    go_ret
    exact ⟨_,_,_,rfl,(HE.out (.inr (by rw [←HX.out];exact hz))).2,.inl rfl,rfl⟩
theorem Yf(w:World){ad:Option Addr}{n c:Nat}{l:List Nat}(h:LimR w ad n c l)(hn2:n≤140737488355328):
  Calls Tryz.prog 109 #[.slice ad n c] w (ZzR (val l) w):=
 (Zj2 w h hn2).mono fun _ _ ⟨ad,n,c,h1,h2,_,h3⟩=>⟨ad,n,c,h1,h2,h3⟩
end Go.Proofs.YtdaonnnlgfhlaaaGreatDoor
namespace Go.Proofs.YtdaonnnlgfhlaaaGreatDoor
open Go.RowKit
section
variable{P:Program}(w:World)
theorem ZfW(base:Nat)(t ty e:TypeId)(i:TypeInfo)(size:Nat)(ht:P.underlying t=some (.slice e))(hi:P.info? e=some i)(v:Value)(n:Nat)(xs:List Value)(hown:w.ownsRow base e size v n xs)(A:Option Addr)(c:Nat):(Builtin.append_ #[t,t] ty #[v,.slice A 0 c]).run P w=.ok v w:=by
 rcases hown.2 with ⟨rfl,rfl⟩|⟨g,cap,cur,rfl,_,_,hnc,_⟩
 ·cases A <;>simp [Builtin.append_,run_underlying ht,sizeOf,typeInfo,hi,Builtin.lenOf,Builtin.firstCells,loadCells,loadCellsFrom]
 ·cases A <;>simp [Builtin.append_,run_underlying ht,sizeOf,typeInfo,hi,Builtin.lenOf,Builtin.firstCells,hnc,storeCells,loadCells,loadCellsFrom]
theorem Zea(t t' ty e e':TypeId)(ht:P.underlying t=some (.slice e))(ht':P.underlying t'=some (.slice e'))(v x:Value):
  (Builtin.append_ #[t,t'] ty #[v,x]).run P w=(Builtin.append_ #[t,t] ty #[v,x]).run P w:=by
 unfold Builtin.append_
 cases v <;>simp [run_underlying ht,run_underlying ht']
theorem Zur(base:Nat)(t t' ty e e':TypeId)(ht':P.underlying t'=some (.slice e'))(i:TypeInfo)(z:Value)(size bytes:Nat)(ht:P.underlying t=some (.slice e))(hi:P.info? e=some i)(hz:i.zero=some z)(hsize:i.size=size)(hby:i.bytes=bytes)(hzs:z.cells.size=size)(hsz:0<size)(v:Value)(n:Nat)(xs:List Value)(hown:w.ownsRow base e size v n xs)(A:Option Addr)(m c:Nat)(news:List Value)(hl:news.length=m*size)(hr:0<m→∃ad,A=some ad∧∀j u,news[j]?=some u→w.cell? (ad.add j)=some u)(h1:∀u∈news,u.oneCell'=true)(h63:n+m≤maxLen)(hbytes:(n+m)*bytes≤140737488355328)(hbase:base≤w.heap.size):
  ∃v' w',(Builtin.append_ #[t,t'] ty #[v,.slice A m c]).run P w=.ok v' w'∧w'.ownsRow base e size v' (n+m) (xs++news)∧w.grownBy w' v.ownBlock∧
   (v'.ownBlock=v.ownBlock∨v'.ownBlock=some w.heap.size):=by
 rw [Zea w t t' ty e e' ht ht']
 rcases Nat.eq_zero_or_pos m with rfl|hm
 ·have hn:news=[]:=List.eq_nil_of_length_eq_zero (by simpa using hl)
  subst hn
  exact ⟨v,w,ZfW w base t ty e i size ht hi v n xs hown A c,by simpa using hown,World.grownBy.refl w _,.inl rfl⟩
 ·obtain ⟨ad,rfl,hc⟩:=hr hm
  obtain ⟨v',w',hrun,h2,h3,_,h5⟩:=run_append_own_at (P:=P) w base t ty e i z size bytes ht hi hz hsize hby hzs hsz v n xs hown ad m c news hl hc h1 h63 hbytes hbase
  exact ⟨v',w',hrun,h2,h3,h5⟩
theorem ZxB{o:Oper}{a:Act}{K:Act→World→Prop}{Q:Exit→Act→World→Prop}(s x:Operand)(t t':TypeId)(ho:o.op=.call {callee:=.builtin .append,args:=#[s,x],argTypes:=#[t,t']})(e':TypeId)(ht':P.underlying t'=some (.slice e'))(base:Nat)(e:TypeId)(i:TypeInfo)(z:Value)(size bytes:Nat)(ht:P.underlying t=some (.slice e))(hi:P.info? e=some i)(hz:i.zero=some z)(hsize:i.size=size)(hby:i.bytes=bytes)(hzs:z.cells.size=size)(hsz:0<size)(v:Value)(n:Nat)(xs:List Value)(hs:a.eval s=v)(hown:w.ownsRow base e size v n xs)(A:Option Addr)(m c:Nat)(news:List Value)(hx:a.eval x=.slice A m c)(hl:news.length=m*size)(hr:0<m→∃ad,A=some ad∧∀j u,news[j]?=some u→w.cell? (ad.add j)=some u)(h1:∀u∈news,u.oneCell'=true)(h63:n+m≤maxLen)(hbytes:(n+m)*bytes≤140737488355328)(hbase:base≤w.heap.size)(h:∀v' w',w'.ownsRow base e size v' (n+m) (xs++news)→w.grownBy w' v.ownBlock→(v'.ownBlock=v.ownBlock∨v'.ownBlock=some w.heap.size)→K (a.put o.dst v') w'):o.wp P a w K Q:=by
 obtain ⟨v',w',hrun,h2,h3,h4⟩:=Zur (P:=P) w base t t' o.type e e' ht' i z size bytes ht hi hz hsize hby hzs hsz v n xs hown A m c news hl hr h1 h63 hbytes hbase
 unfold Oper.wp execOp
 simp only [ho,resolve,invoke,builtin,Sem.run_bind,Sem.run_pure,Result.andThen_ok,List.map_toArray,List.map_cons,List.map_nil,hs,hx,hrun]
 exact h v' w' h2 h3 h4
theorem QK{ops:Array Oper}{rest:List Oper}{o:Oper}{a:Act}{Q:Exit→Act→World→Prop}(hgd:o.guard=none)(s x:Operand)(t t':TypeId)(ho:o.op=.call {callee:=.builtin .append,args:=#[s,x],argTypes:=#[t,t']})(e':TypeId)(ht':P.underlying t'=some (.slice e'))(base:Nat)(e:TypeId)(i:TypeInfo)(z:Value)(size bytes:Nat)(ht:P.underlying t=some (.slice e))(hi:P.info? e=some i)(hz:i.zero=some z)(hsize:i.size=size)(hby:i.bytes=bytes)(hzs:z.cells.size=size)(hsz:0<size)(v:Value)(n:Nat)(xs:List Value)(hs:a.eval s=v)(hown:w.ownsRow base e size v n xs)(A:Option Addr)(m c:Nat)(news:List Value)(hx:a.eval x=.slice A m c)(hl:news.length=m*size)(hr:0<m→∃ad,A=some ad∧∀j u,news[j]?=some u→w.cell? (ad.add j)=some u)(h1:∀u∈news,u.oneCell'=true)(h63:n+m≤maxLen)(hbytes:(n+m)*bytes≤140737488355328)(hbase:base≤w.heap.size)(h:∀v' w',w'.ownsRow base e size v' (n+m) (xs++news)→w.grownBy w' v.ownBlock→(v'.ownBlock=v.ownBlock∨v'.ownBlock=some w.heap.size)→wpList P ops Q rest (a.put o.dst v') w'):wpList P ops Q (o::rest) a w:=
 wpList_plain hgd fun _ hK=>ZxB w s x t t' ho e' ht' base e i z size bytes ht hi hz hsize hby hzs hsz v n xs hs hown A m c news hx hl hr h1 h63 hbytes hbase fun v' w' h2 h3 h4=>hK _ _ (h v' w' h2 h3 h4)
end
theorem Q7{w w':World}{v:Value}{base:Nat}{e:TypeId}{size n:Nat}{xs:List Value}(h:w.grownBy w' v.ownBlock)(hown:w.ownsRow base e size v n xs)(hb:base≤w.heap.size):Below base w w':=
 (Below.refl _ _).grown h hb fun k hk=>by
  rcases hown.2 with ⟨rfl,_⟩|⟨g,cap,cur,rfl,hg,_⟩
  ·simp [Value.ownBlock] at hk
  ·simp [Value.ownBlock] at hk;omega
theorem LimR.own{w:World}{base:Nat}{v:Value}{n:Nat}{l:List Nat}(h:w.ownsRow base 114 1 v n (l.map fun x:Nat=>Value.int .u32 (x:Int)))(hl:Lim l):
  ∃ad c,v=.slice ad n c∧LimR w ad n c l:=by
 obtain ⟨hlen,hv⟩:=h
 have hlen':l.length=n:=by simpa using hlen
 rcases hv with ⟨rfl,rfl⟩|⟨g,cap,cur,rfl,_,hg,hnc,_,hsz,htake⟩
 ·exact ⟨none,0,rfl,hlen',by omega,hl,fun h=>by omega⟩
 ·refine ⟨_,_,rfl,hlen',hnc,hl,fun _=>⟨g,0,rfl,?_,fun i hi=>?_⟩⟩
  ·rcases Nat.lt_or_ge g w.heap.size with hlt|hge
   ·exact hlt
   ·rw [Array.getElem?_eq_none hge] at hg;cases hg
  ·rw [Nat.zero_add,cell_of_row w g i cur _ (0,0) hg,←Array.getElem?_toList]
   have h2:(cur.toList.take (n*1))[i]?=cur.toList[i]?:=by rw [List.getElem?_take,if_pos (by omega)]
   rw [←h2,htake]
   simp [List.getD_eq_getElem?_getD,List.getElem?_eq_getElem (show i<l.length by omega)]
theorem ZeS{w:World}{base n size:Nat}{e:TypeId}{v:Value}{xs:List Value}(h:w.ownsRow base e size v n xs){a:Addr}{m c:Nat}(hv:v=.slice (some a) m c):base≤a.block:=by
 rcases h.2 with ⟨rfl,_⟩|⟨g,cap,cur,rfl,hg,_⟩
 ·cases hv
 ·cases hv;exact hg
theorem VN(w:World)(base g:Nat)(e:TypeId)(size:Nat)(hb:base≤g)(h:Blk w g e #[]):w.ownsRow base e size (.slice (some ⟨g,0,none⟩) 0 0) 0 []:=
 ⟨by simp,.inr ⟨g,0,#[],rfl,hb,h,by omega,by simp [maxLen],by simp,by simp⟩⟩
theorem UG{w:World}{ad:Option Addr}{n c:Nat}{l:List Nat}(h:LimR w ad n c l):
  (l.map fun x:Nat=>Value.int .u32 (x:Int)).length=n*1∧(0<n→∃a,ad=some a∧∀j u,(l.map fun x:Nat=>Value.int .u32 (x:Int))[j]?=some u→w.cell? (a.add j)=some u)∧
   ∀u∈(l.map fun x:Nat=>Value.int .u32 (x:Int)),u.oneCell'=true:=by
 refine ⟨by simp [h.len],fun h0=>?_,fun u hu=>?_⟩
 ·obtain ⟨b,o,e,_,hc⟩:=h.cells h0
  refine ⟨_,e,fun j u hu=>?_⟩
  rw [List.getElem?_map,Option.map_eq_some_iff] at hu
  obtain ⟨x,hx,rfl⟩:=hu
  have hj:=(List.getElem?_eq_some_iff.1 hx).1
  have:=hc j (by rw [←h.len];exact hj)
  rw [List.getD_eq_getElem?_getD,hx] at this
  simp only [Addr.add]
  split
  ·rename_i h0;subst h0;simpa using this
  ·exact this
 ·obtain ⟨x,_,rfl⟩:=List.mem_map.1 hu
  rfl
end Go.Proofs.YtdaonnnlgfhlaaaGreatDoor
namespace Go.Proofs.YtdaonnnlgfhlaaaGreatDoor
open Go.RowKit
def ZAq(l:List Nat)(w:World)(e:Ending)(w':World):Prop:=∃ad n c,e=.returned (.slice ad n c)∧LimR w' ad n c l∧Below w.heap.size w w'
set_option maxHeartbeats 400000 in
theorem Zmn(w:World){ad:Option Addr}{n c:Nat}{l:List Nat}(h:LimR w ad n c l)(hn:n≤17592186044416):
  Calls Tryz.prog 130 #[.slice ad n c] w (ZAq l w):=by
 have hnil:=Lib.run_eql_slice_nil (P:= Tryz.prog) w 24 114 ad n c 0 0 Tryz.underlying24
 obtain ⟨i0,hi0,hz0,hz1,hz2⟩:=info_parts Tryz.infoU32
 cases ad with
 | none=>
   have h0:n=0:=by
    rcases Nat.eq_zero_or_pos n with h0|h0
    ·exact h0
    ·obtain ⟨_,_,e,_⟩:=h.cells h0;cases e
   subst h0
   go_enter Tryz.func130, Tryz.ntmps130
   go_wp2
   go_ret
   exact ⟨none,0,0,rfl,⟨h.len,by omega,h.lim,fun h=>by omega⟩,Below.refl _ _⟩
 | some a=>
   have HS1:=Lib.hid (UG h)
   have HS:=fun o=>Lib.hid (UG (h.on ((Below.refl _ _).alloc (Nat.le_refl _) o)))
   go_enter Tryz.func130, Tryz.ntmps130
   go_wp2_with (at_builtin;refine QK _ rfl (.tmp 5) (.tmp 6) _ _ rfl _ Tryz.underlying24 w.heap.size 114 i0 _ 1 4 Tryz.underlying24 hi0 hz0 hz1 hz2 rfl (by omega) (.slice (some ⟨w.heap.size,0,none⟩) 0 0) 0 [] rfl (VN _ _ _ _ _ (Nat.le_refl _) (Blk.new _ _ _)) (some a) n c _ rfl HS1.out.1 (HS _).out.2.1 HS1.out.2.2 (by simp only [maxLen];omega) (by omega) (by simp) ?_;intro v1 w1 hown1 hg1 hat1)
   obtain ⟨ad1,c1,rfl,hl1⟩:=LimR.own (by simpa using hown1) h.lim
   go_ret
   exact ⟨_,_,_,rfl,hl1,((Below.refl _ _).alloc (Nat.le_refl _) _).trans (Q7 (size:=1) hg1 (VN _ _ _ _ _ (Nat.le_refl _) (Blk.new _ _ _)) (by simp))⟩
theorem RetN.of{k:Nat}{w w':World}{e:Ending}(h:ZAq (lmb k) w e w'):RetN k w e w':=h
set_option maxHeartbeats 400000 in
theorem Ws(w:World){ad:Option Addr}{n c:Nat}{l:List Nat}(h:LimR w ad n c l)(hn:n≤17592186044416):
  Calls Tryz.prog 105 #[.slice ad n c] w (RetN (val l) w):=by
 go_enter Tryz.func105, Tryz.ntmps105
 go_wp2_with fail
 refine (Yf w h (by omega)).mono ?_
 rintro e w1 ⟨ad1,n1,c1,rfl,h1,rfl⟩
 have hn1:n1≤n:=by rw [←h1.len,←h.len];exact Zn h.lim
 go_wp2_with fail
 refine (Zmn w h1 (by omega)).mono ?_
 rintro e w1 ⟨ad2,n2,c2,rfl,h2,hb2⟩
 go_wp2_with fail
 go_ret
 exact ⟨_,_,_,rfl,h2,hb2⟩
set_option maxHeartbeats 400000 in
theorem JR(w:World){ad:Option Addr}{n c:Nat}{l:List Nat}(h:LimR w ad n c l)(hn:n≤17592186044416):
  Calls Tryz.prog 126 #[.slice ad n c] w fun e w'=>e=.returned (.bool (decide (lmb (val l)=l)))∧w=w':=by
 have hE:(lmb (val l)=l)↔(n=0∨l.getD (n-1) 0≠0):=by
  constructor
  ·intro e
   have hc:=Zcp (val l)
   rw [e] at hc
   rcases hc with hc|hc
   ·exact .inl (by rw [←h.len,hc];rfl)
   ·exact .inr (by rw [←h.len];exact hc)
  ·intro e
   refine ZfN h.lim ?_
   rcases e with e|e
   ·exact .inl (List.eq_nil_of_length_eq_zero (by rw [h.len,e]))
   ·exact .inr (by rw [h.len];exact e)
 have HE:=Lib.hid hE;clear hE
 rcases Nat.eq_zero_or_pos n with rfl|h0
 ·have HD:Hid (decide (lmb (val l)=l)=true):=decide_eq_true (HE.out.2 (.inl rfl))
  go_enter Tryz.func126, Tryz.ntmps126
  go_wp2
  go_ret
  exact ⟨by rw [HD.out];rfl,rfl⟩
 ·obtain ⟨b,o,rfl,_,hcell⟩:=h.cells (by omega)
  have hc1:=hcell (n-1) (by omega)
  clear hcell
  obtain ⟨x,hx⟩:∃x:Nat,x=l.getD (n-1) 0:=⟨_,rfl⟩
  rw [←hx] at hc1
  have HD:Hid (decide (lmb (val l)=l)=decide (x≠0)):=by
   rw [hx]
   exact decide_eq_decide.2 (HE.out.trans ⟨fun h=>h.resolve_left (by omega),.inr⟩)
  clear HE hx
  have hne:((n:Int)==0)=false:=by simp;omega
  go_enter Tryz.func126, Tryz.ntmps126
  go_wp2
  go_ret
  refine ⟨?_,rfl⟩
  rw [HD.out]
  simp [bne,Bool.beq_eq_decide_eq]
end Go.Proofs.YtdaonnnlgfhlaaaGreatDoor
namespace Go.Proofs.YtdaonnnlgfhlaaaGreatDoor
open Go.RowKit
set_option maxHeartbeats 400000 in
theorem Zbh(w:World)(x:Int)(h0:0≤x)(h1:x<18446744073709551616):Calls Tryz.prog 102 #[.int .u64 x] w (RetN x.toNat w):=by
 obtain ⟨k,rfl⟩:=Int.eq_ofNat_of_zero_le h0
 go_enter Tryz.func102, Tryz.ntmps102
 go_wp2_with fail
 have hB:LB (w.alloc (.cells (Vr [k % 4294967296,k / 4294967296]) 114)) w.heap.size [k % 4294967296,k / 4294967296]:=
  ⟨Blk.new w _ _,X5 (by omega) (X5 (by omega) XT)⟩
 have hR:=hB.read 2 rfl
 have hv:val [k % 4294967296,k / 4294967296]=k:=by simp only [val];omega
 refine (Yf _ hR (by omega)).mono ?_
 rintro e w1 ⟨ad1,n1,c1,rfl,g1,rfl⟩
 rw [hv] at g1
 clear hR hB hv
 go_wp2_with fail
 go_ret
 exact ⟨_,_,_,rfl,g1,(Below.refl _ _).alloc (Nat.le_refl _) _⟩
theorem dd3(w:World)(a b c:Nat):∃n,((w.drewN a).drewN b).drewN c=w.drewN n:=⟨a+(b+c),by rw [World.drewN_drewN,World.drewN_drewN]⟩
theorem dd2(w:World)(a b:Nat):∃n,(w.drewN a).drewN b=w.drewN n:=⟨a+b,by rw [World.drewN_drewN]⟩
def Zsm(a b:Nat)(w:World)(e:Ending)(w':World):Prop:=e=.returned (.int .i64 (QW a b))∧∃n,w'=w.drewN n
set_option maxHeartbeats 800000 in
theorem Vv(w:World){ad1 ad2:Option Addr}{n1 n2 c1 c2:Nat}{l1 l2:List Nat}(h1:LimR w ad1 n1 c1 l1)(h2:LimR w ad2 n2 c2 l2)(hn1:n1≤17592186044416)(hn2:n2≤17592186044416):
  Calls Tryz.prog 127 #[.slice ad1 n1 c1,.slice ad2 n2 c2] w (Zsm (val l1) (val l2) w):=by
 go_enter Tryz.func127, Tryz.ntmps127
 go_wp2_with fail
 refine (Yf w h1 (by omega)).mono ?_
 rintro e w1 ⟨ad1',m1,c1',rfl,g1,rfl⟩
 have hm1:m1≤n1:=by rw [←g1.len,←h1.len];exact Zn h1.lim
 go_wp2_with fail
 refine (Yf _ h2 (by omega)).mono ?_
 rintro e w1 ⟨ad2',m2,c2',rfl,g2,rfl⟩
 have hm2:m2≤n2:=by rw [←g2.len,←h2.len];exact Zn h2.lim
 clear h1 h2
 generalize val l1=a at*
 generalize val l2=b at*
 rcases Nat.lt_trichotomy m1 m2 with hlt|rfl|hgt
 ·have HE:=Lib.hid (Zap (Zdp (show (lmb a).length<(lmb b).length by rw [g1.len,g2.len];exact hlt)))
  have hne:((m1:Int) !=m2)=true:=by simp;omega
  go_wp2_with fail
  go_ret
  exact ⟨Q2 HE.out.symm,0,rfl⟩
 ·have hne:((m1:Int) !=m1)=false:=by simp
  go_wp2_with fail
  go_loopw [5] (fun i wr=>∃k:Nat,k≤m1∧i=.int .i64 ((k:Int)-1)∧Hid ((lmb a).drop k=(lmb b).drop k)∧∃d,wr=w.drewN d) (fun i _=>(intOf i+1).toNat)
  case atStart=>exact ⟨m1,Nat.le_refl _,by go_num,by unfold Hid;rw [List.drop_of_length_le (by rw [g1.len];omega),List.drop_of_length_le (by rw [g2.len];omega)],0,rfl⟩
  case round=>
   obtain ⟨k,hk,rfl,HD,d,rfl⟩:=hrel
   rcases Nat.eq_zero_or_pos k with rfl|hpos
   ·have hab:a=b:=ZtJ HD.out
    have HE:=Lib.hid (Zfr hab)
    clear hab
    go_wp2_with fail
    go_ret
    exact ⟨Q2 HE.out.symm,_,rfl⟩
   ·obtain ⟨b1,o1,x,rfl,_,hx,hx2,HX⟩:=g1.at_ (show k-1<m1 by omega)
    obtain ⟨b2,o2,y,rfl,_,hy,hy2,HY⟩:=g2.at_ (show k-1<m1 by omega)
    have hkk:k-1+1=k:=by omega
    rw [←hkk] at HD
    have hkn:((k:Int)-1).toNat=k-1:=by omega
    clear hkk
    have hk0:(0:Int)≤(k:Int)-1:=by omega
    have hk1:(k:Int)-1<(m1:Int):=by omega
    rcases Nat.lt_trichotomy x y with hxy|rfl|hxy
    ·have HE:Hid (QW a b=-1):=by
      refine Zap ?_
      have:=ZeP (Yq a) (by rw [g1.len,g2.len]) (i:=k-1) (by rw [g1.len];omega) HD.out (by rw [HX.out,HY.out];exact hxy)
      rwa [Zg,Zg] at this
     have hne2:((x:Int) !=y)=true:=by simp;omega
     clear hne
     go_wp2_with fail
     go_quiet (fail)
     go_wp2_with fail
     go_quiet (fail)
     go_wp2_with fail
     go_ret
     exact ⟨Q2 HE.out.symm,dd3 _ _ _ _⟩
    ·have HD2:Hid ((lmb a).drop (k-1)=(lmb b).drop (k-1)):=ZmR (by rw [g1.len,g2.len]) (by rw [g1.len];omega) HD.out (by rw [HX.out,HY.out])
     have hne2:((x:Int) !=x)=false:=by simp
     clear hne
     go_wp2_with fail
     go_quiet (fail)
     go_wp2_with fail
     go_roundw
     case rel=>exact ⟨k-1,by omega,by go_num,HD2,_,rfl⟩
     case measure=>simp [intOf];omega
    ·have HE:Hid (QW a b=1):=by
      refine Zfv ?_
      have:=ZeP (Yq b) (by rw [g1.len,g2.len]) (i:=k-1) (by rw [g2.len];omega) HD.out.symm (by rw [HX.out,HY.out];exact hxy)
      rwa [Zg,Zg] at this
     have hne2:((x:Int) !=y)=true:=by simp;omega
     clear hne
     go_wp2_with fail
     go_quiet (fail)
     go_wp2_with fail
     go_quiet (fail)
     go_wp2_with fail
     go_ret
     exact ⟨Q2 HE.out.symm,dd3 _ _ _ _⟩
 ·have HE:=Lib.hid (Zfv (Zdp (show (lmb b).length<(lmb a).length by rw [g1.len,g2.len];exact hgt)))
  have hne:((m1:Int) !=m2)=true:=by simp;omega
  go_wp2_with fail
  go_ret
  exact ⟨Q2 HE.out.symm,0,rfl⟩
end Go.Proofs.YtdaonnnlgfhlaaaGreatDoor
namespace Go.Proofs.YtdaonnnlgfhlaaaGreatDoor
open Go.RowKit
structure AddInv (m k cy:Nat) (a b:Nat) (w wr:World) (cur:List Nat):Prop where
 lb:LB wr w.heap.size cur
 len:cur.length=m+1
 sum:vt cur k+4294967296 ^ k*cy=vt (lmb a) k+vt (lmb b) k
 below:Below w.heap.size w wr
theorem AddInv.start(w:World)(m a b:Nat):AddInv m 0 0 a b w (w.alloc (.cells (madeCells #[.int .u32 0] (m+1)) 114)) (List.replicate (m+1) 0):=
 ⟨LB.made w _,by simp,by simp [Yy],(Below.refl _ _).alloc (Nat.le_refl _) _⟩
theorem AddInv.step{m k cy a b x y:Nat}{w wr:World}{cur:List Nat}(h:AddInv m k cy a b w wr cur)(hk:k<m)(hx:(lmb a).getD k 0=x)(hy:(lmb b).getD k 0=y){z:Int}(hz:z=(cy:Int)+x+y):
  AddInv m (k+1) ((cy+x+y) / 4294967296) a b w (wr.setCell ⟨w.heap.size,k,none⟩ (.int .u32 (z % 4294967296))) (cur.set k ((cy+x+y) % 4294967296)):=by
 subst hz
 have e:((cy:Int)+x+y) % 4294967296=(((cy+x+y) % 4294967296:Nat):Int):=by omega
 rw [e]
 exact ⟨h.lb.set_ k _ (by omega),by rw [List.length_set];exact h.len,Zgs (by rw [h.len];omega) hx hy h.sum,h.below.setCell (Nat.le_refl _) _⟩
theorem AddInv.end_{m cy a b:Nat}{w wr:World}{cur:List Nat}(h:AddInv m m cy a b w wr cur)(ha:(lmb a).length≤m)(hb:(lmb b).length≤m)(hcy:cy≤1):
  ∃l,LimR (wr.setCell ⟨w.heap.size,m,none⟩ (.int .u32 cy)) (some ⟨w.heap.size,0,none⟩) (m+1) (m+1) l∧val l=a+b∧Below w.heap.size w (wr.setCell ⟨w.heap.size,m,none⟩ (.int .u32 cy)):=by
 have h1:=h.lb.set_ m cy (by omega)
 refine ⟨_,h1.read (m+1) (by rw [List.length_set,h.len]),?_,h.below.setCell (Nat.le_refl _) _⟩
 have h2:=VK cur (k:=m) (by rw [h.len];omega) cy
 rw [Z8 _ (by rw [List.length_set,h.len];omega),h.sum,Z8 _ ha,Z8 _ hb,Zg,Zg] at h2
 exact h2
set_option maxHeartbeats 1600000 in
theorem Zo8(w:World){ad1 ad2:Option Addr}{n1 n2 c1 c2:Nat}{l1 l2:List Nat}(h1:LimR w ad1 n1 c1 l1)(h2:LimR w ad2 n2 c2 l2)(hn1:n1≤17592186044416)(hn2:n2≤17592186044416):
  Calls Tryz.prog 142 #[.slice ad1 n1 c1,.slice ad2 n2 c2] w (RetN (val l1+val l2) w):=by
 go_enter Tryz.func142, Tryz.ntmps142
 go_wp2_with fail
 refine (Yf w h1 (by omega)).mono ?_
 rintro e w1 ⟨ad1',m1,c1',rfl,g1,rfl⟩
 have hm1:m1≤n1:=by rw [←g1.len,←h1.len];exact Zn h1.lim
 go_wp2_with fail
 refine (Yf _ h2 (by omega)).mono ?_
 rintro e w1 ⟨ad2',m2,c2',rfl,g2,rfl⟩
 have hm2:m2≤n2:=by rw [←g2.len,←h2.len];exact Zn h2.lim
 clear h1 h2
 generalize val l1=a at*
 generalize val l2=b at*
 go_upto_if 17 with (fail)
 go_cut [0,1] (fun s0 s1 wx=>∃ad1 m1 c1 ad2 m2 c2 x y,s0=.slice ad1 m1 c1∧s1=.slice ad2 m2 c2∧LimR w ad1 m1 c1 (lmb x)∧LimR w ad2 m2 c2 (lmb y)∧m2≤m1∧m1≤17592186044416∧Hid (a+b=x+y)∧w=wx)
 case first=>
  rcases Nat.lt_or_ge m1 m2 with hlt|hge
  ·go_wp2_with fail
   go_meet
   exact ⟨_,_,_,_,_,_,b,a,rfl,rfl,g2,g1,by omega,by omega,Nat.add_comm a b,rfl⟩
  ·go_wp2_with fail
   go_meet
   exact ⟨_,_,_,_,_,_,a,b,rfl,rfl,g1,g2,by omega,by omega,rfl,rfl⟩
 case rest=>
  clear g1 g2
  obtain ⟨ad1,m1,c1,ad2,m2,c2,x,y,rfl,rfl,g1,g2,hm,hm1,HS,rfl⟩:=hcut
  have hmk:= Tryz.mkU32 ((m1:Int)+1) (m1+1) (by omega) (by omega)
  have HL1:=Lib.hid g1.len
  have HL2:=Lib.hid g2.len
  go_wp2_with fail
  clear hmk
  go_loopw [6,26] (fun s6 s26 wr=>∃k cy cur,k≤m1∧s26=.int .i64 (k:Nat)∧s6=.int .u64 (cy:Nat)∧cy≤1∧AddInv m1 k cy x y w wr cur) (fun _ i _=>m1-(intOf i).toNat)
  case atStart=>exact ⟨0,0,_,by omega,rfl,rfl,by omega,AddInv.start _ _ _ _⟩
  case round=>
   obtain ⟨k,cy,cur,hk,rfl,rfl,hcy,hI⟩:=hrel
   by_cases hlt:k<m1
   ·obtain ⟨b1,o1,u,rfl,hb1,hx,hu,HX⟩:=g1.at_ hlt
    have hx':=(hI.below.cell (p:=⟨b1,o1+k,none⟩) hb1).trans hx
    have ho:=hI.lb.cell (i:=k) (by rw [hI.len];omega)
    have hf:=hI.lb.frozen k
    clear hx
    by_cases hlt2:k<m2
    ·obtain ⟨b2,o2,v,rfl,hb2,hy,hv,HY⟩:=g2.at_ hlt2
     have hy':=(hI.below.cell (p:=⟨b2,o2+k,none⟩) hb2).trans hy
     clear hy
     go_wp2_with fail
     go_roundw
     case rel=>exact ⟨k+1,(cy+u+v) / 4294967296,_,by omega,by go_num,by go_num,by omega,hI.step hlt HX.out HY.out rfl⟩
     case measure=>simp [intOf];omega
    ·have HY:Hid ((lmb y).getD k 0=0):=WS (by rw [HL2.out];omega)
     go_wp2_with fail
     go_roundw
     case rel=>exact ⟨k+1,(cy+u+0) / 4294967296,_,by omega,by go_num,by go_num,by omega,hI.step hlt HX.out HY.out (by omega)⟩
     case measure=>simp [intOf];omega
   ·have e:k=m1:=by omega
    subst e
    have ho:=hI.lb.cell (i:=k) (by rw [hI.len];omega)
    have hf:=hI.lb.frozen k
    go_wp2_with fail
    obtain ⟨l,hl,hv,hb⟩:=hI.end_ (Nat.le_of_eq HL1.out) (by rw [HL2.out];exact hm) hcy
    refine (Yf _ hl (by omega)).mono ?_
    rintro e w1 ⟨ad3,n3,c3,rfl,g3,rfl⟩
    rw [hv,←HS.out] at g3
    clear hl hv
    go_wp2_with fail
    go_ret
    exact ⟨_,_,_,rfl,g3,hb⟩
end Go.Proofs.YtdaonnnlgfhlaaaGreatDoor
namespace Go.Proofs.YtdaonnnlgfhlaaaGreatDoor
open Go.RowKit
structure SubInv (m k bw:Nat) (a b:Nat) (w wr:World) (cur:List Nat):Prop where
 lb:LB wr w.heap.size cur
 len:cur.length=m
 sum:vt cur k+vt (lmb b) k+0=vt (lmb a) k+4294967296 ^ k*bw
 below:Below w.heap.size w wr
theorem SubInv.start(w:World)(m a b:Nat){w0:World}(hb:Below w.heap.size w w0)(he:w0.heap.size=w.heap.size):SubInv m 0 0 a b w (w0.alloc (.cells (madeCells #[.int .u32 0] m) 114)) (List.replicate m 0):=
 ⟨by rw [←he];exact LB.made w0 _,by simp,by simp [Yy],hb.alloc (by omega) _⟩
theorem SubInv.step{m k bw a b x y:Nat}{w wr:World}{cur:List Nat}(h:SubInv m k bw a b w wr cur)(hk:k<m)(hx:(lmb a).getD k 0=x)(hy:(lmb b).getD k 0=y){z:Int}{bz:Nat}(h0:0≤z)(h1:z<4294967296)(hz:z+bw+y=x+4294967296*(bz:Int)):
  SubInv m (k+1) bz a b w (wr.setCell ⟨w.heap.size,k,none⟩ (.int .u32 z)) (cur.set k z.toNat):=
 ⟨h.lb.setI k z h0 h1,by rw [List.length_set];exact h.len,ZnI (by rw [h.len];omega) hx hy (by omega) h.sum,h.below.setCell (Nat.le_refl _) _⟩
theorem SubInv.end_{m bw a b:Nat}{w wr:World}{cur:List Nat}(h:SubInv m m bw a b w wr cur)(ha:(lmb a).length≤m)(hb:(lmb b).length≤m)(hab:b≤a):
  ∃l,LimR wr (some ⟨w.heap.size,0,none⟩) m m l∧val l=a-b∧Below w.heap.size w wr:=by
 refine ⟨_,h.lb.read m h.len.symm,?_,h.below⟩
 have h2:=h.sum
 have h3:=JH h.lb.2 m
 rw [Z8 (lmb a) ha,Z8 (lmb b) hb,Zg,Zg] at h2
 have h4:bw=0:=by
  rcases Nat.eq_zero_or_pos bw with h0|h0
  ·exact h0
  ·have:4294967296 ^ m*1≤4294967296 ^ m*bw:=Nat.mul_le_mul_left _ h0
   omega
 subst h4
 rw [←Z8 cur (k:=m) (by rw [h.len];omega)]
 omega
def ZjT(k:Nat)(w:World)(e:Ending)(w':World):Prop:=∃ad n c,e=.returned (.tuple #[.slice ad n c,.int .i64 0])∧LimR w' ad n c (lmb k)∧Below w.heap.size w w'
set_option maxHeartbeats 1600000 in
theorem Zgz(w:World){ad1 ad2:Option Addr}{n1 n2 c1 c2:Nat}{l1 l2:List Nat}(h1:LimR w ad1 n1 c1 l1)(h2:LimR w ad2 n2 c2 l2)(hn1:n1≤17592186044416)(hn2:n2≤17592186044416)(hle:val l2≤val l1):
  Calls Tryz.prog 143 #[.slice ad1 n1 c1,.slice ad2 n2 c2] w (ZjT (val l1-val l2) w):=by
 go_enter Tryz.func143, Tryz.ntmps143
 go_wp2_with fail
 refine (Yf w h1 (by omega)).mono ?_
 rintro e w1 ⟨ad1',m1,c1',rfl,g1,rfl⟩
 have hm1:m1≤n1:=by rw [←g1.len,←h1.len];exact Zn h1.lim
 go_wp2_with fail
 refine (Yf _ h2 (by omega)).mono ?_
 rintro e w1 ⟨ad2',m2,c2',rfl,g2,rfl⟩
 have hm2:m2≤n2:=by rw [←g2.len,←h2.len];exact Zn h2.lim
 clear h1 h2
 generalize val l1=a at*
 generalize val l2=b at*
 have hlen:m2≤m1:=by rw [←g1.len,←g2.len];exact Zw hle
 go_wp2_with fail
 refine (Vv w g1 g2 (by omega) (by omega)).mono ?_
 rintro e w1 ⟨rfl,d,rfl⟩
 rw [Zg,Zg]
 have hc:=Zbt hle
 generalize QW a b=cc at*
 have hmk:= Tryz.mkU32 (m1:Int) m1 (by omega) (by omega)
 have HL1:=Lib.hid g1.len
 have HL2:=Lib.hid g2.len
 go_wp2_with fail
 clear hmk
 go_loopw [7,24] (fun s7 s24 wr=>∃k bw cur,k≤m1∧s24=.int .i64 (k:Nat)∧s7=.int .u64 (bw:Nat)∧bw≤1∧SubInv m1 k bw a b w wr cur) (fun _ i _=>m1-(intOf i).toNat)
 case atStart=>exact ⟨0,0,_,by omega,rfl,rfl,by omega,SubInv.start w m1 a b (w0:=w.drewN d) (below_drewN (Below.refl _ _) _) rfl⟩
 case round=>
  obtain ⟨k,bw,cur,hk,rfl,rfl,hbw,hI⟩:=hrel
  by_cases hlt:k<m1
  ·obtain ⟨b1,o1,u,rfl,hb1,hx,hu,HX⟩:=g1.at_ hlt
   have hx':=(hI.below.cell (p:=⟨b1,o1+k,none⟩) hb1).trans hx
   have ho:=hI.lb.cell (i:=k) (by rw [hI.len];omega)
   have hf:=hI.lb.frozen k
   clear hx
   by_cases hlt2:k<m2
   ·obtain ⟨b2,o2,v,rfl,hb2,hy,hv,HY⟩:=g2.at_ hlt2
    have hy':=(hI.below.cell (p:=⟨b2,o2+k,none⟩) hb2).trans hy
    clear hy
    have HI:=Lib.hid hI
    clear hI
    rcases Nat.lt_or_ge u (bw+v) with hlo|hhi
    ·rcases Nat.lt_or_ge u bw with hlo2|hhi2
     ·go_wp2_with fail
      go_roundw
      case rel=>exact ⟨k+1,1,_,by omega,by go_num,Qu (by rw [ZF,ZF];omega),by omega,HI.out.step hlt HX.out HY.out (by omega) (by omega) (by rw [ZF,ZF];omega)⟩
      case measure=>simp [intOf];omega
     ·go_wp2_with fail
      go_roundw
      case rel=>exact ⟨k+1,1,_,by omega,by go_num,Qu (by rw [ZF];omega),by omega,HI.out.step hlt HX.out HY.out (by omega) (by omega) (by rw [ZF];omega)⟩
      case measure=>simp [intOf];omega
    ·go_wp2_with fail
     go_roundw
     case rel=>exact ⟨k+1,0,_,by omega,by go_num,Qu (by omega),by omega,HI.out.step hlt HX.out HY.out (by omega) (by omega) (by omega)⟩
     case measure=>simp [intOf];omega
   ·have HY:Hid ((lmb b).getD k 0=0):=WS (by rw [HL2.out];omega)
    have HI:=Lib.hid hI
    clear hI
    rcases Nat.lt_or_ge u bw with hlo2|hhi2
    ·go_wp2_with fail
     go_roundw
     case rel=>exact ⟨k+1,1,_,by omega,by go_num,Qu (by rw [ZF];omega),by omega,HI.out.step hlt HX.out HY.out (by omega) (by omega) (by rw [ZF];omega)⟩
     case measure=>simp [intOf];omega
    ·go_wp2_with fail
     go_roundw
     case rel=>exact ⟨k+1,0,_,by omega,by go_num,Qu (by omega),by omega,HI.out.step hlt HX.out HY.out (by omega) (by omega) (by omega)⟩
     case measure=>simp [intOf];omega
  ·have e:k=m1:=by omega
   subst e
   go_wp2_with fail
   obtain ⟨l,hl,hv,hb⟩:=hI.end_ (Nat.le_of_eq HL1.out) (by rw [HL2.out];exact hlen) hle
   refine (Yf _ hl (by omega)).mono ?_
   rintro e w1 ⟨ad3,n3,c3,rfl,g3,rfl⟩
   rw [hv] at g3
   clear hl hv
   go_wp2_with fail
   go_ret2
   exact ⟨_,_,_,rfl,g3,hb⟩
end Go.Proofs.YtdaonnnlgfhlaaaGreatDoor
namespace Go.Proofs.YtdaonnnlgfhlaaaGreatDoor
open Go.RowKit
structure MulInv (m n i:Nat) (a b:Nat) (w wr:World) (cur:List Nat):Prop where
 lb:LB wr w.heap.size cur
 len:cur.length=m+n
 sum:vt cur (i+n)=vt (lmb a) i*b
 below:Below w.heap.size w wr
structure MulIn (m n i k cy x:Nat) (b:Nat) (w wr:World) (cur0 cur:List Nat):Prop where
 lb:LB wr w.heap.size cur
 len:cur.length=m+n
 sum:vt cur (i+k)+4294967296 ^ (i+k)*cy=vt cur0 (i+k)+4294967296 ^ i*x*vt (lmb b) k
 rest:∀j,i+k≤j→cur.getD j 0=cur0.getD j 0
 below:Below w.heap.size w wr
theorem MulInv.start(w:World)(m n a b:Nat):MulInv m n 0 a b w (w.alloc (.cells (madeCells #[.int .u32 0] (m+n)) 114)) (List.replicate (m+n) 0):=
 ⟨LB.made w _,by simp,by rw [Yy,Nat.zero_mul];unfold vt;rw [List.take_replicate,WN],(Below.refl _ _).alloc (Nat.le_refl _) _⟩
theorem MulInv.row{m n i a b:Nat}{w wr:World}{cur:List Nat}(h:MulInv m n i a b w wr cur)(x:Nat):MulIn m n i 0 0 x b w wr cur cur:=
 ⟨h.lb,h.len,by simp [Yy],fun _ _=>rfl,h.below⟩
theorem MulIn.step{m n i k cy x b y o:Nat}{w wr:World}{cur0 cur:List Nat}(h:MulIn m n i k cy x b w wr cur0 cur)(hi:i<m)(hk:k<n)(hy:(lmb b).getD k 0=y)(ho:cur.getD (i+k) 0=o){z:Int}(hz:z=(cy:Int)+((x:Int)*y+o)):
  MulIn m n i (k+1) ((cy+(x*y+o)) / 4294967296) x b w (wr.setCell ⟨w.heap.size,i+k,none⟩ (.int .u32 (z % 4294967296))) cur0 (cur.set (i+k) ((cy+(x*y+o)) % 4294967296)):=by
 subst hz
 have e:((cy:Int)+((x:Int)*y+o)) % 4294967296=(((cy+(x*y+o)) % 4294967296:Nat):Int):=by
  rw [←Int.natCast_mul];omega
 rw [e]
 refine ⟨h.lb.set_ _ _ (by omega),by rw [List.length_set];exact h.len,Zgn (by rw [h.len];omega) hy ((h.rest _ (Nat.le_refl _)).symm.trans ho) h.sum,fun j hj=>?_,h.below.setCell (Nat.le_refl _) _⟩
 rw [VU _ (by omega)]
 exact h.rest j (by omega)
theorem MulIn.end_{m n i cy x a b:Nat}{w wr wr0:World}{cur0 cur:List Nat}(h:MulIn m n i n cy x b w wr cur0 cur)(h0:MulInv m n i a b w wr0 cur0)(hi:i<m)(hb:(lmb b).length≤n)(hx:(lmb a).getD i 0=x)(hcy:cy<4294967296):
  MulInv m n (i+1) a b w (wr.setCell ⟨w.heap.size,i+n,none⟩ (.int .u32 cy)) (cur.set (i+n) cy):=by
 refine ⟨h.lb.set_ _ _ hcy,by rw [List.length_set];exact h.len,?_,h.below.setCell (Nat.le_refl _) _⟩
 rw [show i+1+n=(i+n)+1 by omega,VK cur (by rw [h.len];omega),h.sum,h0.sum,Z8 (lmb b) hb,Zg,ZQ,hx,Nat.add_mul]
set_option maxHeartbeats 1600000 in
theorem KD(w:World){ad1 ad2:Option Addr}{n1 n2 c1 c2:Nat}{l1 l2:List Nat}(h1:LimR w ad1 n1 c1 l1)(h2:LimR w ad2 n2 c2 l2)(hn1:n1≤17592186044416)(hn2:n2≤17592186044416):
  Calls Tryz.prog 76 #[.slice ad1 n1 c1,.slice ad2 n2 c2] w (RetN (val l1*val l2) w):=by
 go_enter Tryz.func76, Tryz.ntmps76
 go_wp2_with fail
 refine (Yf w h1 (by omega)).mono ?_
 rintro e w1 ⟨ad1',m1,c1',rfl,g1,rfl⟩
 have hm1:m1≤n1:=by rw [←g1.len,←h1.len];exact Zn h1.lim
 go_wp2_with fail
 refine (Yf _ h2 (by omega)).mono ?_
 rintro e w1 ⟨ad2',m2,c2',rfl,g2,rfl⟩
 have hm2:m2≤n2:=by rw [←g2.len,←h2.len];exact Zn h2.lim
 clear h1 h2
 generalize val l1=a at*
 generalize val l2=b at*
 by_cases hz:m1=0∨m2=0
 ·have hab:Hid (a*b=0):=by
   rcases hz with h0|h0
   ·rw [←g1.len] at h0;rw [ZZ.1 h0];exact Nat.zero_mul b
   ·rw [←g2.len] at h0;rw [ZZ.1 h0];exact Nat.mul_zero a
  rcases Nat.eq_zero_or_pos m1 with e1|e1
  ·have e1':((m1:Int)==0)=true:=by simp;omega
   clear hz e1
   go_wp2_with fail
   go_ret
   exact ⟨_,_,_,rfl,by rw [hab.out];exact LimR.nil _ _ _,Below.refl _ _⟩
  ·have e2':((m2:Int)==0)=true:=by simp;omega
   have e1':((m1:Int)==0)=false:=by simp;omega
   clear hz
   go_wp2_with fail
   go_ret
   exact ⟨_,_,_,rfl,by rw [hab.out];exact LimR.nil _ _ _,Below.refl _ _⟩
 ·have e1':((m1:Int)==0)=false:=by simp;omega
  have e2':((m2:Int)==0)=false:=by simp;omega
  have hmk:= Tryz.mkU32 ((m1:Int)+m2) (m1+m2) (by omega) (by omega)
  have HL1:=Lib.hid g1.len
  have HL2:=Lib.hid g2.len
  clear hz
  go_wp2_with fail
  clear hmk e1' e2'
  go_loopw [31] (fun s31 wr=>∃i cur,i≤m1∧s31=.int .i64 (i:Nat)∧MulInv m1 m2 i a b w wr cur) (fun i _=>m1-(intOf i).toNat)
  case atStart=>exact ⟨0,_,by omega,rfl,MulInv.start _ _ _ _ _⟩
  case round=>
   obtain ⟨i,cur0,hi,rfl,hO⟩:=hrel
   by_cases hlt:i<m1
   ·obtain ⟨b1,o1,x,rfl,hb1,hx,hu,HX⟩:=g1.at_ hlt
    have hx':=(hO.below.cell (p:=⟨b1,o1+i,none⟩) hb1).trans hx
    clear hx
    obtain ⟨wo,rfl⟩:∃wo:World,wo=wr:=⟨_,rfl⟩
    go_wp2_with fail
    go_loopw [8,38] (fun s8 s38 wr=>∃k cy cur,k≤m2∧s38=.int .i64 (k:Nat)∧s8=.int .u64 (cy:Nat)∧cy<4294967296∧MulIn m1 m2 i k cy x b w wr cur0 cur) (fun _ k _=>m2-(intOf k).toNat)
    case atStart=>exact ⟨0,0,_,by omega,rfl,rfl,by omega,hO.row x⟩
    case round=>
     obtain ⟨k,cy,cur,hk,rfl,rfl,hcy,hI⟩:=hrel
     clear hx'
     by_cases hlt2:k<m2
     ·obtain ⟨b2,o2,y,rfl,hb2,hy,hv,HY⟩:=g2.at_ hlt2
      have hy':=(hI.below.cell (p:=⟨b2,o2+k,none⟩) hb2).trans hy
      clear hy
      have ho:=hI.lb.cell (i:=i+k) (by rw [hI.len];omega)
      have hf:=hI.lb.frozen (i+k)
      obtain ⟨o,hoo⟩:∃o:Nat,cur.getD (i+k) 0=o:=⟨_,rfl⟩
      have holt:o<4294967296:=by rw [←hoo];exact Ye hI.lb.2 _
      rw [hoo] at ho
      have HO:=Lib.hid hoo
      clear hoo
      obtain ⟨hxy,hcy'⟩:=Zi1 (cy:=cy) hu hv holt hcy
      have hxy':(x:Int)*y≤18446744065119617025:=by rw [←Int.natCast_mul];omega
      have hxy0:(0:Int)≤(x:Int)*y:=by rw [←Int.natCast_mul];omega
      have HI:=Lib.hid hI
      clear hI
      go_wp2_with fail
      go_roundw
      case rel=>exact ⟨k+1,_,_,by omega,by go_num,Qu (by rw [←Int.natCast_mul];omega),hcy',HI.out.step hlt hlt2 HY.out HO.out (by omega)⟩
      case measure=>simp [intOf];omega
     ·have e:k=m2:=by omega
      subst e
      have ho:=hI.lb.cell (i:=i+k) (by rw [hI.len];omega)
      have hf:=hI.lb.frozen (i+k)
      go_wp2_with fail
      go_roundw
      case rel=>exact ⟨i+1,_,by omega,by go_num,hI.end_ hO hlt (Nat.le_of_eq HL2.out) HX.out hcy⟩
      case measure=>simp [intOf];omega
   ·have e:i=m1:=by omega
    subst e
    go_wp2_with fail
    refine (Yf _ (hO.lb.read (i+m2) hO.len.symm) (by omega)).mono ?_
    rintro e w1 ⟨ad3,n3,c3,rfl,g3,rfl⟩
    have hv:=hO.sum
    rw [Z8 cur0 (Nat.le_of_eq hO.len),Z8 (lmb a) (Nat.le_of_eq HL1.out),Zg] at hv
    rw [hv] at g3
    clear hv
    go_wp2_with fail
    go_ret
    exact ⟨_,_,_,rfl,g3,hO.below⟩
end Go.Proofs.YtdaonnnlgfhlaaaGreatDoor
namespace Go.Proofs
open Go.Shelf
def Tryz.lays128_ren:Go.Shelf.Ren:=⟨fun|128=> 129 | n=>n,fun|51=> 114 | 3=> 3 | 4=> 4 | 46=> 116 | 5=> 5 | 9=> 9 | n=>n,fun|n=>n⟩
theorem Tryz.lays128:Go.Proofs.Lays.n128 Tryz.prog Tryz.lays128_ren:={
 mixed:=by kernel_rfl
 f128:= Tryz.func129.trans (congrArg some (by kernel_rfl))
 t3:= Tryz.underlying3
 a3:= Tryz.isAgg3
 z3:= Tryz.sizeOf3
 v3:= Tryz.zeroValue3
 t4:= Tryz.underlying4
 a4:= Tryz.isAgg4
 z4:= Tryz.sizeOf4
 v4:= Tryz.zeroValue4
 t5:= Tryz.underlying5
 a5:= Tryz.isAgg5
 z5:= Tryz.sizeOf5
 v5:= Tryz.zeroValue5
 t9:= Tryz.underlying9
 a9:= Tryz.isAgg9
 z9:= Tryz.sizeOf9
 v9:= Tryz.zeroValue9
 t46:= Tryz.underlying116
 a46:= Tryz.isAgg116
 z46:= Tryz.sizeOf116
 v46:= Tryz.zeroValue116
 t51:= Tryz.underlying114
 a51:= Tryz.isAgg114
 z51:= Tryz.sizeOf114
 v51:= Tryz.zeroValue114}
theorem Tryz.bits_Len32(x:Int)(w:World)(h0:0≤x)(h1:x≤4294967295):
  Calls Tryz.prog 129 #[.int .u32 x] w fun e w'=>e=.returned (.int .i64 (Lib.bitLen x.toNat))∧w'=w:=Any.bits_Len32 Tryz.lays128 x w h0 h1
def Tryz.lays133_ren:Go.Shelf.Ren:=⟨fun|133=> 133 | 128=> 129 | n=>n,fun|51=> 114 | 3=> 3 | 4=> 4 | 46=> 116 | 5=> 5 | 9=> 9 | n=>n,fun|n=>n⟩
theorem Tryz.lays133:Go.Proofs.Lays.n133 Tryz.prog Tryz.lays133_ren:={
 mixed:=by kernel_rfl
 f128:= Tryz.func129.trans (congrArg some (by kernel_rfl))
 f133:= Tryz.func133.trans (congrArg some (by kernel_rfl))
 t3:= Tryz.underlying3
 a3:= Tryz.isAgg3
 z3:= Tryz.sizeOf3
 v3:= Tryz.zeroValue3
 t4:= Tryz.underlying4
 a4:= Tryz.isAgg4
 z4:= Tryz.sizeOf4
 v4:= Tryz.zeroValue4
 t5:= Tryz.underlying5
 a5:= Tryz.isAgg5
 z5:= Tryz.sizeOf5
 v5:= Tryz.zeroValue5
 t9:= Tryz.underlying9
 a9:= Tryz.isAgg9
 z9:= Tryz.sizeOf9
 v9:= Tryz.zeroValue9
 t46:= Tryz.underlying116
 a46:= Tryz.isAgg116
 z46:= Tryz.sizeOf116
 v46:= Tryz.zeroValue116
 t51:= Tryz.underlying114
 a51:= Tryz.isAgg114
 z51:= Tryz.sizeOf114
 v51:= Tryz.zeroValue114}
theorem Tryz.bits_LeadingZeros32(x:Int)(w:World)(h0:0≤x)(h1:x≤4294967295):
  Calls Tryz.prog 133 #[.int .u32 x] w fun e w'=>e=.returned (.int .i64 (32-(Lib.bitLen x.toNat:Int)))∧w'=w:=Any.bits_LeadingZeros32 Tryz.lays133 x w h0 h1
end Go.Proofs
namespace Go.Proofs.YtdaonnnlgfhlaaaGreatDoor
open Go.RowKit
theorem Zb7(x:Nat)(hx:x<4294967296)(h0:0<x):0<Lib.bitLen x∧2 ^ (Lib.bitLen x-1)≤x∧x<2 ^ Lib.bitLen x∧Lib.bitLen x≤32:=by
 induction x using Nat.strongRecOn with
 | _ x ih=>
   rw [Lib.bitLen_half x (by omega) (by omega)]
   rcases Nat.eq_zero_or_pos (x / 2) with hz|hz
   ·have:x=1:=by omega
    subst this
    decide
   ·obtain ⟨h1,h2,h3,h4⟩:=ih (x / 2) (by omega) (by omega) hz
    generalize Lib.bitLen (x / 2)=k at*
    obtain ⟨j,rfl⟩:∃j,k=j+1:=⟨k-1,by omega⟩
    simp only [Nat.add_sub_cancel,Nat.add_sub_cancel_left] at*
    have e1:2 ^ (1+(j+1))=4*2 ^ j:=by rw [Nat.pow_add,Nat.pow_add];omega
    have e2:2 ^ (j+1)=2*2 ^ j:=by rw [Nat.pow_add];omega
    refine ⟨by omega,by omega,by omega,?_⟩
    rcases Nat.lt_or_ge j 31 with h|h
    ·omega
    ·exfalso
     have:2 ^ 31≤2 ^ j:=Nat.pow_le_pow_right (by omega) h
     omega
theorem Zlb(w:World)(x:Nat)(h:x<4294967296):Calls Tryz.prog 129 #[.int .u32 (x:Int)] w fun e w'=>e=.returned (.int .i64 (Lib.bitLen x:Nat))∧w=w':=
 (Tryz.bits_Len32 (x:Int) w (by omega) (by omega)).mono fun _ _ ⟨he,hw⟩=>⟨by rw [he,Int.toNat_natCast],hw.symm⟩
theorem Zrd(w:World)(x:Nat)(h:x<4294967296):Calls Tryz.prog 133 #[.int .u32 (x:Int)] w fun e w'=>e=.returned (.int .i64 (32-(Lib.bitLen x:Int)))∧w=w':=
 (Tryz.bits_LeadingZeros32 (x:Int) w (by omega) (by omega)).mono fun _ _ ⟨he,hw⟩=>⟨by rw [he,Int.toNat_natCast],hw.symm⟩
def Zno(k:Nat)(w:World)(e:Ending)(w':World):Prop:=∃b:Int,e=.returned (.int .i64 b)∧0≤b∧Hid (b=0↔k=0)∧w=w'
set_option maxHeartbeats 800000 in
theorem ZbL(w:World){ad:Option Addr}{n c:Nat}{l:List Nat}(h:LimR w ad n c l)(hn:n≤17592186044416):
  Calls Tryz.prog 103 #[.slice ad n c] w (Zno (val l) w):=by
 go_enter Tryz.func103, Tryz.ntmps103
 go_wp2_with fail
 refine (Yf w h (by omega)).mono ?_
 rintro e w1 ⟨ad1,m,c1,rfl,g,rfl⟩
 have hm:m≤n:=by rw [←g.len,←h.len];exact Zn h.lim
 clear h
 generalize val l=a at*
 rcases Nat.eq_zero_or_pos m with h0|h0
 ·have HA:Hid (a=0):=by
   have:=g.len;rw [h0] at this;exact ZZ.1 this
  have e1:((m:Int)==0)=true:=by simp;omega
  clear h0
  go_wp2_with fail
  go_ret
  exact ⟨0,rfl,by omega,⟨fun _=>HA.out,fun _=>rfl⟩,rfl⟩
 ·obtain ⟨b,o,x,rfl,_,hx,hu,HX⟩:=g.at_ (show m-1<m by omega)
  have hx0:0<x:=by
   rcases Nat.eq_zero_or_pos x with hz|hz
   ·exfalso
    rcases Zcp a with hc|hc
    ·have:=g.len;rw [hc] at this;simp at this;omega
    ·rw [g.len,HX.out] at hc;exact hc hz
   ·exact hz
  obtain ⟨k1,_,_,k4⟩:=Zb7 x hu hx0
  have e1:((m:Int)==0)=false:=by simp;omega
  have HA:Hid (a≠0):=fun e=>by have:=g.len;rw [ZZ.2 e] at this;omega
  go_wp2_with fail
  refine (Zlb _ x hu).mono ?_
  rintro e w1 ⟨rfl,rfl⟩
  generalize Lib.bitLen x=bl at*
  go_wp2_with fail
  go_ret
  exact ⟨_,rfl,by omega,⟨fun h=>by omega,fun h=>absurd h HA.out⟩,rfl⟩
def ZqD(k:Nat)(w:World)(e:Ending)(w':World):Prop:=e=.returned (.tuple #[.int .u64 (k:Int),.bool true])∧w=w'
set_option maxHeartbeats 800000 in
theorem ZbT(w:World){ad:Option Addr}{n c:Nat}{l:List Nat}(h:LimR w ad n c l)(hn:n≤17592186044416)(hk:val l<18446744073709551616):
  Calls Tryz.prog 131 #[.slice ad n c] w (ZqD (val l) w):=by
 go_enter Tryz.func131, Tryz.ntmps131
 go_wp2_with fail
 refine (Yf w h (by omega)).mono ?_
 rintro e w1 ⟨ad1,m,c1,rfl,g,rfl⟩
 have hm:m≤2:=by rw [←g.len];exact Yg hk
 clear h
 generalize val l=a at*
 have HL:=Lib.hid g.len
 go_wp2_with fail
 go_loopw [4,14] (fun s4 s14 wr=>∃k x,k≤m∧s14=.int .i64 (k:Nat)∧s4=.int .u64 (x:Nat)∧Hid (x=vt (lmb a) k)∧w=wr) (fun _ i _=>m-(intOf i).toNat)
 case atStart=>exact ⟨0,0,by omega,rfl,rfl,(Yy _).symm,rfl⟩
 case round=>
  obtain ⟨k,x,hkm,rfl,rfl,HX,rfl⟩:=hrel
  by_cases hlt:k<m
  ·obtain ⟨b,o,y,rfl,_,hy,hu,HY⟩:=g.at_ hlt
   have hxl:x<4294967296 ^ k:=by rw [HX.out];exact JH (Yq a) k
   have HS:=Lib.hid (ZQ (lmb a) k)
   rcases (show k=0∨k=1 by omega) with rfl|rfl
   ·obtain rfl:x=0:=by omega
    rw [Nat.add_zero] at hy
    go_wp2_with fail
    go_roundw
    case rel=>exact ⟨1,y,by omega,by go_num,Qu (ZlZ y (by omega)),by show y=vt (lmb a) (0+1);rw [HS.out,HY.out,Yy];omega,trivial⟩
    case measure=>simp [intOf];omega
   ·have hxl:x<4294967296:=by omega
    go_wp2_with fail
    go_roundw
    case rel=>exact ⟨2,_,by omega,by go_num,Qu (ZfI x y hxl hu),by show x+y*4294967296=vt (lmb a) (1+1);rw [HS.out,HY.out,←HX.out];omega,trivial⟩
    case measure=>simp [intOf];omega
  ·have e:k=m:=by omega
   subst e
   have HE:Hid (x=a):=by have:=HX.out;rwa [Z8 _ (Nat.le_of_eq HL.out),Zg] at this
   go_wp2_with fail
   go_ret2
   exact ⟨by rw [HE.out];rfl,rfl⟩
end Go.Proofs.YtdaonnnlgfhlaaaGreatDoor
namespace Go.Proofs.YtdaonnnlgfhlaaaGreatDoor
open Go.RowKit
structure LeftInv (n k i:Nat) (l:List Nat) (w wr:World) (cur:List Nat):Prop where
 lb:LB wr w.heap.size cur
 len:cur.length=n+1
 sum:vt cur (i+1)=vt l i*2 ^ k
 low:cur.getD i 0<2 ^ k
 below:Below w.heap.size w wr
theorem LeftInv.start(w:World)(n k:Nat)(l:List Nat):LeftInv n k 0 l w (w.alloc (.cells (madeCells #[.int .u32 0] (n+1)) 114)) (List.replicate (n+1) 0):=
 ⟨LB.made w _,by simp,by rw [Yy,Nat.zero_mul];unfold vt;rw [List.take_replicate,WN],by simp [List.replicate_succ];exact Nat.two_pow_pos k,(Below.refl _ _).alloc (Nat.le_refl _) _⟩
theorem LeftInv.step{n k i y o:Nat}{l:List Nat}{w wr:World}{cur:List Nat}(h:LeftInv n k i l w wr cur)(hi:i<n)(hk:k≤32)(hy:l.getD i 0=y)(hu:y<4294967296)(ho:cur.getD i 0=o):
  LeftInv n k (i+1) l w ((wr.setCell ⟨w.heap.size,i,none⟩ (.int .u32 (bits .or .u32 (o:Int) (IntKind.u64.wrap ((y:Int)*2 ^ k) % 4294967296)))).setCell ⟨w.heap.size,i+1,none⟩ (.int .u32 (IntKind.u64.wrap ((y:Int)*2 ^ k) / 4294967296 % 4294967296)))
   ((cur.set i (o+(y*2 ^ k) % 4294967296)).set (i+1) ((y*2 ^ k) / 4294967296)):=by
 have hlow:=h.low
 rw [ho] at hlow
 have h2:=Ze3 hu hk
 have h3:=Zbr hk
 have h4:o+(y*2 ^ k) % 4294967296<4294967296:=by
  rw [Zjh y hk]
  have:(y % 2 ^ (32-k)+1)*2 ^ k≤2 ^ (32-k)*2 ^ k:=Nat.mul_le_mul_right _ (Nat.mod_lt _ (Nat.two_pow_pos _))
  rw [Zbz hk,Nat.add_mul] at this
  omega
 rw [ZtY hlow hu hk,ZCE hu hk]
 refine ⟨(h.lb.set_ i _ h4).set_ (i+1) _ (by omega),by rw [List.length_set,List.length_set];exact h.len,Zlm (by rw [h.len];omega) hy ho h.sum,?_,(h.below.setCell (Nat.le_refl _) _).setCell (Nat.le_refl _) _⟩
 rw [KC _ (by rw [List.length_set,h.len];omega)]
 exact h2.2
def ZqO(n v:Nat)(w:World)(e:Ending)(w':World):Prop:=
 ∃g cur,e=.returned (.slice (some ⟨g,0,none⟩) (n+1) (n+1))∧LB w' g cur∧w.heap.size≤g∧cur.length=n+1∧val cur=v∧Below w.heap.size w w'
set_option maxHeartbeats 1600000 in
theorem Zew(w:World){ad:Option Addr}{n c k:Nat}{l:List Nat}(h:LimR w ad n c l)(hn:n≤17592186044416)(hk:k≤32):
  Calls Tryz.prog 134 #[.slice ad n c,.int .i64 (k:Int)] w (ZqO n (val l*2 ^ k) w):=by
 have hmk:= Tryz.mkU32 ((n:Int)+1) (n+1) (by omega) (by omega)
 have HLL:=Lib.hid h.len
 go_enter Tryz.func134, Tryz.ntmps134
 go_wp2_with fail
 clear hmk
 go_loopw [15] (fun s15 wr=>∃i cur,i≤n∧s15=.int .i64 (i:Nat)∧LeftInv n k i l w wr cur) (fun i _=>n-(intOf i).toNat)
 case atStart=>exact ⟨0,_,by omega,rfl,LeftInv.start _ _ _ _⟩
 case round=>
  obtain ⟨i,cur,hi,rfl,hI⟩:=hrel
  by_cases hlt:i<n
  ·obtain ⟨b,o,y,rfl,hbb,hy,hu,HY⟩:=h.at_ hlt
   have hy':=(hI.below.cell (p:=⟨b,o+i,none⟩) hbb).trans hy
   have ho:=hI.lb.cell (i:=i) (by rw [hI.len];omega)
   have hf:=hI.lb.frozen i
   have ho1:=hI.lb.cell (i:=i+1) (by rw [hI.len];omega)
   have hf1:=hI.lb.frozen (i+1)
   clear hy
   obtain ⟨x,hx⟩:∃x:Nat,cur.getD i 0=x:=⟨_,rfl⟩
   rw [hx] at ho
   have HX:=Lib.hid hx
   clear hx
   have HI:=Lib.hid hI
   clear hI
   go_wp2_with fail
   go_roundw
   case rel=>exact ⟨i+1,_,by omega,by go_num,HI.out.step hlt hk HY.out hu HX.out⟩
   case measure=>simp [intOf];omega
  ·have e:i=n:=by omega
   subst e
   go_wp2_with fail
   go_ret
   have hs:=hI.sum
   rw [Z8 cur (Nat.le_of_eq hI.len),Z8 l (Nat.le_of_eq HLL.out)] at hs
   exact ⟨_,cur,rfl,hI.lb,Nat.le_refl _,hI.len,hs,hI.below⟩
theorem Zba(x y:Nat)(hx:x<4294967296)(hy:y<4294967296):bits .or .u64 ((x:Int)*4294967296) (y:Int)=((x*4294967296+y:Nat):Int):=by
 rw [show ((x:Int)*4294967296)=((x*4294967296:Nat):Int) by omega,u64_or_nat _ _ (by omega) (by omega),Nat.or_comm]
 rw [show (4294967296:Nat)=2 ^ 32 from rfl,ZgO y x 32 (by omega),Nat.add_comm]
theorem Zu1(a b:Nat):(a:Int).tdiv (b:Int)=((a / b:Nat):Int):=rfl
theorem Zkm(a b:Nat):(a:Int).tmod (b:Int)=((a % b:Nat):Int):=rfl
theorem Zuz{r y d:Nat}(hr:r<d)(hy:y<4294967296)(hd:d<4294967296):IntKind.u64.wrap ((bits .or .u64 ((r:Int)*4294967296) (y:Int)).tdiv (d:Int)) % 4294967296=(((r*4294967296+y) / d:Nat):Int):=by
 have:=ZhQ hr hy hd
 rw [Zba _ _ (by omega) hy,Zu1,ZF]
 generalize (r*4294967296+y) / d=q at*
 omega
structure ShortInv (n i d r:Nat) (l:List Nat) (w wr:World) (cur:List Nat):Prop where
 lb:LB wr w.heap.size cur
 len:cur.length=n
 llen:l.length=n
 sum:val (l.drop i)=d*val (cur.drop i)+r
 below:Below w.heap.size w wr
theorem ShortInv.start(w:World)(n d:Nat){l:List Nat}(hl:l.length=n):ShortInv n n d 0 l w (w.alloc (.cells (madeCells #[.int .u32 0] n) 114)) (List.replicate n 0):=
 ⟨LB.made w _,by simp,hl,by rw [List.drop_of_length_le (by omega),List.drop_of_length_le (by simp)];simp [val],(Below.refl _ _).alloc (Nat.le_refl _) _⟩
theorem ShortInv.step{n i d r y:Nat}{l:List Nat}{w wr:World}{cur:List Nat}(h:ShortInv n (i+1) d r l w wr cur)(hi:i<n)(hr:r<d)(hy:l.getD i 0=y)(hu:y<4294967296)(hd:d<4294967296):
  ShortInv n i d ((r*4294967296+y) % d) l w (wr.setCell ⟨w.heap.size,i,none⟩ (.int .u32 ((((r*4294967296+y) / d:Nat):Int)))) (cur.set i ((r*4294967296+y) / d)):=
 ⟨h.lb.set_ i _ (ZhQ hr hu hd),by rw [List.length_set];exact h.len,h.llen,Ziq (by rw [h.len];exact hi) (by rw [h.llen];exact hi) hy (by omega) h.sum,h.below.setCell (Nat.le_refl _) _⟩
def ZzP(q r:Nat)(w:World)(e:Ending)(w':World):Prop:=
 ∃a1 n1 c1 a2 n2 c2,e=.returned (.tuple #[.slice a1 n1 c1,.slice a2 n2 c2])∧LimR w' a1 n1 c1 (lmb q)∧LimR w' a2 n2 c2 (lmb r)∧Below w.heap.size w w'
set_option maxHeartbeats 1600000 in
theorem ZiL(w:World){ad:Option Addr}{n c d:Nat}{l:List Nat}(h:LimR w ad n c l)(hn:n≤17592186044416)(hd:d<4294967296)(hd0:0<d):
  Calls Tryz.prog 132 #[.slice ad n c,.int .u32 (d:Int)] w (ZzP (val l / d) (val l % d) w):=by
 have hmk:= Tryz.mkU32 (n:Int) n (by omega) (by omega)
 have HLL:=Lib.hid h.len
 go_enter Tryz.func132, Tryz.ntmps132
 go_wp2_with fail
 clear hmk
 go_loopw [7,8] (fun s7 s8 wr=>∃i r cur,i≤n∧s8=.int .i64 ((i:Int)-1)∧s7=.int .u64 (r:Nat)∧r<d∧ShortInv n i d r l w wr cur) (fun _ i _=>(intOf i+1).toNat)
 case atStart=>exact ⟨n,0,_,by omega,by go_num,rfl,hd0,ShortInv.start _ _ _ HLL.out⟩
 case round=>
  obtain ⟨k,r,cur,hk,rfl,rfl,hr,hI⟩:=hrel
  rcases Nat.eq_zero_or_pos k with rfl|hpos
  ·go_wp2_with fail
   have hs:=hI.sum
   rw [List.drop_zero,List.drop_zero] at hs
   have HQ:Hid (val cur=val l / d):=by rw [hs,Nat.mul_add_div hd0,Nat.div_eq_of_lt hr];rfl
   have HR:Hid (r=val l % d):=by rw [hs,Nat.mul_add_mod,Nat.mod_eq_of_lt hr];exact rfl
   clear hs
   refine (Yf _ (hI.lb.read n hI.len.symm) (by omega)).mono ?_
   rintro e w1 ⟨ad1,n1,c1,rfl,g1,rfl⟩
   rw [HQ.out] at g1
   go_wp2_with fail
   refine (Zbh _ _ (by omega) (by omega)).mono ?_
   rintro e w1 ⟨ad2,n2,c2,rfl,g2,hb2⟩
   rw [Int.toNat_natCast,HR.out] at g2
   go_wp2_with fail
   go_ret2
   exact ⟨_,_,_,_,_,_,rfl,g1.on hb2,g2,hI.below.trans (hb2.mono hI.below.size)⟩
  ·obtain ⟨i,rfl⟩:∃i,k=i+1:=⟨k-1,by omega⟩
   obtain ⟨b,o,y,rfl,hbb,hy,hu,HY⟩:=h.at_ (show i<n by omega)
   have hy':=(hI.below.cell (p:=⟨b,o+i,none⟩) hbb).trans hy
   have ho:=hI.lb.cell (i:=i) (by rw [hI.len];omega)
   have hf:=hI.lb.frozen i
   clear hy
   have ei:(((i+1:Nat):Int)-1)=(i:Int):=by omega
   rw [ei]
   clear ei
   have HI:=Lib.hid hI
   clear hI
   go_wp2_with fail
   go_roundw
   case rel=>
    refine ⟨i,(r*4294967296+y) % d,cur.set i ((r*4294967296+y) / d),by omega,by go_num,Qu (by rw [Zba _ _ (by omega) hu,Zkm]),Nat.mod_lt _ hd0,?_⟩
    rw [Zuz hr hu hd]
    exact HI.out.step (by omega) hr HY.out hu hd
   case measure=>simp [intOf]
structure ShrInv (n i N:Nat) (w wr:World) (cur:List Nat):Prop where
 lb:LB wr w.heap.size cur
 len:cur.length=n
 sum:vt cur i=N % 4294967296 ^ i
 below:Below w.heap.size w wr
theorem ShrInv.start(w:World)(n N:Nat):ShrInv n 0 N w (w.alloc (.cells (madeCells #[.int .u32 0] n) 114)) (List.replicate n 0):=
 ⟨LB.made w _,by simp,by rw [Yy,Nat.pow_zero,Nat.mod_one],(Below.refl _ _).alloc (Nat.le_refl _) _⟩
theorem ShrInv.step{n i N:Nat}{w wr:World}{cur:List Nat}(h:ShrInv n i N w wr cur)(hi:i<n){x:Nat}(hx:x=N / 4294967296 ^ i % 4294967296){z:Int}(hz:z=(x:Int)):
  ShrInv n (i+1) N w (wr.setCell ⟨w.heap.size,i,none⟩ (.int .u32 z)) (cur.set i x):=by
 subst hz
 exact ⟨h.lb.set_ i _ (by rw [hx];exact Nat.mod_lt _ (by omega)),by rw [List.length_set];exact h.len,ZqK (by rw [h.len];exact hi) hx h.sum,h.below.setCell (Nat.le_refl _) _⟩
theorem ZAu(x:Nat){k:Nat}(hk:k<32):(x:Int) / 2 ^ (k % 32) % 4294967296=((x / 2 ^ k % 4294967296:Nat):Int):=by
 rw [Nat.mod_eq_of_lt hk,Int.natCast_emod,Int.natCast_ediv,Int.natCast_pow];rfl
set_option maxHeartbeats 1600000 in
theorem Zrk(w:World){ad:Option Addr}{n c k:Nat}{l:List Nat}(h:LimR w ad n c l)(hn:n≤17592186044416)(hk:k<32):
  Calls Tryz.prog 137 #[.slice ad n c,.int .i64 (k:Int)] w (ZjT (val l / 2 ^ k) w):=by
 have hk0:(k:Int) / 32=0:=by omega
 go_enter Tryz.func137, Tryz.ntmps137
 go_wp2_with fail
 refine (Yf w h (by omega)).mono ?_
 rintro e w1 ⟨ad1,m,c1,rfl,g,rfl⟩
 have hm:m≤n:=by rw [←g.len,←h.len];exact Zn h.lim
 clear h
 generalize val l=a at*
 rcases Nat.eq_zero_or_pos m with rfl|h0
 ·have HA:Hid (a=0):=ZZ.1 g.len
  go_wp2_with fail
  go_ret2
  exact ⟨_,_,_,rfl,by rw [HA.out,Nat.zero_div];exact LimR.nil _ _ 0,Below.refl _ _⟩
 ·have hmk:= Tryz.mkU32 (m:Int) m (by omega) (by omega)
  have HL:=Lib.hid g.len
  go_wp2_with fail
  clear hmk
  go_loopw [32] (fun s32 wr=>∃i cur,i≤m∧s32=.int .i64 (i:Nat)∧ShrInv m i (a / 2 ^ k) w wr cur) (fun i _=>m-(intOf i).toNat)
  case atStart=>exact ⟨0,_,by omega,rfl,ShrInv.start _ _ _⟩
  case round=>
   obtain ⟨i,cur,hi,rfl,hI⟩:=hrel
   by_cases hlt:i<m
   ·obtain ⟨b,o,y,rfl,hbb,hy,hu,HY⟩:=g.at_ hlt
    have hy':=(hI.below.cell (p:=⟨b,o+i,none⟩) hbb).trans hy
    have ho:=hI.lb.cell (i:=i) (by rw [hI.len];omega)
    have hf:=hI.lb.frozen i
    clear hy
    have hS:=ZqJ (Yq a) (i:=i) (k:=k) (by rw [HL.out];exact hlt) (by omega)
    rw [Zg] at hS
    have HS:=Lib.hid hS
    clear hS
    have HI:=Lib.hid hI
    clear hI
    by_cases hlt2:i+1<m
    ·obtain ⟨b2,o2,y2,hbo,_,hy2,hu2,HY2⟩:=g.at_ hlt2
     obtain ⟨rfl,rfl⟩:b=b2∧o=o2:=by simpa using hbo
     have hy2':=(HI.out.below.cell (p:=⟨b,o+(i+1),none⟩) hbb).trans hy2
     clear hy2
     go_wp2_with fail
     go_roundw
     case rel=>
      refine ⟨i+1,_,by omega,by go_num,HI.out.step hlt HS.out ?_⟩
      rw [ZfI _ _ hu hu2,ZAu _ hk,HY.out,HY2.out]
     case measure=>simp [intOf];omega
    ·go_wp2_with fail
     go_roundw
     case rel=>
      refine ⟨i+1,_,by omega,by go_num,HI.out.step hlt HS.out ?_⟩
      rw [ZAu _ hk,HY.out,WS (show (lmb a).length≤i+1 by rw [HL.out];omega),Nat.zero_mul,Nat.add_zero]
     case measure=>simp [intOf];omega
   ·have e:i=m:=by omega
    subst e
    have hs:=hI.sum
    have ha:=YW a
    rw [HL.out] at ha
    rw [Z8 cur (Nat.le_of_eq hI.len),Nat.mod_eq_of_lt (Nat.lt_of_le_of_lt (Nat.div_le_self _ _) ha)] at hs
    have HQ:=Lib.hid hs
    clear hs ha
    go_wp2_with fail
    refine (Yf _ (hI.lb.read i hI.len.symm) (by omega)).mono ?_
    rintro e w1 ⟨ad1,n1,c1,rfl,g1,rfl⟩
    rw [HQ.out] at g1
    go_wp2_with fail
    go_ret2
    exact ⟨_,_,_,rfl,g1,hI.below⟩
end Go.Proofs.YtdaonnnlgfhlaaaGreatDoor
