import Derived.Test.YtdaonnnlgfhlaaaGreatDoorGH13
import Derived.Test.YtdaonnnlgfhlaaaGreatDoorGH5
import Derived.Test.YtdaonnnlgfhlaaaGreatDoorGH6
import Derived.Test.YtdaonnnlgfhlaaaGreatDoorGH14
import Derived.IntWalk
import Derived.Shelf.Strings.Builder1
import Derived.Shelf.Strings.OnBuilder
import Derived.Shelf.Strconv.Itoa0
import Derived.Shelf.Strconv.Itoa1
import Derived.Shelf.LaysM
import Derived.Shelf.Strconv.Itoa2
import Derived.Shelf.Strconv.Itoa3
import Derived.Shelf.Strings.Repeat
import Derived.Ground.Names2Prog
import Derived.Shelf.Slices.ReverseS
import Derived.Shelf.Slices.Cells
import Derived.Test.YtdaonnnlgfhlaaaGreatDoorProg
import Derived.Lib.Builder
import Derived.Laws.Externs
import Derived.Lib.Bytealg
import Derived.Lib.AppendIntMem
import Derived.Lib.AtoiErrMem
set_option linter.all false
namespace Go.Proofs.YtdaonnnlgfhlaaaGreatDoor
theorem gEi{α:Type _}{l:List α}{i:Nat}{a:α}(h:l[i]?=some a):∃h:i<l.length,l[i]=a:=List.getElem?_eq_some_iff.1 h
theorem gEt{α:Type _}{l:List α}{i:Nat}(h:i<l.length):l[i]?=some l[i]:=List.getElem?_eq_getElem h
theorem gMe{α:Type _}{l:List α}{i:Nat}{a:α}(h:l[i]?=some a):a∈l:=List.mem_of_getElem? h
theorem oSi{α:Type _}(a b:α):(some a=some b)=(a=b):=Option.some.injEq a b
open Go.RowKit
def Zd(l:List Nat):AV:=.sl 1 (l.map fun (x:Nat)=>[.lit (.int .u32 (x:Int))])
structure Raw where
 s:Bool
 l1:List Nat
 l2:List Nat
 deriving DecidableEq
def Raw.q(r:Raw):Rat:=sv r.s r.l1 r.l2
def Raw.av(r:Raw):AV:=.agg [.lit (.bool r.s),Zd r.l1,Zd r.l2]
def Ze(q:Rat):Raw:=⟨decide (q.num<0),lmb q.num.natAbs,QX q.den⟩
def XH(q:Rat):AV:=(Ze q).av
def Zjp:List AV→Option Nat
 | [.lit (.int .u32 z)]=>if 0≤z∧z<4294967296 then some z.toNat else none
 | _=>none
def Zch:List (List AV)→Option (List Nat)
 | []=>some []
 | e::l=>match Zjp e,Zch l with
   | some x,some xs=>some (x::xs)
   | _,_=>none
def ZbU:AV→Option (List Nat)
 | .sl 1 es=>Zch es
 | .nl _=>some []
 | .lit (.slice none 0 0)=>some []
 | _=>none
def Zao:AV→Option Raw
 | .agg [.lit (.bool s),a,b]=>match ZbU a,ZbU b with
   | some l1,some l2=>some ⟨s,l1,l2⟩
   | _,_=>none
 | _=>none
theorem ZkT{l:List Nat}(h:Lim l):Zch (l.map fun (x:Nat)=>[.lit (.int .u32 (x:Int))])=some l:=by
 induction l with
 | nil=>rfl
 | cons x l ih=>
   have hx:=ZdR h
   have e:Zjp [.lit (.int .u32 (x:Int))]=some x:=by
    unfold Zjp
    dsimp only
    rw [if_pos ⟨by omega,by omega⟩,Int.toNat_natCast]
   rw [List.map_cons,Zch,e,ih (ZcU h)]
theorem Qe{l:List Nat}(h:Lim l):ZbU (Zd l)=some l:=ZkT h
theorem ZaF{r:Raw}(h1:Lim r.l1)(h2:Lim r.l2):Zao r.av=some r:=by
 simp only [Raw.av,Zao,Qe h1,Qe h2]
theorem Zda(d:Nat):Lim (QX d):=by unfold QX;split;exact XT;exact Yq d
theorem ZgM(q:Rat):Zao (XH q)=some (Ze q):=ZaF (Yq _) (Zda _)
theorem QI(q:Rat):(Ze q).q=q:=by
 have h:RatC (default:World) (Ze q).s none (Ze q).l1.length (Ze q).l1.length none (Ze q).l2.length (Ze q).l2.length q→(Ze q).q=q:=fun h=>h.sv_
 unfold Raw.q Ze sv
 dsimp only
 rw [Zg]
 have e:dn (QX q.den)=q.den:=Zkv q.den_pos
 rw [e]
 have e2:sgi (decide (q.num<0)) q.num.natAbs=q.num:=by
  unfold sgi
  by_cases h:q.num<0
  ·simp [h];omega
  ·simp [h];omega
 rw [e2,Rat.mkRat_self]
section
variable {w : World} {ok : Nat → Nat → Prop}
theorem Zhg{es:List (List AV)}{l:List Nat}(h:Zch es=some l):es.length=l.length∧Lim l∧∀(i:Nat) (x:Nat),l[i]?=some x→es[i]?=some [.lit (.int .u32 (x:Int))]:=by
 induction es generalizing l with
 | nil=>simp [Zch] at h;subst h;exact ⟨rfl,XT,fun i x h=>by simp at h⟩
 | cons e es ih=>
   simp only [Zch] at h
   split at h
   ·rename_i x xs h1 h2
    cases h
    obtain ⟨h3,h4,h5⟩:=ih h2
    unfold Zjp at h1
    split at h1
    ·rename_i z
     split at h1
     ·rename_i hz
      cases h1
      refine ⟨by simp [h3],X5 (by omega) h4,fun i x hi=>?_⟩
      cases i with
      | zero=>
        simp at hi
        subst hi
        simp [Int.toNat_of_nonneg hz.1]
      | succ i=>simpa using h5 i x (by simpa using hi)
     ·cases h1
    ·cases h1
   ·cases h
theorem Qi{d:AV}{l:List Nat}{v:Value}(h:RepT w ok d v)(hd:ZbU d=some l):∃a n c,v=.slice a n c∧LimR w a n c l:=by
 unfold ZbU at hd
 split at hd
 ·rename_i es
  obtain ⟨h1,h2,h3⟩:=Zhg hd
  cases h with
  | nil a c=>
    have:l=[]:=List.eq_nil_of_length_eq_zero h1.symm
    subst this
    exact ⟨a,0,c,rfl,LimR.nil w a c⟩
  | sl hk hc hm hh=>
    rename_i b o c
    refine ⟨_,_,c,rfl,h1.symm,hc,h2,fun h0=>?_⟩
    have cell:∀i,i<es.length→w.cell? ⟨b,o+i,none⟩=some (.int .u32 (l.getD i 0:Nat)):=fun i hi=>by
     have hil:i<l.length:=by omega
     have hx:l[i]?=some l[i]:=List.getElem?_eq_getElem hil
     have h4:=h3 i _ hx
     have h5:=hm i 0 _ _ h4 rfl
     have h6:=hh i 0 _ _ h4 rfl
     obtain ⟨u,hu⟩:=Option.isSome_iff_exists.1 h5.2
     rw [hu] at h6
     simp only [Nat.mul_one,Nat.add_zero] at hu
     cases h6
     rw [hu]
     simp [List.getD_eq_getElem?_getD,hx]
    exact ⟨b,o,rfl,Jx (cell 0 h0),cell⟩
 ·cases hd
  cases h with
  | nl k=>exact ⟨_,_,_,rfl,LimR.nil w _ _⟩
 ·cases hd
  cases h with
  | lit v=>exact ⟨_,_,_,rfl,LimR.nil w _ _⟩
 ·cases hd
theorem XC{d:AV}{r:Raw}{v:Value}(h:RepT w ok d v)(hd:Zao d=some r):∃a1 n1 c1 a2 n2 c2,v=.agg #[.bool r.s,.slice a1 n1 c1,.slice a2 n2 c2]∧LimR w a1 n1 c1 r.l1∧LimR w a2 n2 c2 r.l2:=by
 unfold Zao at hd
 split at hd
 ·rename_i s a b
  split at hd
  ·rename_i l1 l2 h1 h2
   cases hd
   cases h with
   | agg hn hh=>
     rename_i vs
     have g0:=hh 0 _ rfl
     have g1:=hh 1 _ rfl
     have g2:=hh 2 _ rfl
     obtain ⟨a1,n1,c1,e1,k1⟩:=Qi g1 h1
     obtain ⟨a2,n2,c2,e2,k2⟩:=Qi g2 h2
     refine ⟨a1,n1,c1,a2,n2,c2,?_,k1,k2⟩
     have e0:vs.getD 0 undef=.bool s:=by
      generalize vs.getD 0 undef=x at g0
      cases g0;rfl
     congr 1
     apply Array.ext
     ·simpa using hn
     ·intro i hi1 hi2
      have h9:i=0∨i=1∨i=2:=by simp at hi2;omega
      have gd:vs.getD i undef=vs[i]:=by rw [Array.getD_eq_getD_getElem?,Array.getElem?_eq_getElem hi1];rfl
      rcases h9 with rfl|rfl|rfl
      ·rw [←gd,e0];rfl
      ·rw [←gd,e1];rfl
      ·rw [←gd,e2];rfl
  ·cases hd
 ·cases hd
def okU(w:World)(b o:Nat):Prop:=∃z,w.cell? ⟨b,o,none⟩=some (.int .u32 z)
theorem Wi{a:Option Addr}{n c:Nat}{l:List Nat}(h:LimR w a n c l):RepT w (okU w) (Zd l) (.slice a n c):=by
 have hl:=h.len
 subst hl
 by_cases h0:l=[]
 ·subst h0;exact .nil a c
 ·obtain ⟨b,o,rfl,hb,hc⟩:=h.cells (List.length_pos_iff.2 h0)
  have main:RepT w (okU w) (.sl 1 (l.map fun (x:Nat)=>[.lit (.int .u32 (x:Int))])) (.slice (some ⟨b,o,none⟩) (l.map fun (x:Nat)=>[AV.lit (.int .u32 (x:Int))]).length c):=by
   have cell:∀(i j:Nat) (e:List AV) (d:AV),(l.map fun (x:Nat)=>[AV.lit (.int .u32 (x:Int))])[i]?=some e→e[j]?=some d→∃z,d=.lit (.int .u32 z)∧w.cell? ⟨b,o+i*1+j,none⟩=some (.int .u32 z):=fun i j e d hi hj=>by
    rw [List.getElem?_map] at hi
    cases hx:l[i]? with
    | none=>rw [hx] at hi;cases hi
    | some x=>
      rw [hx] at hi
      cases hi
      have hlt:=(List.getElem?_eq_some_iff.1 hx).1
      have hj0:j=0:=by have:=(List.getElem?_eq_some_iff.1 hj).1;simp at this;omega
      subst hj0
      simp at hj
      refine ⟨x,hj.symm,?_⟩
      rw [Nat.mul_one,Nat.add_zero,hc i hlt]
      simp [List.getD_eq_getElem?_getD,hx]
   refine .sl (fun e he=>?_) (by simpa using h.cap) (fun i j e d hi hj=>?_) (fun i j e d hi hj=>?_)
   ·obtain ⟨x,_,rfl⟩:=List.mem_map.1 he;rfl
   ·obtain ⟨z,_,h3⟩:=cell i j e d hi hj
    exact ⟨⟨z,h3⟩,by rw [h3];rfl⟩
   ·obtain ⟨z,rfl,h3⟩:=cell i j e d hi hj
    rw [h3];exact .lit _
  rw [List.length_map] at main
  exact main
theorem Znm{d0 d1 d2:AV}{v0 v1 v2:Value}(h0:RepT w ok d0 v0)(h1:RepT w ok d1 v1)(h2:RepT w ok d2 v2):RepT w ok (.agg [d0,d1,d2]) (.agg #[v0,v1,v2]):=by
 refine .agg rfl fun i d hi=>?_
 match i,hi with
 | 0,hi=>cases hi;exact h0
 | 1,hi=>cases hi;exact h1
 | 2,hi=>cases hi;exact h2
 | i+3,hi=>simp at hi
theorem Ze5{r:Raw}{a1 a2:Option Addr}{n1 c1 n2 c2:Nat}(h1:LimR w a1 n1 c1 r.l1)(h2:LimR w a2 n2 c2 r.l2):RepT w (okU w) r.av (.agg #[.bool r.s,.slice a1 n1 c1,.slice a2 n2 c2]):=Znm (.lit _) (Wi h1) (Wi h2)
theorem Zhf{s:Bool}{a1 a2:Option Addr}{n1 c1 n2 c2:Nat}{q:Rat}(h:RatC w s a1 n1 c1 a2 n2 c2 q):RepT w (okU w) (XH q) (.agg #[.bool s,.slice a1 n1 c1,.slice a2 n2 c2]):=by
 have e:s=(Ze q).s:=h.sign.out
 rw [e]
 exact Ze5 (r:=Ze q) h.num h.den
theorem ZtB{w':World}{d:AV}{v:Value}(h:RepT w' (okU w') d v):RepT w' (okN ok w w') d v:=h.mono (fun _ _ _ _ h=>h) fun b o _ h1 _=>.inr (.inr h1)
end
def Raw.few(r:Raw):Bool:=Nat.ble r.l1.length 17179869184 && Nat.ble r.l2.length 17179869184
theorem Raw.few_parts{r:Raw}(h:r.few=true):r.l1.length≤17179869184∧r.l2.length≤17179869184:=by
 unfold Raw.few at h
 rw [Bool.and_eq_true] at h
 exact ⟨Nat.le_of_ble_eq_true h.1,Nat.le_of_ble_eq_true h.2⟩
def o1(F:Raw→AV):List AV→Option AV
 | [a]=>match Zao a with
   | some x=>if x.few then some (F x) else none
   | none=>none
 | _=>none
def o2(F:Raw→Raw→AV):List AV→Option AV
 | [a,b]=>match Zao a,Zao b with
   | some x,some y=>if x.few && y.few then some (F x y) else none
   | _,_=>none
 | _=>none
def Ret(d:AV)(w:World)(e:Ending)(w':World):Prop:=∃v,e=.returned v∧RepT w' (okU w') d v∧Below w.heap.size w w'
theorem RetR.ret{q:Rat}{w w':World}{e:Ending}(h:RetR q w e w'):Ret (XH q) w e w':=by
 obtain ⟨s,a1,n1,c1,a2,n2,c2,rfl,h1,h2⟩:=h
 exact ⟨_,rfl,Zhf h1,h2⟩
theorem RetInt.ret{z:Int}{w w':World}{e:Ending}(h:RetInt z w e w'):Ret (.lit (.int .i64 z)) w e w':=⟨_,h.1,.lit _,h.2⟩
theorem RetB.ret{b:Bool}{w w':World}{e:Ending}(h:RetB b w e w'):Ret (.lit (.bool b)) w e w':=⟨_,h.1,.lit _,h.2⟩
theorem WW{R:AV→Value→Prop}{a:AV}{vs:Array Value}(h:RV R [a] vs.toList):∃v,vs=#[v]∧R a v:=by
 obtain ⟨h1,h2⟩:=h
 obtain ⟨u,h3,h4⟩:=h2 0 a rfl
 refine ⟨u,?_,h4⟩
 apply Array.toList_inj.1
 match hv:vs.toList,h1 with
 | [x],_=>rw [hv] at h3;simp at h3;rw [h3]
theorem Xq{R:AV→Value→Prop}{a b:AV}{vs:Array Value}(h:RV R [a,b] vs.toList):∃v u,vs=#[v,u]∧R a v∧R b u:=by
 obtain ⟨h1,h2⟩:=h
 obtain ⟨u,h3,h4⟩:=h2 0 a rfl
 obtain ⟨u',h5,h6⟩:=h2 1 b rfl
 refine ⟨u,u',?_,h4,h6⟩
 apply Array.toList_inj.1
 match hv:vs.toList,h1 with
 | [x,y],_=>rw [hv] at h3 h5;simp at h3 h5;rw [h3,h5]
section
variable {P : Program} {f : FuncId}
theorem X8{args:List AV}{r:AV}(h:∀(w:World) (ok:Nat→Nat→Prop) (vs:Array Value),RV (RepT w ok) args vs.toList→Calls P f vs w (Ret r w)):Con P f args r:=fun w ok vs _ hv=>
 (h w ok vs hv).mono fun _ _ ⟨v,he,h1,h2⟩=>⟨v,he,ZtB h1,h2⟩
theorem Zd3{F:Raw→AV}(h:∀(w:World) (x:Raw) (a1 a2:Option Addr) (n1 c1 n2 c2:Nat),LimR w a1 n1 c1 x.l1→LimR w a2 n2 c2 x.l2→n1≤17179869184→n2≤17179869184→Calls P f #[.agg #[.bool x.s,.slice a1 n1 c1,.slice a2 n2 c2]] w (Ret (F x) w)):
  ∀args r,o1 F args=some r→Con P f args r:=by
 intro args r hr
 unfold o1 at hr
 split at hr
 ·rename_i a
  split at hr
  ·rename_i x hx
   split at hr
   ·rename_i hfew
    cases hr
    obtain ⟨f1,f2⟩:=Raw.few_parts hfew
    refine X8 fun w ok vs hv=>?_
    obtain ⟨v,rfl,hv1⟩:=WW hv
    obtain ⟨a1,n1,c1,a2,n2,c2,rfl,h1,h2⟩:=XC hv1 hx
    exact h w x a1 a2 n1 c1 n2 c2 h1 h2 (by rw [←h1.len];exact f1) (by rw [←h2.len];exact f2)
   ·cases hr
  ·cases hr
 ·cases hr
theorem Zhj {F:Raw→Raw→AV} (h:∀(w:World) (x y:Raw) (a1 a2 a3 a4:Option Addr) (n1 c1 n2 c2 n3 c3 n4 c4:Nat),LimR w a1 n1 c1 x.l1→LimR w a2 n2 c2 x.l2→LimR w a3 n3 c3 y.l1→LimR w a4 n4 c4 y.l2→n1≤17179869184→n2≤17179869184→n3≤17179869184→n4≤17179869184→
   Calls P f #[.agg #[.bool x.s,.slice a1 n1 c1,.slice a2 n2 c2],.agg #[.bool y.s,.slice a3 n3 c3,.slice a4 n4 c4]] w (Ret (F x y) w)):
  ∀args r,o2 F args=some r→Con P f args r:=by
 intro args r hr
 unfold o2 at hr
 split at hr
 ·rename_i a b
  split at hr
  ·rename_i x y hx hy
   split at hr
   ·rename_i hfew
    cases hr
    rw [Bool.and_eq_true] at hfew
    obtain ⟨f1,f2⟩:=Raw.few_parts hfew.1
    obtain ⟨f3,f4⟩:=Raw.few_parts hfew.2
    refine X8 fun w ok vs hv=>?_
    obtain ⟨v,u,rfl,hv1,hv2⟩:=Xq hv
    obtain ⟨a1,n1,c1,a2,n2,c2,rfl,h1,h2⟩:=XC hv1 hx
    obtain ⟨a3,n3,c3,a4,n4,c4,rfl,h3,h4⟩:=XC hv2 hy
    exact h w x y a1 a2 a3 a4 n1 c1 n2 c2 n3 c3 n4 c4 h1 h2 h3 h4 (by rw [←h1.len];exact f1) (by rw [←h2.len];exact f2) (by rw [←h3.len];exact f3) (by rw [←h4.len];exact f4)
   ·cases hr
  ·cases hr
 ·cases hr
end
def oZ(F:Int→AV):List AV→Option AV
 | [.lit (.int .i64 z)]=>if -9223372036854775808≤z∧z≤9223372036854775807 then some (F z) else none
 | _=>none
def oZZ(F:Int→Int→AV):List AV→Option AV
 | [.lit (.int .i64 x),.lit (.int .i64 y)]=>if (-9223372036854775808≤x∧x≤9223372036854775807)∧(-9223372036854775808≤y∧y≤9223372036854775807)∧y≠0 then some (F x y) else none
 | _=>none
end Go.Proofs.YtdaonnnlgfhlaaaGreatDoor
set_option linter.all false
namespace Go.Proofs.YtdaonnnlgfhlaaaGreatDoor
open Go.RowKit
theorem Zp{x:Int}(h0:-9223372036854775808≤x)(h1:x≤9223372036854775807):IntKind.i64.wrap x=x:=IntWalk.i64_in _ ⟨h0,h1⟩
def Zx0(bs:List Int):AV:=.sl 1 (bs.map fun x=>[.lit (.int .u8 x)])
def noO:FuncId→Option Orc:=fun _=>none
def noL:Nat→List Nat:=fun _=>[]
structure Byt (bs:List Int):Prop where
 len:bs.length≤1048576
 val:∀x∈bs,0≤x∧x<256
end Go.Proofs.YtdaonnnlgfhlaaaGreatDoor
set_option linter.all false
namespace Go.Proofs.YtdaonnnlgfhlaaaGreatDoor
open Go.RowKit
def ext(O:FuncId→Option Orc)(f:FuncId)(x:Orc)(g:FuncId):Option Orc:=if g=f then some x else O g
section
variable {P : Program} {O : FuncId → Option Orc} {f : FuncId}
theorem OrcOk.none:OrcOk P noO:=⟨fun f g h=>(by cases h),fun f ms g h=>(by cases h)⟩
theorem OrcOk.extP(h:OrcOk P O)(hp:XE P f=true){g:List AV→Option AV}(hc:∀args r,g args=some r→Con P f args r):OrcOk P (ext O f (.pure g)):=by
 refine ⟨fun f' g' h'=>?_,fun f' ms g' h'=>?_⟩
 ·unfold ext at h'
  split at h'
  ·rename_i e;subst e;cases h';exact ⟨hp,hc⟩
  ·exact h.pure f' g' h'
 ·unfold ext at h'
  split at h'
  ·cases h'
  ·exact h.lin f' ms g' h'
theorem OrcOk.extL(h:OrcOk P O)(hp:XE P f=true){ms:List Bool}{g:List AV→List AB→Option (AV × List (Nat × AB))}(hc:∀bin args r outs,g args bin=some (r,outs)→ZnV P f bin args r outs):OrcOk P (ext O f (.lin ms g)):=by
 refine ⟨fun f' g' h'=>?_,fun f' ms' g' h'=>?_⟩
 ·unfold ext at h'
  split at h'
  ·cases h'
  ·exact h.pure f' g' h'
 ·unfold ext at h'
  split at h'
  ·rename_i e;subst e;cases h';exact ⟨hp,hc⟩
  ·exact h.lin f' ms' g' h'
noncomputable def fnP(P:Program)(O:FuncId→Option Orc)(lives:Nat→List Nat)(fuel:Nat)(fn:Func):List AV→Option AV:=Zjo P O lives fuel fn.ntmps fn.results.toList (ZR fn)
noncomputable def fnL(P:Program)(O:FuncId→Option Orc)(lives:Nat→List Nat)(fuel:Nat)(fn:Func)(keep:Bool):List AV→List AB→Option (AV × List (Nat × AB)):=Zui P O lives fuel fn.ntmps fn.results.toList (ZR fn) keep
theorem UF{fn:Func}(h:XE P f=true)(hf:P.funcs[f]?=some fn):fn.body=some (ZR fn):=by
 unfold XE at h
 rw [hf] at h
 simp only [Bool.and_eq_true] at h
 obtain ⟨c,hc⟩:=Option.isSome_iff_exists.1 h.2
 simp [ZR,hc]
end
theorem RetMk.ret{q:Rat}{w w':World}{e:Ending}(h:RetMk q w e w'):Ret (.tup [XH q,.lit (.int .i64 0)]) w e w':=by
 obtain ⟨s,a1,n1,c1,a2,n2,c2,rfl,h1,h2⟩:=h
 refine ⟨_,rfl,.tup rfl fun i d hi=>?_,h2⟩
 match i,hi with
 | 0,hi=>cases hi;exact Zhf h1
 | 1,hi=>cases hi;exact .lit _
 | i+2,hi=>simp at hi
theorem mixed: Tryz.prog.follows .mixedOrders=true:=by kernel_rfl
theorem ZoH:∀args r,oZ (fun z=>XH (z:Rat)) args=some r→Con Tryz.prog 20 args r:=fun args r hr=>by
 unfold oZ at hr
 split at hr
 ·rename_i z
  split at hr
  ·rename_i hz
   cases hr
   refine X8 fun w ok vs hv=>?_
   obtain ⟨v,rfl,hv1⟩:=WW hv
   cases hv1
   exact (ZoC w z hz.1 hz.2).mono fun _ _ h=>h.ret
  ·cases hr
 ·cases hr
theorem ZoT:∀args r,oZZ (fun x y=>.tup [XH ((x:Rat) / (y:Rat)),.lit (.int .i64 0)]) args=some r→Con Tryz.prog 96 args r:=fun args r hr=>by
 unfold oZZ at hr
 split at hr
 ·rename_i x y
  split at hr
  ·rename_i hz
   cases hr
   refine X8 fun w ok vs hv=>?_
   obtain ⟨v,u,rfl,hv1,hv2⟩:=Xq hv
   cases hv1
   cases hv2
   exact (ZvZ w hz.1.1 hz.1.2 hz.2.1.1 hz.2.1.2 hz.2.2).mono fun _ _ h=>h.ret
  ·cases hr
 ·cases hr
-- Zch,bytes and feeds are not looked into
@[simp] theorem ZsK(l:List Nat):(Zd l).cellsOf=some [Zd l]:=rfl
@[simp] theorem Zyg(l:List Nat):(Zd l).notU=true:=rfl
@[simp] theorem ZAB(l:List Nat):(Zd l).isT=true:=rfl
@[simp] theorem Zyl(l:List Nat):(Zd l).refs=[]:=rfl
@[simp] theorem ZzV(ρ:Nat→Option Nat)(l:List Nat):(Zd l).ren ρ=Zd l:=rfl
@[simp] theorem ZzJ(n:Nat)(l:List Nat)(k:AV→List Nat→Tr):res n (Zd l) k=k (Zd l) []:=by cases n <;>rfl
@[simp] theorem Zyz(n:Nat)(l:List Nat)(k:AV→List Nat→Tr):QN n (Zd l) k=k (Zd l) []:=by cases n <;>rfl
@[simp] theorem Zyk(n:Nat)(l:List Nat)(cs acc:List AV)(fa:List Nat)(k:List AV→List Nat→Tr):YG (res n) (Zd l::cs) acc fa k=YG (res n) cs (acc++[Zd l]) fa k:=QR (fun k=>by cases n <;>rfl) _ _ _ _
@[simp] theorem Zx8(n:Nat)(l:List Nat)(cs acc:List AV)(fa:List Nat)(k:List AV→List Nat→Tr):YG (QN n) (Zd l::cs) acc fa k=YG (QN n) cs (acc++[Zd l]) fa k:=QR (fun k=>by cases n <;>rfl) _ _ _ _
@[simp] theorem Zyn(P:Program)(t:TypeId)(l:List Nat):Zd9 P t (Zd l)=if (Wn P t).isSome=true then some l.length else none:=by simp [Zd,Zd9]
@[simp] theorem Zyr(l:List Nat)(cs:List AV)(i:Nat)(k:List AV→List Nat→List Nat→Tr):JD (Zd l::cs) i k=JD cs i fun us ids fs=>k (Zd l::us) ids fs:=rfl
@[simp] theorem ZBB(l:List Nat):(Zd l).nz=Zd l:=rfl
end Go.Proofs.YtdaonnnlgfhlaaaGreatDoor
namespace Go.Proofs
open Go.Shelf
def Tryz.laysM171_ren:Go.Shelf.Ren:=⟨fun|171=>118|243=>140|246=>145|283=>150|284=>151|285=>152|286=>153|129=>159|317=>158|318=>160|319=>161|320=>162|337=>167|338=>168|n=>n,fun|3=>3|9=>9|2=>2|4=>4|171=>168|0=>0|53=>91|37=>135|5=>5|173=>170|212=>178|51=>114|20=>20|213=>179|46=>116|232=>187|233=>188|n=>n,fun|17=>0|18=>1|19=>2|n=>n⟩
theorem Tryz.laysM171:Go.Proofs.LaysM.n171 Tryz.prog Tryz.laysM171_ren:={
 mixed:=by kernel_rfl
 f129:=Tryz.func159.trans (congrArg some (by kernel_rfl))
 f171:=Tryz.func118.trans (congrArg some (by kernel_rfl))
 f243:=Tryz.func140.trans (congrArg some (by kernel_rfl))
 f246:=Tryz.func145.trans (congrArg some (by kernel_rfl))
 f283:=Tryz.func150.trans (congrArg some (by kernel_rfl))
 f284:=Tryz.func151.trans (congrArg some (by kernel_rfl))
 f285:=Tryz.func152.trans (congrArg some (by kernel_rfl))
 f286:=Tryz.func153.trans (congrArg some (by kernel_rfl))
 f317:=Tryz.func158.trans (congrArg some (by kernel_rfl))
 f318:=Tryz.func160.trans (congrArg some (by kernel_rfl))
 f319:=Tryz.func161.trans (congrArg some (by kernel_rfl))
 f320:=Tryz.func162.trans (congrArg some (by kernel_rfl))
 f337:=Tryz.func167.trans (congrArg some (by kernel_rfl))
 f338:=Tryz.func168.trans (congrArg some (by kernel_rfl))
 t0:=Tryz.underlying0
 a0:=Tryz.isAgg0
 z0:=Tryz.sizeOf0
 v0:=Tryz.zeroValue0
 t2:=Tryz.underlying2
 a2:=Tryz.isAgg2
 z2:=Tryz.sizeOf2
 v2:=Tryz.zeroValue2
 t3:=Tryz.underlying3
 a3:=Tryz.isAgg3
 z3:=Tryz.sizeOf3
 v3:=Tryz.zeroValue3
 t4:=Tryz.underlying4
 a4:=Tryz.isAgg4
 z4:=Tryz.sizeOf4
 v4:=Tryz.zeroValue4
 t5:=Tryz.underlying5
 a5:=Tryz.isAgg5
 z5:=Tryz.sizeOf5
 v5:=Tryz.zeroValue5
 t9:=Tryz.underlying9
 a9:=Tryz.isAgg9
 z9:=Tryz.sizeOf9
 v9:=Tryz.zeroValue9
 t20:=Tryz.underlying20
 a20:=Tryz.isAgg20
 z20:=Tryz.sizeOf20
 v20:=Tryz.zeroValue20
 t37:=Tryz.underlying135
 a37:=Tryz.isAgg135
 z37:=Tryz.sizeOf135
 v37:=Tryz.zeroValue135
 t46:=Tryz.underlying116
 a46:=Tryz.isAgg116
 z46:=Tryz.sizeOf116
 v46:=Tryz.zeroValue116
 t51:=Tryz.underlying114
 a51:=Tryz.isAgg114
 z51:=Tryz.sizeOf114
 v51:=Tryz.zeroValue114
 t53:=Tryz.underlying91
 a53:=Tryz.isAgg91
 z53:=Tryz.sizeOf91
 v53:=Tryz.zeroValue91
 t171:=Tryz.underlying168
 a171:=Tryz.isAgg168
 z171:=Tryz.sizeOf168
 v171:=Tryz.zeroValue168
 t173:=Tryz.underlying170
 a173:=Tryz.isAgg170
 z173:=Tryz.sizeOf170
 v173:=Tryz.zeroValue170
 t212:=Tryz.underlying178
 a212:=Tryz.isAgg178
 z212:=Tryz.sizeOf178
 v212:=Tryz.zeroValue178
 t213:=Tryz.underlying179
 a213:=Tryz.isAgg179
 z213:=Tryz.sizeOf179
 t232:=Tryz.underlying187
 a232:=Tryz.isAgg187
 z232:=Tryz.sizeOf187
 v232:=Tryz.zeroValue187
 t233:=Tryz.underlying188
 a233:=Tryz.isAgg188
 z233:=Tryz.sizeOf188
 v233:=Tryz.zeroValue188
 g17:=by kernel_rfl
 g18:=by kernel_rfl
 g19:=by kernel_rfl
 i0:=by kernel_rfl
 i2:=by kernel_rfl
 i3:=by kernel_rfl
 i4:=by kernel_rfl
 i5:=by kernel_rfl
 i9:=by kernel_rfl
 i20:=by kernel_rfl
 i37:=by kernel_rfl
 i46:=by kernel_rfl
 i51:=by kernel_rfl
 i53:=by kernel_rfl
 i171:=by kernel_rfl
 i173:=by kernel_rfl
 i212:=by kernel_rfl
 i232:=by kernel_rfl
 i233:=by kernel_rfl
 m17:=by kernel_rfl
 m18:=by kernel_rfl
 m19:=by kernel_rfl}
open Go.RowKit Go.Sort Go.Lib in
theorem Tryz.strconv_Itoa (n:Int) (h0:-9223372036854775808≤n) (h1:n≤9223372036854775807) (w:World) (htab:Lib.TabIs Tryz.prog w "internal/strconv.uint64pow10" .u64 Lib.pow10Tab):
  Calls Tryz.prog 118 #[.int .i64 n] w fun e w'=>e=.returned (.string ⟨(Lib.itoa n).toArray⟩)∧∃k os,w'=grow (w.drewN k) os:=Any.strconv_Itoa Tryz.laysM171 n h0 h1 w htab
def Tryz.lays105_ren:Go.Shelf.Ren:=⟨fun|105=>147|212=>155|99=>156|165=>157|166=>117|170=>116|169=>120|263=>163|264=>164|206=>165|240=>139|241=>166|276=>144|277=>169|n=>n,fun|9=>9|3=>3|4=>4|20=>20|0=>0|46=>116|109=>172|5=>5|72=>137|76=>141|51=>114|146=>182|53=>91|148=>184|70=>134|37=>135|75=>140|127=>159|164=>160|80=>146|n=>n,fun|n=>n⟩
theorem Tryz.lays105:Go.Proofs.Lays.n105 Tryz.prog Tryz.lays105_ren:={
 mixed:=by kernel_rfl
 f99:=Tryz.func156.trans (congrArg some (by kernel_rfl))
 f105:=Tryz.func147.trans (congrArg some (by kernel_rfl))
 f165:=Tryz.func157.trans (congrArg some (by kernel_rfl))
 f166:=Tryz.func117.trans (congrArg some (by kernel_rfl))
 f169:=Tryz.func120.trans (congrArg some (by kernel_rfl))
 f170:=Tryz.func116.trans (congrArg some (by kernel_rfl))
 f206:=Tryz.func165.trans (congrArg some (by kernel_rfl))
 f212:=Tryz.func155.trans (congrArg some (by kernel_rfl))
 f240:=Tryz.func139.trans (congrArg some (by kernel_rfl))
 f241:=Tryz.func166.trans (congrArg some (by kernel_rfl))
 f263:=Tryz.func163.trans (congrArg some (by kernel_rfl))
 f264:=Tryz.func164.trans (congrArg some (by kernel_rfl))
 f276:=Tryz.func144.trans (congrArg some (by kernel_rfl))
 f277:=Tryz.func169.trans (congrArg some (by kernel_rfl))
 t0:=Tryz.underlying0
 a0:=Tryz.isAgg0
 z0:=Tryz.sizeOf0
 v0:=Tryz.zeroValue0
 t3:=Tryz.underlying3
 a3:=Tryz.isAgg3
 z3:=Tryz.sizeOf3
 v3:=Tryz.zeroValue3
 t4:=Tryz.underlying4
 a4:=Tryz.isAgg4
 z4:=Tryz.sizeOf4
 v4:=Tryz.zeroValue4
 t5:=Tryz.underlying5
 a5:=Tryz.isAgg5
 z5:=Tryz.sizeOf5
 v5:=Tryz.zeroValue5
 t9:=Tryz.underlying9
 a9:=Tryz.isAgg9
 z9:=Tryz.sizeOf9
 v9:=Tryz.zeroValue9
 t20:=Tryz.underlying20
 a20:=Tryz.isAgg20
 z20:=Tryz.sizeOf20
 v20:=Tryz.zeroValue20
 t37:=Tryz.underlying135
 a37:=Tryz.isAgg135
 z37:=Tryz.sizeOf135
 v37:=Tryz.zeroValue135
 t46:=Tryz.underlying116
 a46:=Tryz.isAgg116
 z46:=Tryz.sizeOf116
 v46:=Tryz.zeroValue116
 t51:=Tryz.underlying114
 a51:=Tryz.isAgg114
 z51:=Tryz.sizeOf114
 v51:=Tryz.zeroValue114
 t53:=Tryz.underlying91
 a53:=Tryz.isAgg91
 z53:=Tryz.sizeOf91
 v53:=Tryz.zeroValue91
 t70:=Tryz.underlying134
 a70:=Tryz.isAgg134
 z70:=Tryz.sizeOf134
 v70:=Tryz.zeroValue134
 t72:=Tryz.underlying137
 a72:=Tryz.isAgg137
 z72:=Tryz.sizeOf137
 v72:=Tryz.zeroValue137
 t75:=Tryz.underlying140
 a75:=Tryz.isAgg140
 z75:=Tryz.sizeOf140
 v75:=Tryz.zeroValue140
 t76:=Tryz.underlying141
 a76:=Tryz.isAgg141
 z76:=Tryz.sizeOf141
 v76:=Tryz.zeroValue141
 t109:=Tryz.underlying172
 a109:=Tryz.isAgg172
 z109:=Tryz.sizeOf172
 v109:=Tryz.zeroValue172
 t127:=Tryz.underlying159
 a127:=Tryz.isAgg159
 z127:=Tryz.sizeOf159
 v127:=Tryz.zeroValue159
 t146:=Tryz.underlying182
 a146:=Tryz.isAgg182
 z146:=Tryz.sizeOf182
 v146:=Tryz.zeroValue182
 t148:=Tryz.underlying184
 a148:=Tryz.isAgg184
 z148:=Tryz.sizeOf184
 v148:=Tryz.zeroValue184
 t164:=Tryz.underlying160
 a164:=Tryz.isAgg160
 z164:=Tryz.sizeOf160
 v164:=Tryz.zeroValue160}
theorem Tryz.Builder_Extra_105:Builder.Extra Tryz.prog Tryz.lays105_ren:={
 sizeBuilder:=by kernel_rfl
 liesBuilder:=by kernel_rfl
 t5:=Tryz.underlying5
 a5:=Tryz.isAgg5
 z5:=Tryz.sizeOf5
 v5:=Tryz.zeroValue5
 infoByte:=by kernel_rfl
 cellsByte:=by kernel_rfl
 sizeByte:=by kernel_rfl
 neB5:=by decide}
open Go.RowKit Go.Lib in
theorem Tryz.strings_Repeat(s:ByteArray)(c:Nat)(w:World)(hc:c≤9223372036854775807)(hlen:s.size*c≤140737488355328):
  Calls Tryz.prog 147 #[.string s,.int .i64 c] w fun e w'=>e=.returned (.string ⟨(Lib.repeatL s.data.toList c).toArray⟩)∧Below w.heap.size w w':=Any.strings_Repeat Tryz.lays105 Tryz.Builder_Extra_105 s c w hc hlen
def Tryz.lays156_ren:Go.Shelf.Ren:=⟨fun|156=>149|165=>157|166=>117|169=>120|240=>139|241=>166|276=>144|277=>169|n=>n,fun|31=>163|9=>9|3=>3|4=>4|0=>0|20=>20|72=>137|76=>141|70=>134|37=>135|75=>140|127=>159|164=>160|5=>5|80=>146|n=>n,fun|n=>n⟩
theorem Tryz.lays156:Go.Proofs.Lays.n156 Tryz.prog Tryz.lays156_ren:={
 mixed:=by kernel_rfl
 f156:=Tryz.func149.trans (congrArg some (by kernel_rfl))
 f165:=Tryz.func157.trans (congrArg some (by kernel_rfl))
 f166:=Tryz.func117.trans (congrArg some (by kernel_rfl))
 f169:=Tryz.func120.trans (congrArg some (by kernel_rfl))
 f240:=Tryz.func139.trans (congrArg some (by kernel_rfl))
 f241:=Tryz.func166.trans (congrArg some (by kernel_rfl))
 f276:=Tryz.func144.trans (congrArg some (by kernel_rfl))
 f277:=Tryz.func169.trans (congrArg some (by kernel_rfl))
 t0:=Tryz.underlying0
 a0:=Tryz.isAgg0
 z0:=Tryz.sizeOf0
 v0:=Tryz.zeroValue0
 t3:=Tryz.underlying3
 a3:=Tryz.isAgg3
 z3:=Tryz.sizeOf3
 v3:=Tryz.zeroValue3
 t4:=Tryz.underlying4
 a4:=Tryz.isAgg4
 z4:=Tryz.sizeOf4
 v4:=Tryz.zeroValue4
 t9:=Tryz.underlying9
 a9:=Tryz.isAgg9
 z9:=Tryz.sizeOf9
 v9:=Tryz.zeroValue9
 t20:=Tryz.underlying20
 a20:=Tryz.isAgg20
 z20:=Tryz.sizeOf20
 v20:=Tryz.zeroValue20
 t31:=Tryz.underlying163
 a31:=Tryz.isAgg163
 z31:=Tryz.sizeOf163
 v31:=Tryz.zeroValue163
 t37:=Tryz.underlying135
 a37:=Tryz.isAgg135
 z37:=Tryz.sizeOf135
 v37:=Tryz.zeroValue135
 t70:=Tryz.underlying134
 a70:=Tryz.isAgg134
 z70:=Tryz.sizeOf134
 v70:=Tryz.zeroValue134
 t72:=Tryz.underlying137
 a72:=Tryz.isAgg137
 z72:=Tryz.sizeOf137
 v72:=Tryz.zeroValue137
 t75:=Tryz.underlying140
 a75:=Tryz.isAgg140
 z75:=Tryz.sizeOf140
 v75:=Tryz.zeroValue140
 t76:=Tryz.underlying141
 a76:=Tryz.isAgg141
 z76:=Tryz.sizeOf141
 v76:=Tryz.zeroValue141
 t127:=Tryz.underlying159
 a127:=Tryz.isAgg159
 z127:=Tryz.sizeOf159
 v127:=Tryz.zeroValue159
 t164:=Tryz.underlying160
 a164:=Tryz.isAgg160
 z164:=Tryz.sizeOf160
 v164:=Tryz.zeroValue160}
theorem Tryz.Builder_Extra_156:Builder.Extra Tryz.prog Tryz.lays156_ren:={
 sizeBuilder:=by kernel_rfl
 liesBuilder:=by kernel_rfl
 t5:=Tryz.underlying5
 a5:=Tryz.isAgg5
 z5:=Tryz.sizeOf5
 v5:=Tryz.zeroValue5
 infoByte:=by kernel_rfl
 cellsByte:=by kernel_rfl
 sizeByte:=by kernel_rfl
 neB5:=by decide}
open Go.RowKit in
theorem Tryz.strings_Join(bk o c:Nat)(xs:List ByteArray)(sep:ByteArray)(w:World)(hcells:∀(j:Nat) x,xs[j]?=some x→w.cell? ⟨bk,o+j,none⟩=some (.string x))(hbk:bk<w.heap.size)(hN:xs.length≤140737488355328)(hcap:xs.length≤c)(hlen:(Lib.join (xs.map (·.data.toList)) sep.data.toList).length≤140737488355328):
  Calls Tryz.prog 149 #[.slice (some ⟨bk,o,none⟩) xs.length c,.string sep] w fun e w'=>e=.returned (.string ⟨(Lib.join (xs.map (·.data.toList)) sep.data.toList).toArray⟩)∧Below w.heap.size w w':=Any.strings_Join Tryz.lays156 Tryz.Builder_Extra_156 bk o c xs sep w hcells hbk hN hcap hlen
open Go.RowKit in
theorem Tryz.strings_Join_none(a:Option Addr)(c:Nat)(sep:ByteArray)(w:World):
  Calls Tryz.prog 149 #[.slice a 0 c,.string sep] w fun e w'=>e=.returned (.string ⟨#[]⟩)∧w'=w:=Any.strings_Join_none Tryz.lays156 Tryz.Builder_Extra_156 a c sep w
def Tryz.lays285_ren:Go.Shelf.Ren:=⟨fun|285=>152|n=>n,fun|37=>135|53=>91|3=>3|4=>4|51=>114|9=>9|5=>5|0=>0|n=>n,fun|n=>n⟩
theorem Tryz.lays285:Go.Proofs.Lays.n285 Tryz.prog Tryz.lays285_ren:={
 mixed:=by kernel_rfl
 f285:=Tryz.func152.trans (congrArg some (by kernel_rfl))
 t0:=Tryz.underlying0
 a0:=Tryz.isAgg0
 z0:=Tryz.sizeOf0
 v0:=Tryz.zeroValue0
 t3:=Tryz.underlying3
 a3:=Tryz.isAgg3
 z3:=Tryz.sizeOf3
 v3:=Tryz.zeroValue3
 t4:=Tryz.underlying4
 a4:=Tryz.isAgg4
 z4:=Tryz.sizeOf4
 v4:=Tryz.zeroValue4
 t5:=Tryz.underlying5
 a5:=Tryz.isAgg5
 z5:=Tryz.sizeOf5
 v5:=Tryz.zeroValue5
 t9:=Tryz.underlying9
 a9:=Tryz.isAgg9
 z9:=Tryz.sizeOf9
 v9:=Tryz.zeroValue9
 t37:=Tryz.underlying135
 a37:=Tryz.isAgg135
 z37:=Tryz.sizeOf135
 v37:=Tryz.zeroValue135
 t51:=Tryz.underlying114
 a51:=Tryz.isAgg114
 z51:=Tryz.sizeOf114
 v51:=Tryz.zeroValue114
 t53:=Tryz.underlying91
 a53:=Tryz.isAgg91
 z53:=Tryz.sizeOf91
 v53:=Tryz.zeroValue91}
open Go.RowKit Go.Sort Go.Lib in
theorem Tryz.internal_strconv_formatBase10(blk off cap:Nat)(u:Nat)(d:Array UInt8)(w:World)(hH:Holds (fun (b:UInt8)=>Value.int .u8 (b.toNat:Int)) w blk off d)(hu:u<10 ^ d.size)(hu64:u<18446744073709551616)(hsz:d.size<4611686018427387904):
  Calls Tryz.prog 152 #[.slice (some ⟨blk,off,none⟩) d.size cap,.int .u64 u] w fun e w'=>
   e=.returned (.tuple #[])∧∃(n v':Nat) (dk:Array UInt8),w'=(putRow (fun (b:UInt8)=>Value.int .u8 (b.toNat:Int)) w blk off dk).drewN n∧FmtInv d.size u 0 v' dk:=Any.internal_strconv_formatBase10 Tryz.lays285 blk off cap u d w hH hu hu64 hsz
def Tryz.lays283_ren:Go.Shelf.Ren:=⟨fun|283=>150|n=>n,fun|3=>3|9=>9|4=>4|n=>n,fun|n=>n⟩
theorem Tryz.lays283:Go.Proofs.Lays.n283 Tryz.prog Tryz.lays283_ren:={
 mixed:=by kernel_rfl
 f283:=Tryz.func150.trans (congrArg some (by kernel_rfl))
 t3:=Tryz.underlying3
 a3:=Tryz.isAgg3
 z3:=Tryz.sizeOf3
 v3:=Tryz.zeroValue3
 t4:=Tryz.underlying4
 a4:=Tryz.isAgg4
 z4:=Tryz.sizeOf4
 v4:=Tryz.zeroValue4
 t9:=Tryz.underlying9
 a9:=Tryz.isAgg9
 z9:=Tryz.sizeOf9
 v9:=Tryz.zeroValue9}
open Go.Lib in
theorem Tryz.internal_strconv_small(i:Nat)(h:i<100)(w:World):
  Calls Tryz.prog 150 #[.int .i64 i] w fun e w'=>e=.returned (.string ⟨(Lib.decDigits i).toArray⟩)∧w'=w:=Any.internal_strconv_small Tryz.lays283 i h w
def Tryz.laysM284_ren:Go.Shelf.Ren:=⟨fun|284=>151|129=>159|317=>158|318=>160|n=>n,fun|53=>91|3=>3|212=>178|0=>0|4=>4|46=>116|5=>5|9=>9|n=>n,fun|17=>0|n=>n⟩
theorem Tryz.laysM284:Go.Proofs.LaysM.n284 Tryz.prog Tryz.laysM284_ren:={
 mixed:=by kernel_rfl
 f129:=Tryz.func159.trans (congrArg some (by kernel_rfl))
 f284:=Tryz.func151.trans (congrArg some (by kernel_rfl))
 f317:=Tryz.func158.trans (congrArg some (by kernel_rfl))
 f318:=Tryz.func160.trans (congrArg some (by kernel_rfl))
 t0:=Tryz.underlying0
 a0:=Tryz.isAgg0
 z0:=Tryz.sizeOf0
 v0:=Tryz.zeroValue0
 t3:=Tryz.underlying3
 a3:=Tryz.isAgg3
 z3:=Tryz.sizeOf3
 v3:=Tryz.zeroValue3
 t4:=Tryz.underlying4
 a4:=Tryz.isAgg4
 z4:=Tryz.sizeOf4
 v4:=Tryz.zeroValue4
 t5:=Tryz.underlying5
 a5:=Tryz.isAgg5
 z5:=Tryz.sizeOf5
 v5:=Tryz.zeroValue5
 t9:=Tryz.underlying9
 a9:=Tryz.isAgg9
 z9:=Tryz.sizeOf9
 v9:=Tryz.zeroValue9
 t46:=Tryz.underlying116
 a46:=Tryz.isAgg116
 z46:=Tryz.sizeOf116
 v46:=Tryz.zeroValue116
 t53:=Tryz.underlying91
 a53:=Tryz.isAgg91
 z53:=Tryz.sizeOf91
 v53:=Tryz.zeroValue91
 t212:=Tryz.underlying178
 a212:=Tryz.isAgg178
 z212:=Tryz.sizeOf178
 v212:=Tryz.zeroValue178
 g17:=by kernel_rfl
 i0:=by kernel_rfl
 i3:=by kernel_rfl
 i4:=by kernel_rfl
 i5:=by kernel_rfl
 i9:=by kernel_rfl
 i46:=by kernel_rfl
 i53:=by kernel_rfl
 i212:=by kernel_rfl
 m17:=by kernel_rfl}
open Go.Lib in
theorem Tryz.internal_strconv_numDigits (u:Nat) (h1:1≤u) (h2:u<18446744073709551616) (w:World) (htab:Lib.TabIs Tryz.prog w "internal/strconv.uint64pow10" .u64 Lib.pow10Tab):
  Calls Tryz.prog 151 #[.int .u64 u] w fun e w'=>e=.returned (.int .i64 (Lib.nDigits u))∧w'=w:=Any.internal_strconv_numDigits Tryz.laysM284 u h1 h2 w htab
end Go.Proofs
set_option linter.all false
namespace Go.Proofs.YtdaonnnlgfhlaaaGreatDoor
open Go.RowKit
theorem Glob.whole{w:World}{ok:Nat→Nat→Prop}(h:Glob w ok){g:Nat}{vs:List Value}(hg:Zlh g=some (vs.map .lit)):∃t fr,w.heap[g]?=some (.cells vs.toArray t fr):=by
 obtain ⟨h1,t,h2⟩:=h.1 g _ hg
 obtain ⟨b,o,hp,hm⟩:=h1.mem_inv
 cases hp
 unfold World.shape? at h2
 split at h2
 ·rename_i c e fr hc
  simp only [Option.some.injEq,Prod.mk.injEq] at h2
  obtain ⟨rfl,h2⟩:=h2
  refine ⟨e,fr,?_⟩
  rw [hc]
  congr 2
  apply Array.ext_getElem?
  intro i
  rcases Nat.lt_or_ge i vs.length with hi|hi
  ·obtain ⟨_,u,h3,h4⟩:=hm i (.lit vs[i]) (by simp [List.getElem?_eq_getElem hi])
   cases h4
   simp only [World.cell?,hc,Nat.zero_add] at h3
   simpa [List.getElem?_eq_getElem hi] using h3
  ·rw [Array.getElem?_eq_none (by rw [h2];simpa using hi),Array.getElem?_eq_none (by simpa using hi)]
 ·cases h2
theorem Zi2{w:World}{ok:Nat→Nat→Prop}(h:Glob w ok):Lib.TabIs Tryz.prog w "internal/strconv.uint64pow10" .u64 Lib.pow10Tab:=by
 obtain ⟨t,fr,hw⟩:=h.whole (g:= 0) (vs:=Lib.pow10Tab.map fun z=>Value.int .u64 z) rfl
 have hg: Tryz.prog.globalNamed "internal/strconv.uint64pow10"=some 0:=by kernel_rfl
 unfold Lib.TabIs World.var?
 rw [hg]
 simp [hw]
theorem Ko{w:World}{k:Nat}{os:Array Obj}:Below w.heap.size w (Sort.grow (w.drewN k) os):=by
 refine ⟨rfl,rfl,rfl,by simp [Sort.grow],fun g hg=>?_⟩
 simp only [Sort.grow,World.heap_drewN]
 rw [Array.getElem?_append_left hg]
def Kl:List AV→Option AV
 | [.lit (.int .i64 n)]=>if -9223372036854775808≤n∧n≤9223372036854775807 then some (.lit (.string ⟨(Lib.itoa n).toArray⟩)) else none
 | _=>none
theorem Zn8:∀args r,Kl args=some r→Con Tryz.prog 118 args r:=fun args r hr=>by
 unfold Kl at hr
 split at hr
 ·rename_i n
  split at hr
  ·rename_i hn
   cases hr
   intro w ok vs hgl hv
   obtain ⟨v,rfl,hv1⟩:=WW hv
   cases hv1
   refine (Tryz.strconv_Itoa n hn.1 hn.2 w (Zi2 hgl)).mono ?_
   rintro e w' ⟨rfl,k,os,rfl⟩
   exact ⟨_,rfl,.lit _,Ko⟩
  ·cases hr
 ·cases hr
def U2:List AV→Option AV
 | [.lit (.string s),.lit (.int .i64 c)]=>if 0≤c∧c≤9223372036854775807∧s.size*c.toNat≤140737488355328 then some (.lit (.string ⟨(Lib.repeatL s.data.toList c.toNat).toArray⟩)) else none
 | _=>none
theorem Zh3:∀args r,U2 args=some r→Con Tryz.prog 147 args r:=fun args r hr=>by
 unfold U2 at hr
 split at hr
 ·rename_i s c
  split at hr
  ·rename_i hn
   cases hr
   intro w ok vs hgl hv
   obtain ⟨v,v2,rfl,hv1,hv2⟩:=Xq hv
   cases hv1
   cases hv2
   obtain ⟨m,rfl⟩:∃m:Nat,c=m:=⟨c.toNat,by omega⟩
   rw [Int.toNat_natCast] at hn ⊢
   refine (Tryz.strings_Repeat s m w (by omega) hn.2.2).mono ?_
   rintro e w' ⟨rfl,hb⟩
   exact ⟨_,rfl,.lit _,hb⟩
  ·cases hr
 ·cases hr
def Zed:List (List AV)→Option (List ByteArray)
 | []=>some []
 | [.lit (.string s)]::l=>(Zed l).map (s::·)
 | _=>none
theorem ZeD:∀{es:List (List AV)} {l:List ByteArray},Zed es=some l→l.length=es.length∧∀(j:Nat) (x:ByteArray),l[j]?=some x→es[j]?=some [.lit (.string x)]
 | [],l,h=>by cases h;exact ⟨rfl,fun j x hj=>by simp at hj⟩
 | e::es,l,h=>by
   unfold Zed at h
   split at h
   ·rename_i heq;cases heq
   ·rename_i s l' heq
    cases heq
    obtain ⟨l',h1,rfl⟩:=Option.map_eq_some_iff.1 h
    obtain ⟨h2,h3⟩:=ZeD h1
    refine ⟨by simp [h2],fun j x hj=>?_⟩
    cases j with
    | zero=>simp only [List.getElem?_cons_zero,Option.some.injEq] at hj;subst hj;rfl
    | succ j=>exact h3 j x (by simpa using hj)
   ·cases h
def ZdO:List AV→Option AV
 | [.sl 1 es,.lit (.string sep)]=>match Zed es with
   | some xs=>if xs.length≤140737488355328∧(Lib.join (xs.map (·.data.toList)) sep.data.toList).length≤140737488355328 then some (.lit (.string ⟨(Lib.join (xs.map (·.data.toList)) sep.data.toList).toArray⟩)) else none
   | none=>none
 | _=>none
theorem Zp1:∀args r,ZdO args=some r→Con Tryz.prog 149 args r:=fun args r hr=>by
 unfold ZdO at hr
 split at hr
 ·rename_i es sep
  split at hr
  ·rename_i xs hxs
   split at hr
   ·rename_i hn
    cases hr
    intro w ok vs hgl hv
    obtain ⟨v,v2,rfl,hv1,hv2⟩:=Xq hv
    cases hv2
    obtain ⟨hlen,hget⟩:=ZeD hxs
    cases hv1 with
    | nil a c=>
      cases hxs
      refine (Tryz.strings_Join_none a c sep w).mono ?_
      rintro e w' ⟨rfl,rfl⟩
      exact ⟨_,rfl,.lit _,Below.refl _ _⟩
    | sl hk hcap hm h=>
      rename_i b o c
      rcases Nat.eq_zero_or_pos es.length with h0|h0
      ·have e0:es=[]:=List.eq_nil_of_length_eq_zero h0
       subst e0
       cases hxs
       refine (Tryz.strings_Join_none (some ⟨b,o,none⟩) c sep w).mono ?_
       rintro e w' ⟨rfl,rfl⟩
       exact ⟨_,rfl,.lit _,Below.refl _ _⟩
      ·have hcell:∀(j:Nat) x,xs[j]?=some x→w.cell? ⟨b,o+j,none⟩=some (.string x):=fun j x hj=>by
        have h1:=hget j x hj
        have h2:=hm j 0 _ _ h1 rfl
        have h3:=h j 0 _ _ h1 rfl
        obtain ⟨u,hu⟩:=Option.isSome_iff_exists.1 h2.2
        rw [hu] at h3
        cases h3
        simpa using hu
       have hbk:b<w.heap.size:=by
        obtain ⟨x,hx⟩:∃x,xs[0]?=some x:=⟨xs[0]'(by omega),List.getElem?_eq_getElem _⟩
        exact Jx (hcell 0 x hx)
       have hj:= Tryz.strings_Join b o c xs sep w hcell hbk hn.1 (by omega) hn.2
       rw [hlen] at hj
       refine hj.mono ?_
       rintro e w' ⟨rfl,hb⟩
       exact ⟨_,rfl,.lit _,hb⟩
   ·cases hr
  ·cases hr
 ·cases hr
end Go.Proofs.YtdaonnnlgfhlaaaGreatDoor
set_option linter.all false
set_option maxRecDepth 100000
set_option maxHeartbeats 2000000
namespace Go.Proofs.YtdaonnnlgfhlaaaGreatDoor
open Go.RowKit
theorem Ztt{w:World}{g:Nat}(h0:w.cell? ⟨g,0,none⟩=some (.pointer (some ⟨g,0,none⟩))):
  Calls Tryz.prog 139 #[.pointer (some ⟨g,0,none⟩)] w fun e w'=>e=.returned (.tuple #[])∧w'=w:=by
 have hj:∃j, Tryz.prog.info? 137=some j∧j.size=2:=⟨_,rfl,rfl⟩
 obtain ⟨j,hj,_⟩:=hj
 have u121: Tryz.prog.underlying 134=some (.pointer 137):=by kernel_rfl
 go_enter Tryz.func139, Tryz.ntmps139
 go_wp2
 rw [Lib.run_neq_ptr_same w _ u121 hj]
 go_wp2
 go_end0
 exact ⟨rfl,rfl⟩
theorem Zrg{w:World}{g:Nat}(h0:w.cell? ⟨g,0,none⟩=some (.pointer none))(hsh:w.shape? g=some (137,2))(hfz:w.frozen? ⟨g,0,none⟩=false):
  Calls Tryz.prog 139 #[.pointer (some ⟨g,0,none⟩)] w fun e w'=>e=.returned (.tuple #[])∧w'=w.setCell ⟨g,0,none⟩ (.pointer (some ⟨g,0,none⟩)):=by
 have hj:∃j, Tryz.prog.info? 137=some j∧j.size=2:=⟨_,rfl,rfl⟩
 obtain ⟨j,hj,hjs⟩:=hj
 have u121: Tryz.prog.underlying 134=some (.pointer 137):=by kernel_rfl
 have u256: Tryz.prog.underlying 160=some .unsafePointer:=by kernel_rfl
 have hl:liesAt Tryz.prog Tryz.prog.depth 137 (2 / Tryz.prog.cellsOf 137) 0 137 1=true:=by kernel_rfl
 go_enter Tryz.func139, Tryz.ntmps139
 go_wp2
 rw [Lib.run_to_unsafe w ⟨g,0,none⟩ u121 u256 hj (by rw [hjs];decide) hsh (Nat.zero_lt_succ 1)]
 simp only [Result.andThen]
 rw [Oper.upon_value]
 go_wp2
 rw [run_callFunc_extern Tryz.func144 (by kernel_rfl) (by kernel_rfl) (by kernel_rfl) (e:=Extern.AbiNoEscape.same) (by kernel_rfl)]
 rw [Lib.run_noEscape]
 simp only [Result.andThen]
 rw [Oper.upon_value]
 go_wp2
 rw [Lib.run_from_unsafe w ⟨g,0,none⟩ u256 u121 hj hsh hl]
 simp only [Result.andThen]
 rw [Oper.upon_value]
 go_wp2
 go_end0
 exact ⟨rfl,rfl⟩
def Zat:List AB→Nat→List (Nat × AB)
 | [],_=>[]
 | b::l,i=>(i,b)::Zat l (i+1)
theorem ZdN:∀(l:List AB) (k i:Nat),YE (Zat l k) i=if k≤i then l[i-k]? else none
 | [],k,i=>by simp [Zat,YE]
 | b::l,k,i=>by
   rw [Zat,YE]
   by_cases e:i=k
   ·subst e;simp
   ·rw [if_neg e,ZdN l (k+1) i]
    by_cases h:k≤i
    ·rw [if_pos (by omega),if_pos h,show i-k=(i-(k+1))+1 by omega,List.getElem?_cons_succ]
    ·rw [if_neg (by omega),if_neg h]
def ZfH:AV→Bool
 | .lit (.pointer none)=>true
 | .ptr 0 0=>true
 | _=>false
def ccG:List AV→List AB→Option (AV × List (Nat × AB))
 | [.ptr 0 0],.box t [p,x] false::rest=>if t= 137∧ZfH p=true then some (.tup [],Zat (.box 137 [.ptr 0 0,x] false::rest) 0) else none
 | _,_=>none
theorem Zij{w:World}{g:Nat}{cur:Array Value}{t:TypeId}{fr:Nat × Nat}(hg:w.heap[g]?=some (.cells cur t fr))(u:Value):w.setCell ⟨g,0,none⟩ u=w.setRow g (cur.setIfInBounds 0 u):=by
 have key:(w.setCell ⟨g,0,none⟩ u).heap=(w.setRow g (cur.setIfInBounds 0 u)).heap:=by
  apply Array.ext_getElem?
  intro i
  by_cases e:i=g
  ·subst e
   rw [setRow_heap w i cur _ t fr hg]
   simp [World.setCell,Array.getElem?_modify,hg]
  ·rw [We w g _ i e]
   simp [World.setCell,Array.getElem?_modify,Ne.symm e]
 unfold World.setCell World.setRow at key ⊢
 simp only at key
 rw [key]
theorem Zwe:∀bin args r outs,ccG args bin=some (r,outs)→ZnV Tryz.prog 139 bin args r outs:=fun bin args r outs hr=>by
 unfold ccG at hr
 split at hr
 ·rename_i t p x rest
  split at hr
  ·rename_i hc
   obtain ⟨rfl,hp⟩:=hc
   cases hr
   intro w E L vs hbs hn hvs
   obtain ⟨v,rfl,hv⟩:=WW hvs
   obtain ⟨g,cells,hL,hg,hsz,hcell,hnu⟩:=hbs.blk 0 _ rfl
   have ev:v=.pointer (some ⟨g,0,none⟩):=by
    cases hv with
    | t hv=>cases hv
    | ptr h=>rw [hL] at h;cases h;rfl
   subst ev
   have hs2:cells.size=2:=hsz
   have c0:w.cell? ⟨g,0,none⟩=some (cells.getD 0 undef):=by
    simp [World.cell?,hg,Array.getD_eq_getD_getElem?,Array.getElem?_eq_getElem (show 0<cells.size by omega)]
   have hp0:=hcell 0 p rfl
   have eB:(fun i=>(AB.box 137 [.ptr 0 0,x] false::rest)[i]?)=YE (Zat (.box 137 [.ptr 0 0,x] false::rest) 0):=by
    funext i;rw [ZdN];simp
   unfold ZfH at hp
   split at hp
   ·obtain e0:=ZY hp0
    rw [e0] at c0
    have hT:QO Tryz.prog 134=some (false,1):=by kernel_rfl
    obtain ⟨_,_,w',hrun,haft⟩:=Zhn (P:= Tryz.prog) (T:=fun _=>.any) hbs hT hv hv (nx:=0) (r:=.any) (up:=[(0,some (.box 137 [.ptr 0 0,x] false))]) (nx':=0) rfl
    have hw':w'=w.setCell ⟨g,0,none⟩ (.pointer (some ⟨g,0,none⟩)):=by
     have h1:=KI (P:= Tryz.prog) hT (v:=.pointer (some ⟨g,0,none⟩)) rfl (fun x hx=>by simp [Value.cells] at hx;subst hx;rfl) hg (o:=0) (by omega)
     rw [h1] at hrun
     have h2:w.setRow g (splice cells.toList 0 (Value.pointer (some ⟨g,0,none⟩)).cells.toList).toArray=w':=by injection hrun
     rw [Zij hg,←h2]
     congr 1
     apply Array.toList_inj.1
     match hcl:cells.toList,(by simpa using hs2:cells.toList.length=2) with
     | [a,b],_=>simp [splice,Value.cells,hcl]
    subst hw'
    refine (Zrg c0 (by simp [World.shape?,hg,hs2]) (by simp [World.frozen?,hg])).mono ?_
    rintro e w' ⟨rfl,rfl⟩
    have eU:ZT (fun i=>(AB.box 137 [.lit (.pointer none),x] false::rest)[i]?) [(0,some (.box 137 [.ptr 0 0,x] false))]=YE (Zat (.box 137 [.ptr 0 0,x] false::rest) 0):=by
     rw [←eB]
     funext i
     cases i with
     | zero=>rfl
     | succ i=>simp [ZT,ZD]
    rw [eU] at haft
    exact ⟨_,L,rfl,fun _ _ _ h=>h,haft.bs,.t (.tup rfl fun i d hi=>by simp at hi),haft.run⟩
   ·generalize cells.getD 0 undef=u0 at hp0 c0
    cases hp0 with
    | t h=>cases h
    | ptr h=>
      rw [hL] at h;cases h
      refine (Ztt c0).mono ?_
      rintro e w' ⟨rfl,rfl⟩
      refine ⟨_,L,rfl,fun _ _ _ h=>h,?_,.t (.tup rfl fun i d hi=>by simp at hi),?_⟩
      ·rw [←eB];exact hbs
      ·rw [←eB];exact Run.refl
   ·cases hp
  ·cases hr
 ·cases hr
end Go.Proofs.YtdaonnnlgfhlaaaGreatDoor
set_option linter.all false
set_option maxRecDepth 100000
set_option maxHeartbeats 6400000
namespace Go.Proofs.YtdaonnnlgfhlaaaGreatDoor
open Go.RowKit
theorem ZlV:∀args r,oZ (fun z=>XH (z:Rat)) args=some r→Con Tryz.prog 34 args r:=fun args r hr=>by
 unfold oZ at hr
 split at hr
 ·rename_i z
  split at hr
  ·rename_i hz
   cases hr
   refine X8 fun w ok vs hv=>?_
   obtain ⟨v,rfl,hv1⟩:=WW hv
   cases hv1
   exact (Zso w z hz.1 hz.2).mono fun _ _ h=>h.ret
  ·cases hr
 ·cases hr
theorem Zxf{w w':World}(hb:Below w.heap.size w w'){b o:Nat}(h:okU w b o):okU w' b o:=by
 obtain ⟨z,hz⟩:=h
 have hl:b<w.heap.size:=World.block_lt_of_cell? w ⟨b,o,none⟩ hz
 exact ⟨z,by rw [hb.cell (p:=⟨b,o,none⟩) hl];exact hz⟩
theorem rv2{R:AV→Value→Prop}{a b:AV}{v u:Value}(h:R a v)(g:R b u):RV R [a,b] [v,u]:=⟨rfl,fun i d hi=>by
 match i,hi with
 | 0,hi=>cases hi;exact ⟨v,rfl,h⟩
 | 1,hi=>cases hi;exact ⟨u,rfl,g⟩
 | i+2,hi=>simp at hi⟩
section
variable {P : Program} {f : FuncId}
theorem ZnH{w w':World}{ok:Nat→Nat→Prop}{r:AV}{v:Value}(hb:Below w.heap.size w w')(h:RepT w' (okN (fun b o=>ok b o∨okU w b o) w w') r v):RepT w' (okN ok w w') r v:=
 h.mono (fun _ _ _ _ h=>h) fun b o u h3 h4=>by
  rcases h3 with (h3|h3)|h3|h3
  ·exact .inl h3
  ·exact .inr (.inr (Zxf hb h3))
  ·exact .inr (.inl h3)
  ·exact .inr (.inr h3)
theorem Con.raw2{A B:AV}{x y:Raw}{r:AV}(hA:Zao A=some x)(hB:Zao B=some y)(h:Con P f [x.av,y.av] r):Con P f [A,B] r:=by
 intro w ok vs hg hv
 obtain ⟨v,u,rfl,hv1,hv2⟩:=Xq hv
 obtain ⟨a1,n1,c1,a2,n2,c2,rfl,h1,h2⟩:=XC hv1 hA
 obtain ⟨a3,n3,c3,a4,n4,c4,rfl,h3,h4⟩:=XC hv2 hB
 refine (h w (fun b o=>ok b o∨okU w b o) _ (hg.mono (fun _ _ _ _ h=>h) (fun _ _ _ h _=>.inl h) fun _ _=>rfl) (rv2 ((Ze5 h1 h2).mono (fun _ _ _ _ h=>h) fun _ _ _ h _=>.inr h) ((Ze5 h3 h4).mono (fun _ _ _ _ h=>h) fun _ _ _ h _=>.inr h))).mono ?_
 rintro e w' ⟨v,he,hr,hb⟩
 exact ⟨v,he,ZnH hb hr,hb⟩
theorem ZmZ{F:Raw→Raw→AV}(h:∀x y:Raw,Lim x.l1→Lim x.l2→Lim y.l1→Lim y.l2→x.few=true→y.few=true→Con P f [x.av,y.av] (F x y)):∀args r,o2 F args=some r→Con P f args r:=by
 intro args r hr
 unfold o2 at hr
 split at hr
 ·rename_i a b
  split at hr
  ·rename_i x y hx hy
   split at hr
   ·rename_i hfew
    cases hr
    rw [Bool.and_eq_true] at hfew
    intro w ok vs hg hv
    obtain ⟨v,u,e,hv1,hv2⟩:=Xq hv
    obtain ⟨a1,n1,c1,a2,n2,c2,_,h1,h2⟩:=XC hv1 hx
    obtain ⟨a3,n3,c3,a4,n4,c4,_,h3,h4⟩:=XC hv2 hy
    exact Con.raw2 hx hy (h x y h1.lim h2.lim h3.lim h4.lim hfew.1 hfew.2) w ok vs hg hv
   ·cases hr
  ·cases hr
 ·cases hr
end
theorem Zvg{F:Raw→Raw→AV}{x y:Raw}(h1:Lim x.l1)(h2:Lim x.l2)(h3:Lim y.l1)(h4:Lim y.l2)(hx:x.few=true)(hy:y.few=true):o2 F [.agg [.lit (.bool x.s),Zd x.l1,Zd x.l2],.agg [.lit (.bool y.s),Zd y.l1,Zd y.l2]]=some (F x y):=by
 have e1:Zao (.agg [.lit (.bool x.s),Zd x.l1,Zd x.l2])=some x:=ZaF h1 h2
 have e2:Zao (.agg [.lit (.bool y.s),Zd y.l1,Zd y.l2])=some y:=ZaF h3 h4
 simp only [o2,e1,e2,hx,hy,Bool.and_self,if_true]
theorem ZoP{F:Raw→AV}{x:Raw}(h1:Lim x.l1)(h2:Lim x.l2)(hx:x.few=true):o1 F [.agg [.lit (.bool x.s),Zd x.l1,Zd x.l2]]=some (F x):=by
 have e1:Zao (.agg [.lit (.bool x.s),Zd x.l1,Zd x.l2])=some x:=ZaF h1 h2
 simp only [o1,e1,hx,if_true]
theorem Zli(x:Raw):(⟨!x.s,x.l1,x.l2⟩:Raw).q=-x.q:=by
 unfold Raw.q sv
 rw [Zcs]
-- Sub
def Zdk:AV→Option (Bool × List Nat)
 | .agg [.lit (.bool s),a]=>match ZbU a with
   | some l=>some (s,l)
   | none=>none
 | _=>none
def XF(l:List Nat):Bool:=Nat.ble l.length 68719476736
def oI1(F:Bool × List Nat→AV):List AV→Option AV
 | [a]=>match Zdk a with
   | some x=>if XF x.2 then some (F x) else none
   | none=>none
 | _=>none
def oI2(F:Bool × List Nat→Bool × List Nat→AV):List AV→Option AV
 | [a,b]=>match Zdk a,Zdk b with
   | some x,some y=>if XF x.2 && XF y.2 then some (F x y) else none
   | _,_=>none
 | _=>none
def oN2(F:List Nat→List Nat→AV):List AV→Option AV
 | [a,b]=>match ZbU a,ZbU b with
   | some x,some y=>if XF x && XF y then some (F x y) else none
   | _,_=>none
 | _=>none
theorem J0{w:World}{ok:Nat→Nat→Prop}{d:AV}{x:Bool × List Nat}{v:Value}(h:RepT w ok d v)(hd:Zdk d=some x):∃a n c,v=.agg #[.bool x.1,.slice a n c]∧LimR w a n c x.2:=by
 unfold Zdk at hd
 split at hd
 ·rename_i s a
  split at hd
  ·rename_i l h1
   cases hd
   cases h with
   | agg hn hh=>
     rename_i vs
     have g0:=hh 0 _ rfl
     have g1:=hh 1 _ rfl
     obtain ⟨a1,n1,c1,e1,k1⟩:=Qi g1 h1
     refine ⟨a1,n1,c1,?_,k1⟩
     have e0:vs.getD 0 undef=.bool s:=by
      generalize vs.getD 0 undef=x at g0
      cases g0;rfl
     congr 1
     apply Array.ext
     ·simpa using hn
     ·intro i hi1 hi2
      have h9:i=0∨i=1:=by simp at hi2;omega
      have gd:vs.getD i undef=vs[i]:=by rw [Array.getD_eq_getD_getElem?,Array.getElem?_eq_getElem hi1];rfl
      rcases h9 with rfl|rfl
      ·rw [←gd,e0];rfl
      ·rw [←gd,e1];rfl
  ·cases hd
 ·cases hd
theorem KL{n:Nat}{l:List Nat}(h:XF l=true)(hn:l.length=n):n≤68719476736:=by subst hn;exact Nat.le_of_ble_eq_true h
section
variable {P : Program} {f : FuncId}
theorem ZzQ{F:Bool × List Nat→AV}(h:∀(w:World) (x:Bool × List Nat) (a:Option Addr) (n c:Nat),LimR w a n c x.2→n≤68719476736→Calls P f #[.agg #[.bool x.1,.slice a n c]] w (Ret (F x) w)):∀args r,oI1 F args=some r→Con P f args r:=by
 intro args r hr
 unfold oI1 at hr
 split at hr
 ·rename_i a
  split at hr
  ·rename_i x hx
   split at hr
   ·rename_i hfew
    cases hr
    refine X8 fun w ok vs hv=>?_
    obtain ⟨v,rfl,hv1⟩:=WW hv
    obtain ⟨a1,n1,c1,rfl,h1⟩:=J0 hv1 hx
    exact h w x a1 n1 c1 h1 (KL hfew h1.len)
   ·cases hr
  ·cases hr
 ·cases hr
theorem Zjz{F:List Nat→List Nat→AV}(h:∀(w:World) (x y:List Nat) (a1 a2:Option Addr) (n1 c1 n2 c2:Nat),LimR w a1 n1 c1 x→LimR w a2 n2 c2 y→n1≤68719476736→n2≤68719476736→Calls P f #[.slice a1 n1 c1,.slice a2 n2 c2] w (Ret (F x y) w)):∀args r,oN2 F args=some r→Con P f args r:=by
 intro args r hr
 unfold oN2 at hr
 split at hr
 ·rename_i a b
  split at hr
  ·rename_i x y hx hy
   split at hr
   ·rename_i hfew
    cases hr
    rw [Bool.and_eq_true] at hfew
    refine X8 fun w ok vs hv=>?_
    obtain ⟨v,u,rfl,hv1,hv2⟩:=Xq hv
    obtain ⟨a1,n1,c1,rfl,h1⟩:=Qi hv1 hx
    obtain ⟨a2,n2,c2,rfl,h2⟩:=Qi hv2 hy
    exact h w x y a1 a2 n1 c1 n2 c2 h1 h2 (KL hfew.1 h1.len) (KL hfew.2 h2.len)
   ·cases hr
  ·cases hr
 ·cases hr
def Zfi(x:Bool × List Nat):AV:=.agg [.lit (.bool x.1),Zd x.2]
theorem ZwN{F:Bool × List Nat→Bool × List Nat→AV}(h:∀x y:Bool × List Nat,Lim x.2→Lim y.2→XF x.2=true→XF y.2=true→Con P f [Zfi x,Zfi y] (F x y)):∀args r,oI2 F args=some r→Con P f args r:=by
 intro args r hr
 unfold oI2 at hr
 split at hr
 ·rename_i a b
  split at hr
  ·rename_i x y hx hy
   split at hr
   ·rename_i hfew
    cases hr
    rw [Bool.and_eq_true] at hfew
    intro w ok vs hg hv
    obtain ⟨v,u,rfl,hv1,hv2⟩:=Xq hv
    obtain ⟨a1,n1,c1,rfl,h1⟩:=J0 hv1 hx
    obtain ⟨a2,n2,c2,rfl,h2⟩:=J0 hv2 hy
    have rep:∀{x:Bool × List Nat} {a:Option Addr} {n c:Nat},LimR w a n c x.2→RepT w (fun b o=>ok b o∨okU w b o) (Zfi x) (.agg #[.bool x.1,.slice a n c]):=fun {x a n c} h=>by
     refine .agg rfl fun i d hi=>?_
     match i,hi with
     | 0,hi=>cases hi;exact .lit _
     | 1,hi=>cases hi;exact (Wi h).mono (fun _ _ _ _ h=>h) fun _ _ _ h _=>.inr h
     | i+2,hi=>simp at hi
    refine (h x y h1.lim h2.lim hfew.1 hfew.2 w (fun b o=>ok b o∨okU w b o) _ (hg.mono (fun _ _ _ _ h=>h) (fun _ _ _ h _=>.inl h) fun _ _=>rfl) (rv2 (rep h1) (rep h2))).mono ?_
    rintro e w' ⟨v,he,hr,hb⟩
    exact ⟨v,he,ZnH hb hr,hb⟩
   ·cases hr
  ·cases hr
 ·cases hr
end
theorem Qn(x:Int):(x<0∧x.sign=-1)∨(x=0∧x.sign=0)∨(0<x∧x.sign=1):=by
 rcases Int.lt_trichotomy x 0 with h|h|h
 ·exact .inl ⟨h,Int.sign_eq_neg_one_of_neg h⟩
 ·exact .inr (.inl ⟨h,by rw [h];rfl⟩)
 ·exact .inr (.inr ⟨h,Int.sign_eq_one_of_pos h⟩)
theorem Zm4{x y:Int}:(x.sign<y.sign→(x-y).sign=-1)∧(y.sign<x.sign→(x-y).sign=1):=by
 rcases Qn x with h|h|h <;>rcases Qn y with g|g|g <;>rcases Qn (x-y) with k|k|k <;>omega
theorem Zig(s1 s2:Bool)(l1 l2:List Nat):(iv s1 l1).sign=(iv s2 l2).sign→((iv s1 l1).sign<0→QW (val l2) (val l1)=(iv s1 l1-iv s2 l2).sign)∧(¬(iv s1 l1).sign<0→QW (val l1) (val l2)=(iv s1 l1-iv s2 l2).sign):=by
 unfold iv QW
 generalize val l1=a
 generalize val l2=b
 intro h
 generalize hx:(if s1=true then -(a:Int) else (a:Int))=x at*
 generalize hy:(if s2=true then -(b:Int) else (b:Int))=y at*
 constructor
 ·intro h0
  cases s1 <;>cases s2 <;>simp at hx hy <;>rcases Qn x with h1|h1|h1 <;>rcases Qn y with g|g|g <;>rcases Qn (x-y) with k|k|k <;>split <;>(try split) <;>omega
 ·intro h0
  cases s1 <;>cases s2 <;>simp at hx hy <;>rcases Qn x with h1|h1|h1 <;>rcases Qn y with g|g|g <;>rcases Qn (x-y) with k|k|k <;>split <;>(try split) <;>omega
theorem Zi9{F:Bool × List Nat→AV}{s:Bool}{l:List Nat}(h1:Lim l)(hx:XF l=true):oI1 F [.agg [.lit (.bool s),Zd l]]=some (F (s,l)):=by
 have e1:Zdk (.agg [.lit (.bool s),Zd l])=some (s,l):=by simp only [Zdk,Qe h1]
 simp only [oI1,e1,hx,if_true]
theorem Ztz{F:Bool × List Nat→Bool × List Nat→AV}{s t:Bool}{l m:List Nat}(h1:Lim l)(h2:Lim m)(hx:XF l=true)(hy:XF m=true):oI2 F [.agg [.lit (.bool s),Zd l],.agg [.lit (.bool t),Zd m]]=some (F (s,l) (t,m)):=by
 have e1:Zdk (.agg [.lit (.bool s),Zd l])=some (s,l):=by simp only [Zdk,Qe h1]
 have e2:Zdk (.agg [.lit (.bool t),Zd m])=some (t,m):=by simp only [Zdk,Qe h2]
 simp only [oI2,e1,e2,hx,hy,Bool.and_self,if_true]
theorem Jt{F:List Nat→List Nat→AV}{l m:List Nat}(h1:Lim l)(h2:Lim m)(hx:XF l=true)(hy:XF m=true):oN2 F [Zd l,Zd m]=some (F l m):=by
 simp only [oN2,Qe h1,Qe h2,hx,hy,Bool.and_self,if_true]
-- integer.Cmp
noncomputable def Zkr:List AV→Option AV:=oI1 fun x=>.lit (.int .i64 (iv x.1 x.2).sign)
noncomputable def ZjK:List AV→Option AV:=oN2 fun x y=>.lit (.int .i64 (QW (val x) (val y)))
noncomputable def Zly:FuncId→Option Orc:=ext (ext noO 73 (.pure Zkr)) 127 (.pure ZjK)
theorem ZtI:OrcOk Tryz.prog Zly:=by
 refine OrcOk.extP (OrcOk.extP OrcOk.none (by kernel_rfl) ?_) (by kernel_rfl) ?_
 ·exact ZzQ fun w x a n c h hn=>(Zer w h (by omega)).mono fun _ _ h=>h.ret
 ·exact Zjz fun w x y a1 a2 n1 c1 n2 c2 h1 h2 b1 b2=>(Vv w h1 h2 (by omega) (by omega)).mono fun e w' h=>by
   obtain ⟨he,k,rfl⟩:=h
   exact ⟨_,he,.lit _,(Below.refl _ _).drewN k⟩
def ZjE(x y:Bool × List Nat):AV:=.lit (.int .i64 (iv x.1 x.2-iv y.1 y.2).sign)
theorem Zm5{x y:Bool × List Nat}(h1:Lim x.2)(h2:Lim y.2)(hx:XF x.2=true)(hy:XF y.2=true):fnP Tryz.prog Zly noL 5 Tryz.f99 [Zfi x,Zfi y]=some (ZjE x y):=by
 obtain ⟨s,l⟩:=x
 obtain ⟨t,m⟩:=y
 have K1:Zkr [.agg [.lit (.bool s),Zd l]]=some (.lit (.int .i64 (iv s l).sign)):=Zi9 h1 hx
 have K2:Zkr [.agg [.lit (.bool t),Zd m]]=some (.lit (.int .i64 (iv t m).sign)):=Zi9 h2 hy
 have K3:ZjK [Zd l,Zd m]=some (.lit (.int .i64 (QW (val l) (val m)))):=Jt h1 h2 hx hy
 have K4:ZjK [Zd m,Zd l]=some (.lit (.int .i64 (QW (val m) (val l)))):=Jt h2 h1 hy hx
 have T1:Zly 73=some (.pure Zkr):=by unfold Zly ext;rw [if_neg (by decide),if_pos rfl]
 have T2:Zly 127=some (.pure ZjK):=by unfold Zly ext;rw [if_pos rfl]
 have HP:=Zig s t l m
 have HS:=Zm4 (x:=iv s l) (y:=iv t m)
 unfold ZjE
 dsimp only
 generalize (iv s l-iv t m).sign=z at*
 generalize (iv s l).sign=a at*
 generalize (iv t m).sign=b at*
 unfold fnP
 by_cases c1:a<b
 ·rw [HS.1 c1]
  simp+decide [Tryz.f99,Zfi,T1,T2,K1,K2,c1]
 by_cases c2:b<a
 ·rw [HS.2 c2]
  simp+decide [Tryz.f99,Zfi,T1,T2,K1,K2,c1,c2]
 obtain ⟨p1,p2⟩:=HP (by omega)
 by_cases c3:a<0
 ·rw [←p1 c3]
  simp+decide [Tryz.f99,Zfi,T1,T2,K1,K2,K4,c1,c2,c3]
 ·rw [←p2 c3]
  simp+decide [Tryz.f99,Zfi,T1,T2,K1,K2,K3,c1,c2,c3]
-- Cmp
def ZlE(z:Int):AV:=.agg [.lit (.bool (decide (z<0))),Zd (lmb z.natAbs)]
noncomputable def Zjs:List AV→Option AV:=o1 fun x=>.lit (.int .i64 (sgR x.q))
noncomputable def ZiJ:List AV→Option AV:=o2 fun x y=>.tup [ZlE (iv x.s x.l1*dn y.l2),ZlE (iv y.s y.l1*dn x.l2)]
noncomputable def Zi5:List AV→Option AV:=oI2 ZjE
noncomputable def ZhJ:FuncId→Option Orc:=ext (ext (ext noO 35 (.pure Zjs)) 98 (.pure ZiJ)) 99 (.pure Zi5)
theorem ZgZ{w:World}{s:Bool}{a:Option Addr}{n c:Nat}{z:Int}(h:IntC w s a n c z):RepT w (okU w) (ZlE z) (.agg #[.bool s,.slice a n c]):=by
 have e:s=decide (z<0):=h.sign.out
 subst e
 refine .agg rfl fun i d hi=>?_
 match i,hi with
 | 0,hi=>cases hi;exact .lit _
 | 1,hi=>cases hi;exact Wi h.mag
 | i+2,hi=>simp at hi
theorem Zuu:OrcOk Tryz.prog ZhJ:=by
 refine OrcOk.extP (OrcOk.extP (OrcOk.extP OrcOk.none (by kernel_rfl) ?_) (by kernel_rfl) ?_) (by kernel_rfl) ?_
 ·exact Zd3 fun w x a1 a2 n1 c1 n2 c2 h1 h2 b1 b2=>(Zey w x.l2 h1 (by omega)).mono fun _ _ h=>h.ret
 ·exact Zhj fun w x y a1 a2 a3 a4 n1 c1 n2 c2 n3 c3 n4 c4 h1 h2 h3 h4 b1 b2 b3 b4=>(Zeo w h1 h2 h3 h4 (by omega) (by omega) (by omega) (by omega)).mono fun e w' h=>by
   obtain ⟨s1,a1,n1,c1,s2,a2,n2,c2,rfl,g1,g2,hb⟩:=h
   refine ⟨_,rfl,.tup rfl fun i d hi=>?_,hb⟩
   match i,hi with
   | 0,hi=>cases hi;exact ZgZ g1
   | 1,hi=>cases hi;exact ZgZ g2
   | i+2,hi=>simp at hi
 ·exact ZwN fun x y h1 h2 hx hy=>ZfF ZtI mixed Tryz.func99 (UF (by kernel_rfl) Tryz.func99) (Zm5 h1 h2 hx hy)
theorem Zw2{z:Int}{d:Nat}(h:0<d):sgR (mkRat z d)=z.sign:=by
 have h2:=ZiG (decide (z<0)) (lmb z.natAbs) (lmb d)
 have e:iv (decide (z<0)) (lmb z.natAbs)=z:=by
  unfold iv
  rw [Zg]
  by_cases hz:z<0 <;>simp [hz] <;>omega
 have e2:sv (decide (z<0)) (lmb z.natAbs) (lmb d)=mkRat z d:=by
  have e3:dn (lmb d)=d:=by
   unfold dn
   rw [Zg]
   have h0:¬d=0:=by omega
   simp only [h0,if_false]
  unfold sv
  rw [e3]
  have e4:sgi (decide (z<0)) (val (lmb z.natAbs))=z:=e
  rw [e4]
 rw [e,e2] at h2
 exact h2.symm
theorem ZxF(x y:Raw):sgR (x.q-y.q)=(iv x.s x.l1*(dn y.l2:Int)-iv y.s y.l1*(dn x.l2:Int)).sign:=by
 rw [Rat.sub_eq_add_neg,←Zli]
 unfold Raw.q sv
 rw [←ZaI _ _ (Yx _) (Yx _),Zw2 (Nat.mul_pos (Yx _) (Yx _))]
 congr 1
 have e:sgi (!y.s) (val y.l1)=-(iv y.s y.l1):=by
  unfold sgi iv
  cases y.s <;>simp
 dsimp only
 rw [e,Int.neg_mul,Int.sub_eq_add_neg]
 rfl
theorem ZtM{p q:Rat}:(sgR p<sgR q→sgR (p-q)=-1)∧(sgR q<sgR p→sgR (p-q)=1):=by
 have np:∀r:Rat,(r<0∧sgR r=-1)∨(r=0∧sgR r=0)∨(0<r∧sgR r=1):=fun r=>by
  have h1:=@Rat.num_nonneg r
  have h2:r.num=0↔r=0:=Rat.num_eq_zero
  unfold sgR
  rcases Qn r.num with h|h|h
  ·refine .inl ⟨?_,h.2⟩
   have:¬0≤r:=fun h3=>by have:=h1.2 h3;omega
   grind
  ·exact .inr (.inl ⟨h2.1 h.1,h.2⟩)
  ·refine .inr (.inr ⟨?_,h.2⟩)
   have h3:=h1.1 (by omega)
   have h4:r≠0:=fun h4=>by have:=h2.2 h4;omega
   grind
 rcases np p with h|h|h <;>rcases np q with g|g|g <;>rcases np (p-q) with k|k|k <;>first|omega|grind
theorem Zje{x y:Raw}(h1:Lim x.l1)(h4:Lim y.l2)(hx:x.few=true)(hy:y.few=true):XF (lmb (iv x.s x.l1*(dn y.l2:Int)).natAbs)=true:=by
 have a1:=(Raw.few_parts hx).1
 have a2:=(Raw.few_parts hy).2
 have e1:=YB (val x.l1) (dn y.l2)
 have e2:=Zn h1
 have e3:(lmb (dn y.l2)).length≤y.l2.length+1:=by
  unfold dn
  split
  ·rw [Xe];simp
  ·have:=Zn h4;omega
 have e4:(iv x.s x.l1*(dn y.l2:Int)).natAbs=val x.l1*dn y.l2:=by
  rw [Int.natAbs_mul,Int.natAbs_natCast]
  congr 1
  unfold iv
  cases x.s <;>simp
 rw [e4]
 exact Nat.ble_eq_true_of_le (by omega)
theorem Zra{x y:Raw}(h1:Lim x.l1)(h2:Lim x.l2)(h3:Lim y.l1)(h4:Lim y.l2)(hx:x.few=true)(hy:y.few=true):fnP Tryz.prog ZhJ noL 5 Tryz.f69 [x.av,y.av]=some (.lit (.int .i64 (sgR (x.q-y.q)))):=by
 have K1:Zjs [.agg [.lit (.bool x.s),Zd x.l1,Zd x.l2]]=some (.lit (.int .i64 (sgR x.q))):=ZoP h1 h2 hx
 have K2:Zjs [.agg [.lit (.bool y.s),Zd y.l1,Zd y.l2]]=some (.lit (.int .i64 (sgR y.q))):=ZoP h3 h4 hy
 have K3:ZiJ [.agg [.lit (.bool x.s),Zd x.l1,Zd x.l2],.agg [.lit (.bool y.s),Zd y.l1,Zd y.l2]]=some (.tup [ZlE (iv x.s x.l1*dn y.l2),ZlE (iv y.s y.l1*dn x.l2)]):=Zvg h1 h2 h3 h4 hx hy
 have key:∀p q:Int,XF (lmb p.natAbs)=true→XF (lmb q.natAbs)=true→Zi5 [.agg [.lit (.bool (decide (p<0))),Zd (lmb p.natAbs)],.agg [.lit (.bool (decide (q<0))),Zd (lmb q.natAbs)]]=some (.lit (.int .i64 (p-q).sign)):=fun p q hp hq=>by
  unfold Zi5
  rw [Ztz (Yq _) (Yq _) hp hq]
  have e:∀z:Int,iv (decide (z<0)) (lmb z.natAbs)=z:=fun z=>by
   unfold iv
   rw [Zg]
   by_cases hz:z<0 <;>simp [hz] <;>omega
  unfold ZjE
  dsimp only
  rw [e,e]
 have K4:=key (iv x.s x.l1*dn y.l2) (iv y.s y.l1*dn x.l2) (Zje h1 h4 hx hy) (Zje h3 h2 hy hx)
 rw [←ZxF] at K4
 have T1:ZhJ 35=some (.pure Zjs):=by unfold ZhJ ext;rw [if_neg (by decide),if_neg (by decide),if_pos rfl]
 have T2:ZhJ 98=some (.pure ZiJ):=by unfold ZhJ ext;rw [if_neg (by decide),if_pos rfl]
 have T3:ZhJ 99=some (.pure Zi5):=by unfold ZhJ ext;rw [if_pos rfl]
 have HS:=ZtM (p:=x.q) (q:=y.q)
 generalize iv x.s x.l1*(dn y.l2:Int)=p at*
 generalize iv y.s y.l1*(dn x.l2:Int)=q at*
 generalize sgR (x.q-y.q)=z at*
 generalize sgR x.q=a at*
 generalize sgR y.q=b at*
 unfold fnP
 by_cases c0:a=b
 ·have c1:(a==b)=true:=by rw [c0];simp
  have c2:(a !=b)=false:=by rw [c0];simp
  simp+decide [Tryz.f69,Raw.av,T1,T2,T3,K1,K2,K3,ZlE,K4,c1,c2]
 ·have c1:(a==b)=false:=by simpa using c0
  have c2:(a !=b)=true:=by simpa using c0
  by_cases c3:a<b
  ·rw [HS.1 c3]
   simp+decide [Tryz.f69,Raw.av,T1,T2,T3,K1,K2,c1,c2,c3]
  ·rw [HS.2 (by omega)]
   simp+decide [Tryz.f69,Raw.av,T1,T2,T3,K1,K2,c1,c2,c3]
theorem ZnT:∀args r,o2 (fun x y=>.lit (.int .i64 (sgR (x.q-y.q)))) args=some r→Con Tryz.prog 69 args r:=
 ZmZ fun x y h1 h2 h3 h4 hx hy=>ZfF Zuu mixed Tryz.func69 (UF (by kernel_rfl) Tryz.func69) (Zra h1 h2 h3 h4 hx hy)
end Go.Proofs.YtdaonnnlgfhlaaaGreatDoor
set_option linter.all false
set_option maxRecDepth 100000
namespace Go.Proofs.YtdaonnnlgfhlaaaGreatDoor
open Go.RowKit Go.Sort
theorem RetN.ret{k:Nat}{w w':World}{e:Ending}(h:RetN k w e w'):Ret (Zd (lmb k)) w e w':=by
 obtain ⟨ad,n,c,rfl,h1,h2⟩:=h
 exact ⟨_,rfl,Wi h1,h2⟩
theorem ZhO{w:World}{ok:Nat→Nat→Prop}{d0 d1:AV}{v0 v1:Value}(h0:RepT w ok d0 v0)(h1:RepT w ok d1 v1):RepT w ok (.tup [d0,d1]) (.tuple #[v0,v1]):=by
 refine .tup rfl fun i d hi=>?_
 match i,hi with
 | 0,hi=>cases hi;exact h0
 | 1,hi=>cases hi;exact h1
 | i+2,hi=>simp at hi
theorem Zox{w:World}{ok:Nat→Nat→Prop}{d0 d1 d2:AV}{v0 v1 v2:Value}(h0:RepT w ok d0 v0)(h1:RepT w ok d1 v1)(h2:RepT w ok d2 v2):RepT w ok (.tup [d0,d1,d2]) (.tuple #[v0,v1,v2]):=by
 refine .tup rfl fun i d hi=>?_
 match i,hi with
 | 0,hi=>cases hi;exact h0
 | 1,hi=>cases hi;exact h1
 | 2,hi=>cases hi;exact h2
 | i+3,hi=>simp at hi
theorem DivPost.ret{q r:Nat}{w w':World}{e:Ending}(h:DivPost q r w e w'):Ret (.tup [Zd (lmb q),Zd (lmb r),.lit (.int .i64 0)]) w e w':=by
 obtain ⟨a1,n1,c1,a2,n2,c2,rfl,h1,h2,h3⟩:=h
 exact ⟨_,rfl,Zox (Wi h1) (Wi h2) (.lit _),h3⟩
def oU(F:Nat→AV):List AV→Option AV
 | [.lit (.int .u64 z)]=>if 0≤z∧z<18446744073709551616 then some (F z.toNat) else none
 | _=>none
def oN1(G:List Nat→Bool)(F:List Nat→AV):List AV→Option AV
 | [a]=>match ZbU a with
   | some x=>if XF x && G x then some (F x) else none
   | none=>none
 | _=>none
def oND(F:List Nat→List Nat→AV):List AV→Option AV
 | [a,b]=>match ZbU a,ZbU b with
   | some x,some y=>if XF x && XF y && Nat.blt 0 (val y) then some (F x y) else none
   | _,_=>none
 | _=>none
section
variable {P : Program} {f : FuncId}
theorem ZyD{F:Nat→AV}(h:∀(w:World) (z:Int),0≤z→z<18446744073709551616→Calls P f #[.int .u64 z] w (Ret (F z.toNat) w)):∀args r,oU F args=some r→Con P f args r:=by
 intro args r hr
 unfold oU at hr
 split at hr
 ·rename_i z
  split at hr
  ·rename_i hz
   cases hr
   refine X8 fun w ok vs hv=>?_
   obtain ⟨v,rfl,hv1⟩:=WW hv
   cases hv1
   exact h w z hz.1 hz.2
  ·cases hr
 ·cases hr
theorem Zg8{G:List Nat→Bool}{F:List Nat→AV}(h:∀(w:World) (x:List Nat) (a:Option Addr) (n c:Nat),LimR w a n c x→n≤68719476736→G x=true→Calls P f #[.slice a n c] w (Ret (F x) w)):∀args r,oN1 G F args=some r→Con P f args r:=by
 intro args r hr
 unfold oN1 at hr
 split at hr
 ·rename_i a
  split at hr
  ·rename_i x hx
   split at hr
   ·rename_i hfew
    cases hr
    rw [Bool.and_eq_true] at hfew
    refine X8 fun w ok vs hv=>?_
    obtain ⟨v,rfl,hv1⟩:=WW hv
    obtain ⟨a1,n1,c1,rfl,h1⟩:=Qi hv1 hx
    exact h w x a1 n1 c1 h1 (KL hfew.1 h1.len) hfew.2
   ·cases hr
  ·cases hr
 ·cases hr
theorem ZuU{F:List Nat→List Nat→AV}(h:∀(w:World) (x y:List Nat) (a1 a2:Option Addr) (n1 c1 n2 c2:Nat),LimR w a1 n1 c1 x→LimR w a2 n2 c2 y→n1≤68719476736→n2≤68719476736→0<val y→Calls P f #[.slice a1 n1 c1,.slice a2 n2 c2] w (Ret (F x y) w)):∀args r,oND F args=some r→Con P f args r:=by
 intro args r hr
 unfold oND at hr
 split at hr
 ·rename_i a b
  split at hr
  ·rename_i x y hx hy
   split at hr
   ·rename_i hfew
    cases hr
    simp only [Bool.and_eq_true] at hfew
    refine X8 fun w ok vs hv=>?_
    obtain ⟨v,u,rfl,hv1,hv2⟩:=Xq hv
    obtain ⟨a1,n1,c1,rfl,h1⟩:=Qi hv1 hx
    obtain ⟨a2,n2,c2,rfl,h2⟩:=Qi hv2 hy
    exact h w x y a1 a2 n1 c1 n2 c2 h1 h2 (KL hfew.1.1 h1.len) (KL hfew.1.2 h2.len) (Nat.le_of_ble_eq_true hfew.2)
   ·cases hr
  ·cases hr
 ·cases hr
end
def Zd5(x:List Nat):Bool:=Nat.blt (val x) 18446744073709551616
theorem Zuk:∀args r,oU (fun k=>Zd (lmb k)) args=some r→Con Tryz.prog 102 args r:=ZyD fun w z h0 h1=>(Zbh w z h0 h1).mono fun _ _ h=>h.ret
theorem ZoK:∀args r,oN2 (fun x y=>Zd (lmb (val x*val y))) args=some r→Con Tryz.prog 76 args r:=Zjz fun w x y a1 a2 n1 c1 n2 c2 h1 h2 b1 b2=>(KD w h1 h2 (by omega) (by omega)).mono fun _ _ h=>h.ret
theorem ZlN:∀args r,oN1 (fun _=>true) (fun x=>Zd (lmb (val x))) args=some r→Con Tryz.prog 105 args r:=Zg8 fun w x a n c h b _=>(Ws w h (by omega)).mono fun _ _ h=>h.ret
theorem Zqg:∀args r,oND (fun x y=>.tup [Zd (lmb (val x / val y)),Zd (lmb (val x % val y)),.lit (.int .i64 0)]) args=some r→Con Tryz.prog 108 args r:=ZuU fun w x y a1 a2 n1 c1 n2 c2 h1 h2 b1 b2 h0=>(Kz w h1 h2 (by omega) (by omega) h0).mono fun _ _ h=>h.ret
theorem ZlB:∀args r,oN1 Zd5 (fun x=>.tup [.lit (.int .u64 (val x:Nat)),.lit (.bool true)]) args=some r→Con Tryz.prog 131 args r:=Zg8 fun w x a n c h b h64=>(ZbT w h (by omega) (Nat.le_of_ble_eq_true h64)).mono fun e w' ⟨he,hw⟩=>⟨_,he,ZhO (.lit _) (.lit _),hw▸Below.refl _ _⟩
theorem Zpt:∀args r,oU (fun k=>Zd (lmb k)) args=some r→Con Tryz.prog 87 args r:=ZyD fun w z h0 h1=>(Zaf w z h0 h1).mono fun _ _ h=>h.ret
theorem Zh1:∀args r,oN1 (fun _=>true) (fun x=>Zd (lmb (val x))) args=some r→Con Tryz.prog 91 args r:=Zg8 fun w x a n c h b _=>(Y3 w h (by omega)).mono fun _ _ h=>h.ret
theorem Zl5:∀args r,oND (fun x y=>.tup [Zd (lmb (val x / val y)),Zd (lmb (val x % val y)),.lit (.int .i64 0)]) args=some r→Con Tryz.prog 89 args r:=ZuU fun w x y a1 a2 n1 c1 n2 c2 h1 h2 b1 b2 h0=>(ZaP w h1 h2 (by omega) (by omega) h0).mono fun _ _ h=>h.ret
theorem Zio:∀args r,oN1 Zd5 (fun x=>.tup [.lit (.int .u64 (val x:Nat)),.lit (.bool true)]) args=some r→Con Tryz.prog 121 args r:=Zg8 fun w x a n c h b h64=>(ZeX w h (by omega)).mono fun e w' ⟨he,hb⟩=>by
 have h9:val x<18446744073709551616:=Nat.le_of_ble_eq_true h64
 rw [if_pos h9,decide_eq_true h9] at he
 exact ⟨_,he,ZhO (.lit _) (.lit _),hb⟩
section
variable (u:Nat) (hu64:u<18446744073709551616) (w:World) (htab:Lib.TabIs Tryz.prog w "internal/strconv.uint64pow10" .u64 Lib.pow10Tab)
include u hu64 w htab
theorem ZAi:
  Calls Tryz.prog 154 #[.int .u64 u,.int .i64 10] w fun e w'=>e=.returned (.string ⟨(Lib.decDigits u).toArray⟩)∧∃k os,w'=grow (w.drewN k) os:=by
 by_cases hs:u<100
 ·go_enter Tryz.func154, Tryz.ntmps154
  have hwr:IntKind.i64.wrap (u:Int)=u:=by simp [IntKind.wrap,IntKind.signed,IntKind.bits];omega
  go_wp2_with (go_at_call 150;refine (Tryz.internal_strconv_small u hs _).mono ?_;rintro e w' ⟨rfl,rfl⟩)
  go_ret
  exact ⟨rfl,0,#[],by simp [World.drewN_zero,Sort.grow]⟩
 ·have hu1:1≤u:=by omega
  have hnd20:Lib.nDigits u≤20:=by have:=Lib.numDigits_eq u hu1 hu64;split at this <;>omega
  have hb3:Lib.nDigits u≤24:=by omega
  have hal: Tryz.prog.arrayLen 168=24:=by kernel_rfl
  have hsl1:∀W,(Instr.sliceAt 168 (.pointer (some ⟨w.heap.size,0,none⟩)) none (some (.int .i64 (Lib.nDigits u:Int))) none).run Tryz.prog W=.ok (.slice (some ⟨w.heap.size,0,none⟩) (Lib.nDigits u) 24) W:=fun W=>by
   rw [run_sliceAt_array_h W 168 ⟨w.heap.size,0,none⟩ (by simp [Program.arrayLen,Program.elem, Tryz.underlying168]) .i64 (Lib.nDigits u:Int) (by omega) (by rw [hal];omega)]
   go_simp
  have hH0:=Lib.holds_zero0 w 168 (Lib.nDigits u) (by omega)
  have hfmt:= Tryz.internal_strconv_formatBase10 w.heap.size 0 24 u (Array.replicate (Lib.nDigits u) 0) (w.alloc (.cells Lib.zeros24 168)) hH0 (by rw [Array.size_replicate];exact Lib.lt_pow_nDigits u) hu64 (by rw [Array.size_replicate];omega)
  rw [Array.size_replicate] at hfmt
  have HH0:=Lib.hid hH0
  clear hH0 hal
  go_enter Tryz.func154, Tryz.ntmps154
  go_wp2_with (first
   | (go_at_call 151;refine (Tryz.internal_strconv_numDigits u hu1 hu64 _ (Lib.tabIs_alloc htab _)).mono ?_;rintro e w' ⟨rfl,rfl⟩))
  go_at_call 152
  refine hfmt.mono ?_
  rintro e w' ⟨rfl,k,v',dk,rfl,hF⟩
  have hcv:(convert 135 9 (.slice (some ⟨w.heap.size,0,none⟩) (Lib.nDigits u) 24)).run Tryz.prog ((putRow (fun (b:UInt8)=>Value.int .u8 (b.toNat:Int)) (w.alloc (.cells Lib.zeros24 168)) w.heap.size 0 dk).drewN k)=.ok (.string ⟨(Lib.decDigits u).toArray⟩) ((putRow (fun (b:UInt8)=>Value.int .u8 (b.toNat:Int)) (w.alloc (.cells Lib.zeros24 168)) w.heap.size 0 dk).drewN k):=by
   have h:=run_convert_bytes_back (P:= Tryz.prog) ((putRow (fun (b:UInt8)=>Value.int .u8 (b.toNat:Int)) (w.alloc (.cells Lib.zeros24 168)) w.heap.size 0 dk).drewN k) 135 9 5 ⟨w.heap.size,0,none⟩ 24 (Lib.decDigits u) Tryz.underlying135 Tryz.underlying5 Tryz.underlying9 (fun j hj=>by
    rw [Lib.row_is_numeral hF j hj,Lib.add_plain,World.cell?_drewN]
    exact cell?_putRow (fun (b:UInt8)=>Value.int .u8 (b.toNat:Int)) _ w.heap.size 0 _ dk HH0.out (by rw [hF.size,Array.size_replicate]) j (by rw [hF.size];rw [Lib.decDigits_length] at hj;exact hj))
   rw [Lib.decDigits_length] at h
   exact h
  go_wp2
  go_ret
  obtain ⟨os,eo⟩:=Lib.fin_at w (.cells Lib.zeros24 168) dk k 0
  exact ⟨rfl,k,os,eo⟩
theorem ZCl:
  Calls Tryz.prog 146 #[.int .u64 u,.int .i64 10] w fun e w'=>e=.returned (.string ⟨(Lib.decDigits u).toArray⟩)∧∃k os,w'=grow (w.drewN k) os:=by
 go_enter Tryz.func146, Tryz.ntmps146
 go_wp2_with (go_at_call 154;refine (ZAi u hu64 _ htab).mono ?_;rintro e w' ⟨rfl,k,os,rfl⟩)
 go_ret
 exact ⟨rfl,k,os,rfl⟩
end
def oFU:List AV→Option AV
 | [.lit (.int .u64 u),.lit (.int .i64 10)]=>if 0≤u∧u<18446744073709551616 then some (.lit (.string ⟨(Lib.decDigits u.toNat).toArray⟩)) else none
 | _=>none
theorem Zwd:∀args r,oFU args=some r→Con Tryz.prog 146 args r:=fun args r hr=>by
 unfold oFU at hr
 split at hr
 ·rename_i u
  split at hr
  ·rename_i hn
   cases hr
   intro w ok vs hgl hv
   obtain ⟨v,v2,rfl,hv1,hv2⟩:=Xq hv
   cases hv1
   cases hv2
   obtain ⟨m,rfl⟩:∃m:Nat,u=m:=⟨u.toNat,by omega⟩
   rw [Int.toNat_natCast]
   refine (ZCl m (by omega) w (Zi2 hgl)).mono ?_
   rintro e w' ⟨rfl,k,os,rfl⟩
   exact ⟨_,rfl,.lit _,Ko⟩
  ·cases hr
 ·cases hr
end Go.Proofs.YtdaonnnlgfhlaaaGreatDoor
set_option linter.all false
set_option maxRecDepth 100000
namespace Go.Proofs.YtdaonnnlgfhlaaaGreatDoor
open Go.RowKit
theorem ZpN{R:AV→Value→Prop}{a b c:AV}{vs:Array Value}(h:RV R [a,b,c] vs.toList):∃v u t,vs=#[v,u,t]∧R a v∧R b u∧R c t:=by
 obtain ⟨h1,h2⟩:=h
 obtain ⟨u,h3,h4⟩:=h2 0 a rfl
 obtain ⟨u',h5,h6⟩:=h2 1 b rfl
 obtain ⟨u2,h7,h8⟩:=h2 2 c rfl
 refine ⟨u,u',u2,?_,h4,h6,h8⟩
 apply Array.toList_inj.1
 match hv:vs.toList,h1 with
 | [x,y,z],_=>rw [hv] at h3 h5 h7;simp at h3 h5 h7;rw [h3,h5,h7]
def oQt:List AV→Option AV
 | [.lit (.bool b),a,c]=>match ZbU a,ZbU c with
   | some x,some y=>if XF x && XF y && Nat.blt 0 (val y) then some (XH (mkRat (sgi b (val x)) (val y))) else none
   | _,_=>none
 | _=>none
theorem Zvc{P:Program}{f:FuncId}(h:∀(w:World) (b:Bool) (x y:List Nat) (a1 a2:Option Addr) (n1 c1 n2 c2:Nat),LimR w a1 n1 c1 x→LimR w a2 n2 c2 y→n1≤68719476736→n2≤68719476736→0<val y→Calls P f #[.bool b,.slice a1 n1 c1,.slice a2 n2 c2] w (Ret (XH (mkRat (sgi b (val x)) (val y))) w)):∀args r,oQt args=some r→Con P f args r:=by
 intro args r hr
 unfold oQt at hr
 split at hr
 ·rename_i b a c
  split at hr
  ·rename_i x y hx hy
   split at hr
   ·rename_i hfew
    cases hr
    simp only [Bool.and_eq_true] at hfew
    refine X8 fun w ok vs hv=>?_
    obtain ⟨v,u,t,rfl,hv0,hv1,hv2⟩:=ZpN hv
    cases hv0
    obtain ⟨a1,n1,c1,rfl,h1⟩:=Qi hv1 hx
    obtain ⟨a2,n2,c2,rfl,h2⟩:=Qi hv2 hy
    exact h w b x y a1 a2 n1 c1 n2 c2 h1 h2 (KL hfew.1.1 h1.len) (KL hfew.1.2 h2.len) (Nat.le_of_ble_eq_true hfew.2)
   ·cases hr
  ·cases hr
 ·cases hr
theorem Zoj:∀args r,oQt args=some r→Con Tryz.prog 75 args r:=Zvc fun w b x y a1 a2 n1 c1 n2 c2 h1 h2 b1 b2 hd=>(Kx w h1 h2 (by omega) (by omega) hd).mono fun _ _ h=>h.ret
theorem Zkw:∀args r,oQt args=some r→Con Tryz.prog 53 args r:=Zvc fun w b x y a1 a2 n1 c1 n2 c2 h1 h2 b1 b2 hd=>(Uh w h1 h2 (by omega) (by omega) hd).mono fun _ _ h=>h.ret
theorem Zlc:∀args r,oN2 (fun x y=>Zd (lmb (val x*val y))) args=some r→Con Tryz.prog 54 args r:=Zjz fun w x y a1 a2 n1 c1 n2 c2 h1 h2 b1 b2=>(WU w h1 h2 (by omega) (by omega)).mono fun _ _ h=>h.ret
theorem ZmU:∀args r,oN2 (fun x y=>Zd (lmb (val x+val y))) args=some r→Con Tryz.prog 113 args r:=Zjz fun w x y a1 a2 n1 c1 n2 c2 h1 h2 b1 b2=>(ZdU w h1 h2 (by omega) (by omega)).mono fun _ _ h=>h.ret
def unL(l:List Nat):List Nat:=if val l=0 then [1] else l
set_option maxHeartbeats 800000 in
theorem Zit(w:World){neg:Bool}{a1 a2:Option Addr}{n1 n2 c1 c2:Nat}{l:List Nat}(h:LimR w a2 n2 c2 l)(hn:n2≤17592186044416):
  Calls Tryz.prog 77 #[.agg #[.bool neg,.slice a1 n1 c1,.slice a2 n2 c2]] w (Ret (Zd (unL l)) w):=by
 have hb0:Below w.heap.size w (w.alloc (.cells #[.bool neg,.slice a1 n1 c1,.slice a2 n2 c2] 26)):=(Below.refl _ _).alloc (Nat.le_refl _) _
 have h':=h.on hb0
 go_enter Tryz.func77, Tryz.ntmps77
 go_wp2_with fail
 refine (ZbL _ h' (by omega)).mono ?_
 rintro e w1 ⟨b,rfl,hb,HB,rfl⟩
 by_cases hz:b=0
 ·have HZ:Hid (val l=0):=HB.out.1 hz
  subst hz
  go_wp2_with fail
  refine (Zc9 _).mono ?_
  rintro e w1 ⟨ad3,n3,c3,rfl,g3,hb3⟩
  go_wp2_with fail
  go_ret
  refine ⟨_,rfl,?_,hb0.trans (hb3.mono hb0.size)⟩
  unfold unL
  rw [if_pos HZ.out,←Xe]
  exact Wi g3
 ·have HZ:Hid (val l≠0):=fun e=>hz (HB.out.2 e)
  have e1:(b==0)=false:=by simp;exact hz
  clear hz
  go_wp2_with fail
  go_ret
  refine ⟨_,rfl,?_,hb0⟩
  unfold unL
  rw [if_neg HZ.out]
  exact Wi h'
theorem Zma:∀args r,(o1 fun x=>Zd (unL x.l2)) args=some r→Con Tryz.prog 77 args r:=Zd3 fun w x a1 a2 n1 c1 n2 c2 h1 h2 b1 b2=>Zit w h2 (by omega)
theorem Znl:∀args r,(oN1 (fun _=>true) fun x=>Zd (lmb (dn x))) args=some r→Con Tryz.prog 55 args r:=Zg8 fun w x a n c h b _=>(Xr w h (by omega)).mono fun _ _ h=>h.ret
end Go.Proofs.YtdaonnnlgfhlaaaGreatDoor
set_option linter.all false
namespace Go.Proofs.YtdaonnnlgfhlaaaGreatDoor
open Go.RowKit
noncomputable def Zie:FuncId→Option Orc:=(ext (ext (ext (ext (ext (ext (ext (ext (ext (ext (ext (ext (ext (ext (ext (ext (ext (ext (ext (ext (ext (ext (ext (ext (ext (ext (ext (ext (ext (ext (ext (ext (ext (ext (ext (ext (ext (ext (ext noO 38 (.pure (o2 fun x y=>XH (x.q+y.q)))) 57 (.pure (o2 fun x y=>XH (x.q-y.q)))) 39 (.pure (o2 fun x y=>XH (x.q*y.q)))) 24 (.pure (o1 fun x=>XH (-x.q)))) 56 (.pure (o1 fun x=>XH x.q))) 15 (.pure (o1 fun x=>.lit (.int .i64 (sgR x.q))))) 25 (.pure (o2 fun x y=>.lit (.int .i64 (sgR (x.q-y.q)))))) 40 (.pure (o2 fun x y=>.lit (.bool (decide (x.s=y.s∧x.l1=y.l1∧x.l2=y.l2)))))) 52 (.pure (o1 fun x=>.lit (.bool (decide (QY x.s x.l1 x.l2)))))) 20 (.pure (oZ fun z=>XH (z:Rat)))) 96 (.pure (oZZ fun x y=>.tup [XH ((x:Rat) / (y:Rat)),.lit (.int .i64 0)]))) 110 (.pure (o2 fun x y=>XH (x.q+y.q)))) 111 (.pure (o2 fun x y=>XH (x.q*y.q)))) 47 (.pure (o1 fun x=>XH (-x.q)))) 85 (.pure (o1 fun x=>XH x.q))) 35 (.pure (o1 fun x=>.lit (.int .i64 (sgR x.q))))) 97 (.pure (o1 fun x=>.lit (.bool (decide (QY x.s x.l1 x.l2)))))) 34 (.pure (oZ fun z=>XH (z:Rat)))) 69 (.pure (o2 fun x y=>.lit (.int .i64 (sgR (x.q-y.q)))))) 102 (.pure (oU fun k=>Zd (lmb k)))) 76 (.pure (oN2 fun x y=>Zd (lmb (val x*val y))))) 105 (.pure (oN1 (fun _=>true) fun x=>Zd (lmb (val x))))) 108 (.pure (oND fun x y=>.tup [Zd (lmb (val x / val y)),Zd (lmb (val x % val y)),.lit (.int .i64 0)]))) 131 (.pure (oN1 Zd5 fun x=>.tup [.lit (.int .u64 (val x:Nat)),.lit (.bool true)]))) 87 (.pure (oU fun k=>Zd (lmb k)))) 91 (.pure (oN1 (fun _=>true) fun x=>Zd (lmb (val x))))) 89 (.pure (oND fun x y=>.tup [Zd (lmb (val x / val y)),Zd (lmb (val x % val y)),.lit (.int .i64 0)]))) 121 (.pure (oN1 Zd5 fun x=>.tup [.lit (.int .u64 (val x:Nat)),.lit (.bool true)]))) 54 (.pure (oN2 fun x y=>Zd (lmb (val x*val y))))) 113 (.pure (oN2 fun x y=>Zd (lmb (val x+val y))))) 77 (.pure (o1 fun x=>Zd (unL x.l2)))) 55 (.pure (oN1 (fun _=>true) fun x=>Zd (lmb (dn x))))) 75 (.pure (oQt))) 53 (.pure (oQt))) 146 (.pure (oFU))) 118 (.pure (Kl))) 147 (.pure (U2))) 149 (.pure (ZdO))) 139 (.lin [true] ccG))
theorem orc0_ok:OrcOk Tryz.prog Zie:=by
 refine OrcOk.extL (OrcOk.extP (OrcOk.extP (OrcOk.extP (OrcOk.extP (OrcOk.extP (OrcOk.extP (OrcOk.extP (OrcOk.extP (OrcOk.extP (OrcOk.extP (OrcOk.extP (OrcOk.extP (OrcOk.extP (OrcOk.extP (OrcOk.extP (OrcOk.extP (OrcOk.extP (OrcOk.extP (OrcOk.extP (OrcOk.extP (OrcOk.extP (OrcOk.extP (OrcOk.extP (OrcOk.extP (OrcOk.extP (OrcOk.extP (OrcOk.extP (OrcOk.extP (OrcOk.extP (OrcOk.extP (OrcOk.extP (OrcOk.extP (OrcOk.extP (OrcOk.extP (OrcOk.extP (OrcOk.extP (OrcOk.extP (OrcOk.extP OrcOk.none (by kernel_rfl) ?_) (by kernel_rfl) ?_) (by kernel_rfl) ?_) (by kernel_rfl) ?_) (by kernel_rfl) ?_) (by kernel_rfl) ?_) (by kernel_rfl) ?_) (by kernel_rfl) ?_) (by kernel_rfl) ?_) (by kernel_rfl) ?_) (by kernel_rfl) ?_) (by kernel_rfl) ?_) (by kernel_rfl) ?_) (by kernel_rfl) ?_) (by kernel_rfl) ?_) (by kernel_rfl) ?_) (by kernel_rfl) ?_) (by kernel_rfl) ?_) (by kernel_rfl) ?_) (by kernel_rfl) ?_) (by kernel_rfl) ?_) (by kernel_rfl) ?_) (by kernel_rfl) ?_) (by kernel_rfl) ?_) (by kernel_rfl) ?_) (by kernel_rfl) ?_) (by kernel_rfl) ?_) (by kernel_rfl) ?_) (by kernel_rfl) ?_) (by kernel_rfl) ?_) (by kernel_rfl) ?_) (by kernel_rfl) ?_) (by kernel_rfl) ?_) (by kernel_rfl) ?_) (by kernel_rfl) ?_) (by kernel_rfl) ?_) (by kernel_rfl) ?_) (by kernel_rfl) ?_) (by kernel_rfl) ?_
 ·exact Zhj fun w x y a1 a2 a3 a4 n1 c1 n2 c2 n3 c3 n4 c4 h1 h2 h3 h4 b1 b2 b3 b4=>(Zef w h1 h2 h3 h4 (by omega) (by omega) (by omega) (by omega)).mono fun _ _ h=>h.ret
 ·exact Zhj fun w x y a1 a2 a3 a4 n1 c1 n2 c2 n3 c3 n4 c4 h1 h2 h3 h4 b1 b2 b3 b4=>(ZeJ w h1 h2 h3 h4 (by omega) (by omega) (by omega) (by omega)).mono fun _ _ h=>h.ret
 ·exact Zhj fun w x y a1 a2 a3 a4 n1 c1 n2 c2 n3 c3 n4 c4 h1 h2 h3 h4 b1 b2 b3 b4=>(ZlY w h1 h2 h3 h4 (by omega) (by omega) (by omega) (by omega)).mono fun _ _ h=>h.ret
 ·exact Zd3 fun w x a1 a2 n1 c1 n2 c2 h1 h2 b1 b2=>(ZhL w h1 h2 (by omega) (by omega)).mono fun _ _ h=>h.ret
 ·exact Zd3 fun w x a1 a2 n1 c1 n2 c2 h1 h2 b1 b2=>(JN w h1 h2 (by omega) (by omega)).mono fun _ _ h=>h.ret
 ·exact Zd3 fun w x a1 a2 n1 c1 n2 c2 h1 h2 b1 b2=>(ZeL w x.l2 h1 (by omega)).mono fun _ _ h=>h.ret
 ·exact Zhj fun w x y a1 a2 a3 a4 n1 c1 n2 c2 n3 c3 n4 c4 h1 h2 h3 h4 b1 b2 b3 b4=>(ZkR w h1 h2 h3 h4 (by omega) (by omega) (by omega) (by omega)).mono fun _ _ h=>h.ret
 ·exact Zhj fun w x y a1 a2 a3 a4 n1 c1 n2 c2 n3 c3 n4 c4 h1 h2 h3 h4 b1 b2 b3 b4=>(Zdy w h1 h2 h3 h4 (by omega) (by omega) (by omega) (by omega)).mono fun _ _ h=>h.ret
 ·exact Zd3 fun w x a1 a2 n1 c1 n2 c2 h1 h2 b1 b2=>(ZhW w h1 h2 (by omega) (by omega)).mono fun _ _ h=>h.ret
 ·exact ZoH
 ·exact ZoT
 ·exact Zhj fun w x y a1 a2 a3 a4 n1 c1 n2 c2 n3 c3 n4 c4 h1 h2 h3 h4 b1 b2 b3 b4=>(Zn2 w h1 h2 h3 h4 (by omega) (by omega) (by omega) (by omega)).mono fun _ _ h=>h.ret
 ·exact Zhj fun w x y a1 a2 a3 a4 n1 c1 n2 c2 n3 c3 n4 c4 h1 h2 h3 h4 b1 b2 b3 b4=>(Zm3 w h1 h2 h3 h4 (by omega) (by omega) (by omega) (by omega)).mono fun _ _ h=>h.ret
 ·exact Zd3 fun w x a1 a2 n1 c1 n2 c2 h1 h2 b1 b2=>(Zpb w h1 h2 (by omega) (by omega)).mono fun _ _ h=>h.ret
 ·exact Zd3 fun w x a1 a2 n1 c1 n2 c2 h1 h2 b1 b2=>(ZbB w h1 h2 (by omega) (by omega)).mono fun _ _ h=>h.ret
 ·exact Zd3 fun w x a1 a2 n1 c1 n2 c2 h1 h2 b1 b2=>(Zey w x.l2 h1 (by omega)).mono fun _ _ h=>h.ret
 ·exact Zd3 fun w x a1 a2 n1 c1 n2 c2 h1 h2 b1 b2=>(ZiX w h1 h2 (by omega) (by omega)).mono fun _ _ h=>h.ret
 ·exact ZlV
 ·exact ZnT
 ·exact Zuk
 ·exact ZoK
 ·exact ZlN
 ·exact Zqg
 ·exact ZlB
 ·exact Zpt
 ·exact Zh1
 ·exact Zl5
 ·exact Zio
 ·exact Zlc
 ·exact ZmU
 ·exact Zma
 ·exact Znl
 ·exact Zoj
 ·exact Zkw
 ·exact Zwd
 ·exact Zn8
 ·exact Zh3
 ·exact Zp1
 ·exact Zwe
end Go.Proofs.YtdaonnnlgfhlaaaGreatDoor
