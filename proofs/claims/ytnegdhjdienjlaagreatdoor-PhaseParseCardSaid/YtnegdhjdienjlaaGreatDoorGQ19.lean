import Derived.Test.YtnegdhjdienjlaaGreatDoorGQ17
import Derived.Test.YtnegdhjdienjlaaGreatDoorGQ5
import Derived.Test.YtnegdhjdienjlaaGreatDoorGQ6
import Derived.Test.YtnegdhjdienjlaaGreatDoorGQ18
import Derived.IntWalk
import Derived.Shelf.Strings.Builder1
import Derived.Shelf.Strings.OnBuilder
import Derived.Shelf.Small.Strs
import Derived.Shelf.Strconv.Atoi
import Derived.Shelf.Strconv.Itoa0
import Derived.Shelf.Strconv.Itoa1
import Derived.Shelf.LaysM
import Derived.Shelf.Strconv.Itoa2
import Derived.Shelf.Strconv.Itoa3
import Derived.Shelf.Strconv.AtoiErrFast
import Derived.Shelf.LaysC
import Derived.Shelf.Strconv.AtoiErr
import Derived.Shelf.Strings.Search1
import Derived.Shelf.Strings.Repeat
import Derived.Ground.Names2Prog
import Derived.Shelf.Slices.ReverseS
import Derived.Shelf.Slices.Cells
import Derived.Test.YtnegdhjdienjlaaGreatDoorProg
import Derived.Shelf.Strings.Builder2
import Derived.Shelf.Strings.Trim
import Derived.Shelf.Small.Utf8
import Derived.Shelf.Small.Bits
import Derived.Shelf.Strings.BuilderF
import Derived.Shelf.Utf8.RuneCount
import Derived.Shelf.Strconv.ParseIntEmpty
import Derived.Shelf.Strconv.AtoiFail
import Derived.Shelf.Strconv.Clone
import Derived.Shelf.Strconv.SyntaxError
import Derived.Shelf.Strconv.ToError
import Derived.Shelf.Strconv.ErrVar
import Derived.Shelf.Strings.Search2
import Derived.Shelf.Strings.Search3
import Derived.Shelf.Strings.Count
import Derived.Shelf.Strings.Shaped
import Derived.Shelf.Strings.LastIndex
import Derived.Shelf.Strings.LastIndexAll
import Derived.Shelf.Strings.Prefix
import Derived.Shelf.Strings.Split
import Derived.Shelf.Strings.Replace
import Derived.Shelf.Strings.SplitShaped
import Derived.Shelf.Unicode.Decode
import Derived.Shelf.Strings.Runes
import Derived.Shelf.Strings.RuneCount
import Derived.Shelf.Strings.AsciiSet
import Derived.Shelf.Strings.Explode
import Derived.Shelf.Bits.Mul64
import Derived.Shelf.Unicode.DecodeSlow
import Derived.Shelf.Unicode.DecodeAny
import Derived.Shelf.Unicode.DecodeLast
import Derived.Lib.Builder
import Derived.Laws.Externs
import Derived.Lib.AppendIntMem
import Derived.Lib.AtoiErrMem
import Derived.Shelf.Strings.SlTrimAscii
import Derived.Lib.SlBytesRow
import Derived.Test.YtnegdhjdienjlaaGreatDoorGQ12
import Derived.Shelf.Strconv.AtoiAll
set_option linter.all false
namespace Go.Proofs.YtnegdhjdienjlaaGreatDoor
open Go.RowKit
def natA(l:List Nat):AV:=.sl 1 (l.map fun (x:Nat)=>[.lit (.int .u32 (x:Int))])
structure Raw where
 s:Bool
 l1:List Nat
 l2:List Nat
 deriving DecidableEq
def Raw.q(r:Raw):Rat:=sv r.s r.l1 r.l2
def Raw.av(r:Raw):AV:=.agg [.lit (.bool r.s),natA r.l1,natA r.l2]
def rawQ(q:Rat):Raw:=⟨decide (q.num<0),lmb q.num.natAbs,dlmb q.den⟩
def ratA(q:Rat):AV:=(rawQ q).av
def limb1:List AV→Option Nat
 | [.lit (.int .u32 z)]=>if 0≤z∧z<4294967296 then some z.toNat else none
 | _=>none
def limbs:List (List AV)→Option (List Nat)
 | []=>some []
 | e::l=>match limb1 e,limbs l with
   | some x,some xs=>some (x::xs)
   | _,_=>none
def decN:AV→Option (List Nat)
 | .sl 1 es=>limbs es
 | .nl _=>some []
 | .lit (.slice none 0 0)=>some []
 | _=>none
def decR:AV→Option Raw
 | .agg [.lit (.bool s),a,b]=>match decN a,decN b with
   | some l1,some l2=>some ⟨s,l1,l2⟩
   | _,_=>none
 | _=>none
theorem limbs_map{l:List Nat}(h:Lim l):limbs (l.map fun (x:Nat)=>[.lit (.int .u32 (x:Int))])=some l:=by
 induction l with
 | nil=>rfl
 | cons x l ih=>
   have hx:=lim_head h
   have e:limb1 [.lit (.int .u32 (x:Int))]=some x:=by
    unfold limb1
    dsimp only
    rw [if_pos ⟨by omega,by omega⟩,Int.toNat_natCast]
   rw [List.map_cons,limbs,e,ih (lim_tail h)]
theorem decN_nat{l:List Nat}(h:Lim l):decN (natA l)=some l:=limbs_map h
theorem decR_av{r:Raw}(h1:Lim r.l1)(h2:Lim r.l2):decR r.av=some r:=by
 simp only [Raw.av,decR,decN_nat h1,decN_nat h2]
theorem lim_dlmb(d:Nat):Lim (dlmb d):=by unfold dlmb;split;exact lim_nil;exact lim_lmb d
theorem rawQ_q(q:Rat):(rawQ q).q=q:=by
 have h:RatC (default:World) (rawQ q).s none (rawQ q).l1.length (rawQ q).l1.length none (rawQ q).l2.length (rawQ q).l2.length q→(rawQ q).q=q:=fun h=>h.sv_
 unfold Raw.q rawQ sv
 dsimp only
 rw [val_lmb]
 have e:dn (dlmb q.den)=q.den:=dn_dlmb q.den_pos
 rw [e]
 have e2:sgi (decide (q.num<0)) q.num.natAbs=q.num:=by
  unfold sgi
  by_cases h:q.num<0
  ·simp [h];omega
  ·simp [h];omega
 rw [e2,Rat.mkRat_self]
section
variable {w : World} {ok : Nat → Nat → Prop}
theorem limbs_cells{es:List (List AV)}{l:List Nat}(h:limbs es=some l):es.length=l.length∧Lim l∧∀(i:Nat) (x:Nat),l[i]?=some x→es[i]?=some [.lit (.int .u32 (x:Int))]:=by
 induction es generalizing l with
 | nil=>simp [limbs] at h;subst h;exact ⟨rfl,lim_nil,fun i x h=>by simp at h⟩
 | cons e es ih=>
   simp only [limbs] at h
   split at h
   ·rename_i x xs h1 h2
    cases h
    obtain ⟨h3,h4,h5⟩:=ih h2
    unfold limb1 at h1
    split at h1
    ·rename_i z
     split at h1
     ·rename_i hz
      cases h1
      refine ⟨by simp [h3],lim_cons (by omega) h4,fun i x hi=>?_⟩
      cases i with
      | zero=>
        simp at hi
        subst hi
        simp [Int.toNat_of_nonneg hz.1]
      | succ i=>simpa using h5 i x (by simpa using hi)
     ·cases h1
    ·cases h1
   ·cases h
theorem decN_sound{d:AV}{l:List Nat}{v:Value}(h:RepT w ok d v)(hd:decN d=some l):∃a n c,v=.slice a n c∧LimR w a n c l:=by
 unfold decN at hd
 split at hd
 ·rename_i es
  obtain ⟨h1,h2,h3⟩:=limbs_cells hd
  cases h with
  | nil a c=>
    have:l=[]:=List.eq_nil_of_length_eq_zero h1.symm
    subst this
    exact ⟨a,0,c,rfl,LimR.nil w a c⟩
  | sl hk hc hm hh=>
    rename_i b o c
    refine ⟨_,_,c,rfl,h1.symm,hc,h2,fun h0=>?_⟩
    have cell:∀i,i<es.length→w.cell? ⟨b,o+i,none⟩=some (.int .u32 (l.getD i 0:Nat)):=fun i hi=>by
     have hil:i<l.length:=by omega
     have hx:l[i]?=some l[i]:=List.getElem?_eq_getElem hil
     have h4:=h3 i _ hx
     have h5:=hm i 0 _ _ h4 rfl
     have h6:=hh i 0 _ _ h4 rfl
     obtain ⟨u,hu⟩:=Option.isSome_iff_exists.1 h5.2
     rw [hu] at h6
     simp only [Nat.mul_one,Nat.add_zero] at hu
     cases h6
     rw [hu]
     simp [List.getD_eq_getElem?_getD,hx]
    exact ⟨b,o,rfl,cell_lt (cell 0 h0),cell⟩
 ·cases hd
  cases h with
  | nl k=>exact ⟨_,_,_,rfl,LimR.nil w _ _⟩
 ·cases hd
  cases h with
  | lit v=>exact ⟨_,_,_,rfl,LimR.nil w _ _⟩
 ·cases hd
theorem decR_sound{d:AV}{r:Raw}{v:Value}(h:RepT w ok d v)(hd:decR d=some r):∃a1 n1 c1 a2 n2 c2,v=.agg #[.bool r.s,.slice a1 n1 c1,.slice a2 n2 c2]∧LimR w a1 n1 c1 r.l1∧LimR w a2 n2 c2 r.l2:=by
 unfold decR at hd
 split at hd
 ·rename_i s a b
  split at hd
  ·rename_i l1 l2 h1 h2
   cases hd
   cases h with
   | agg hn hh=>
     rename_i vs
     have g0:=hh 0 _ rfl
     have g1:=hh 1 _ rfl
     have g2:=hh 2 _ rfl
     obtain ⟨a1,n1,c1,e1,k1⟩:=decN_sound g1 h1
     obtain ⟨a2,n2,c2,e2,k2⟩:=decN_sound g2 h2
     refine ⟨a1,n1,c1,a2,n2,c2,?_,k1,k2⟩
     have e0:vs.getD 0 undef=.bool s:=by
      generalize vs.getD 0 undef=x at g0
      cases g0;rfl
     congr 1
     apply Array.ext
     ·simpa using hn
     ·intro i hi1 hi2
      have h9:i=0∨i=1∨i=2:=by simp at hi2;omega
      have gd:vs.getD i undef=vs[i]:=by rw [Array.getD_eq_getD_getElem?,Array.getElem?_eq_getElem hi1];rfl
      rcases h9 with rfl|rfl|rfl
      ·rw [←gd,e0];rfl
      ·rw [←gd,e1];rfl
      ·rw [←gd,e2];rfl
  ·cases hd
 ·cases hd
def okU(w:World)(b o:Nat):Prop:=∃z,w.cell? ⟨b,o,none⟩=some (.int .u32 z)
theorem natA_rep{a:Option Addr}{n c:Nat}{l:List Nat}(h:LimR w a n c l):RepT w (okU w) (natA l) (.slice a n c):=by
 have hl:=h.len
 subst hl
 by_cases h0:l=[]
 ·subst h0;exact .nil a c
 ·obtain ⟨b,o,rfl,hb,hc⟩:=h.cells (List.length_pos_iff.2 h0)
  have main:RepT w (okU w) (.sl 1 (l.map fun (x:Nat)=>[.lit (.int .u32 (x:Int))])) (.slice (some ⟨b,o,none⟩) (l.map fun (x:Nat)=>[AV.lit (.int .u32 (x:Int))]).length c):=by
   have cell:∀(i j:Nat) (e:List AV) (d:AV),(l.map fun (x:Nat)=>[AV.lit (.int .u32 (x:Int))])[i]?=some e→e[j]?=some d→∃z,d=.lit (.int .u32 z)∧w.cell? ⟨b,o+i*1+j,none⟩=some (.int .u32 z):=fun i j e d hi hj=>by
    rw [List.getElem?_map] at hi
    cases hx:l[i]? with
    | none=>rw [hx] at hi;cases hi
    | some x=>
      rw [hx] at hi
      cases hi
      have hlt:=(List.getElem?_eq_some_iff.1 hx).1
      have hj0:j=0:=by have:=(List.getElem?_eq_some_iff.1 hj).1;simp at this;omega
      subst hj0
      simp at hj
      refine ⟨x,hj.symm,?_⟩
      rw [Nat.mul_one,Nat.add_zero,hc i hlt]
      simp [List.getD_eq_getElem?_getD,hx]
   refine .sl (fun e he=>?_) (by simpa using h.cap) (fun i j e d hi hj=>?_) (fun i j e d hi hj=>?_)
   ·obtain ⟨x,_,rfl⟩:=List.mem_map.1 he;rfl
   ·obtain ⟨z,_,h3⟩:=cell i j e d hi hj
    exact ⟨⟨z,h3⟩,by rw [h3];rfl⟩
   ·obtain ⟨z,rfl,h3⟩:=cell i j e d hi hj
    rw [h3];exact .lit _
  rw [List.length_map] at main
  exact main
theorem agg3_rep{d0 d1 d2:AV}{v0 v1 v2:Value}(h0:RepT w ok d0 v0)(h1:RepT w ok d1 v1)(h2:RepT w ok d2 v2):RepT w ok (.agg [d0,d1,d2]) (.agg #[v0,v1,v2]):=by
 refine .agg rfl fun i d hi=>?_
 match i,hi with
 | 0,hi=>cases hi;exact h0
 | 1,hi=>cases hi;exact h1
 | 2,hi=>cases hi;exact h2
 | i+3,hi=>simp at hi
theorem raw_rep{r:Raw}{a1 a2:Option Addr}{n1 c1 n2 c2:Nat}(h1:LimR w a1 n1 c1 r.l1)(h2:LimR w a2 n2 c2 r.l2):RepT w (okU w) r.av (.agg #[.bool r.s,.slice a1 n1 c1,.slice a2 n2 c2]):=agg3_rep (.lit _) (natA_rep h1) (natA_rep h2)
theorem ratC_rep{s:Bool}{a1 a2:Option Addr}{n1 c1 n2 c2:Nat}{q:Rat}(h:RatC w s a1 n1 c1 a2 n2 c2 q):RepT w (okU w) (ratA q) (.agg #[.bool s,.slice a1 n1 c1,.slice a2 n2 c2]):=by
 have e:s=(rawQ q).s:=h.sign.out
 rw [e]
 exact raw_rep (r:=rawQ q) h.num h.den
theorem okU_okN{w':World}{d:AV}{v:Value}(h:RepT w' (okU w') d v):RepT w' (okN ok w w') d v:=h.mono (fun _ _ _ _ h=>h) fun b o _ h1 _=>.inr (.inr h1)
end
def Raw.few(r:Raw):Bool:=Nat.ble r.l1.length 17179869184 && Nat.ble r.l2.length 17179869184
theorem Raw.few_parts{r:Raw}(h:r.few=true):r.l1.length≤17179869184∧r.l2.length≤17179869184:=by
 unfold Raw.few at h
 rw [Bool.and_eq_true] at h
 exact ⟨Nat.le_of_ble_eq_true h.1,Nat.le_of_ble_eq_true h.2⟩
def o1(F:Raw→AV):List AV→Option AV
 | [a]=>match decR a with
   | some x=>if x.few then some (F x) else none
   | none=>none
 | _=>none
def o2(F:Raw→Raw→AV):List AV→Option AV
 | [a,b]=>match decR a,decR b with
   | some x,some y=>if x.few && y.few then some (F x y) else none
   | _,_=>none
 | _=>none
def Ret(d:AV)(w:World)(e:Ending)(w':World):Prop:=∃v,e=.returned v∧RepT w' (okU w') d v∧Below w.heap.size w w'
theorem RetR.ret{q:Rat}{w w':World}{e:Ending}(h:RetR q w e w'):Ret (ratA q) w e w':=by
 obtain ⟨s,a1,n1,c1,a2,n2,c2,rfl,h1,h2⟩:=h
 exact ⟨_,rfl,ratC_rep h1,h2⟩
theorem RetInt.ret{z:Int}{w w':World}{e:Ending}(h:RetInt z w e w'):Ret (.lit (.int .i64 z)) w e w':=⟨_,h.1,.lit _,h.2⟩
theorem RetB.ret{b:Bool}{w w':World}{e:Ending}(h:RetB b w e w'):Ret (.lit (.bool b)) w e w':=⟨_,h.1,.lit _,h.2⟩
theorem rv_list1{R:AV→Value→Prop}{a:AV}{vs:Array Value}(h:RV R [a] vs.toList):∃v,vs=#[v]∧R a v:=by
 obtain ⟨h1,h2⟩:=h
 obtain ⟨u,h3,h4⟩:=h2 0 a rfl
 refine ⟨u,?_,h4⟩
 apply Array.toList_inj.1
 match hv:vs.toList,h1 with
 | [x],_=>rw [hv] at h3;simp at h3;rw [h3]
theorem rv_list2{R:AV→Value→Prop}{a b:AV}{vs:Array Value}(h:RV R [a,b] vs.toList):∃v u,vs=#[v,u]∧R a v∧R b u:=by
 obtain ⟨h1,h2⟩:=h
 obtain ⟨u,h3,h4⟩:=h2 0 a rfl
 obtain ⟨u',h5,h6⟩:=h2 1 b rfl
 refine ⟨u,u',?_,h4,h6⟩
 apply Array.toList_inj.1
 match hv:vs.toList,h1 with
 | [x,y],_=>rw [hv] at h3 h5;simp at h3 h5;rw [h3,h5]
section
variable {P : Program} {f : FuncId}
theorem con_ret{args:List AV}{r:AV}(h:∀(w:World) (ok:Nat→Nat→Prop) (vs:Array Value),RV (RepT w ok) args vs.toList→Calls P f vs w (Ret r w)):Con P f args r:=fun w ok vs _ hv=>
 (h w ok vs hv).mono fun _ _ ⟨v,he,h1,h2⟩=>⟨v,he,okU_okN h1,h2⟩
theorem con1{F:Raw→AV}(h:∀(w:World) (x:Raw) (a1 a2:Option Addr) (n1 c1 n2 c2:Nat),LimR w a1 n1 c1 x.l1→LimR w a2 n2 c2 x.l2→n1≤17179869184→n2≤17179869184→Calls P f #[.agg #[.bool x.s,.slice a1 n1 c1,.slice a2 n2 c2]] w (Ret (F x) w)):
  ∀args r,o1 F args=some r→Con P f args r:=by
 intro args r hr
 unfold o1 at hr
 split at hr
 ·rename_i a
  split at hr
  ·rename_i x hx
   split at hr
   ·rename_i hfew
    cases hr
    obtain ⟨f1,f2⟩:=Raw.few_parts hfew
    refine con_ret fun w ok vs hv=>?_
    obtain ⟨v,rfl,hv1⟩:=rv_list1 hv
    obtain ⟨a1,n1,c1,a2,n2,c2,rfl,h1,h2⟩:=decR_sound hv1 hx
    exact h w x a1 a2 n1 c1 n2 c2 h1 h2 (by rw [←h1.len];exact f1) (by rw [←h2.len];exact f2)
   ·cases hr
  ·cases hr
 ·cases hr
theorem con2 {F:Raw→Raw→AV} (h:∀(w:World) (x y:Raw) (a1 a2 a3 a4:Option Addr) (n1 c1 n2 c2 n3 c3 n4 c4:Nat),LimR w a1 n1 c1 x.l1→LimR w a2 n2 c2 x.l2→LimR w a3 n3 c3 y.l1→LimR w a4 n4 c4 y.l2→n1≤17179869184→n2≤17179869184→n3≤17179869184→n4≤17179869184→
   Calls P f #[.agg #[.bool x.s,.slice a1 n1 c1,.slice a2 n2 c2],.agg #[.bool y.s,.slice a3 n3 c3,.slice a4 n4 c4]] w (Ret (F x y) w)):
  ∀args r,o2 F args=some r→Con P f args r:=by
 intro args r hr
 unfold o2 at hr
 split at hr
 ·rename_i a b
  split at hr
  ·rename_i x y hx hy
   split at hr
   ·rename_i hfew
    cases hr
    rw [Bool.and_eq_true] at hfew
    obtain ⟨f1,f2⟩:=Raw.few_parts hfew.1
    obtain ⟨f3,f4⟩:=Raw.few_parts hfew.2
    refine con_ret fun w ok vs hv=>?_
    obtain ⟨v,u,rfl,hv1,hv2⟩:=rv_list2 hv
    obtain ⟨a1,n1,c1,a2,n2,c2,rfl,h1,h2⟩:=decR_sound hv1 hx
    obtain ⟨a3,n3,c3,a4,n4,c4,rfl,h3,h4⟩:=decR_sound hv2 hy
    exact h w x y a1 a2 a3 a4 n1 c1 n2 c2 n3 c3 n4 c4 h1 h2 h3 h4 (by rw [←h1.len];exact f1) (by rw [←h2.len];exact f2) (by rw [←h3.len];exact f3) (by rw [←h4.len];exact f4)
   ·cases hr
  ·cases hr
 ·cases hr
end
def oZ(F:Int→AV):List AV→Option AV
 | [.lit (.int .i64 z)]=>if -9223372036854775808≤z∧z≤9223372036854775807 then some (F z) else none
 | _=>none
def oZZ(F:Int→Int→AV):List AV→Option AV
 | [.lit (.int .i64 x),.lit (.int .i64 y)]=>if (-9223372036854775808≤x∧x≤9223372036854775807)∧(-9223372036854775808≤y∧y≤9223372036854775807)∧y≠0 then some (F x y) else none
 | _=>none
end Go.Proofs.YtnegdhjdienjlaaGreatDoor
set_option linter.all false
namespace Go.Proofs.YtnegdhjdienjlaaGreatDoor
open Go.RowKit
theorem wr64{x:Int}(h0:-9223372036854775808≤x)(h1:x≤9223372036854775807):IntKind.i64.wrap x=x:=IntWalk.i64_in _ ⟨h0,h1⟩
def bytesA(bs:List Int):AV:=.sl 1 (bs.map fun x=>[.lit (.int .u8 x)])
def noO:FuncId→Option Orc:=fun _=>none
structure Byt (bs:List Int):Prop where
 len:bs.length≤1048576
 val:∀x∈bs,0≤x∧x<256
end Go.Proofs.YtnegdhjdienjlaaGreatDoor
set_option linter.all false
namespace Go.Proofs.YtnegdhjdienjlaaGreatDoor
open Go.RowKit
def ext(O:FuncId→Option Orc)(f:FuncId)(x:Orc)(g:FuncId):Option Orc:=if g=f then some x else O g
section
variable {P : Program} {O : FuncId → Option Orc} {f : FuncId}
theorem OrcOk.none:OrcOk P noO:=⟨fun f g h=>(by cases h),fun f ms g h=>(by cases h)⟩
theorem OrcOk.extP(h:OrcOk P O)(hp:plainF P f=true){g:List AV→Option AV}(hc:∀args r,g args=some r→Con P f args r):OrcOk P (ext O f (.pure g)):=by
 refine ⟨fun f' g' h'=>?_,fun f' ms g' h'=>?_⟩
 ·unfold ext at h'
  split at h'
  ·rename_i e;subst e;cases h';exact ⟨hp,hc⟩
  ·exact h.pure f' g' h'
 ·unfold ext at h'
  split at h'
  ·cases h'
  ·exact h.lin f' ms g' h'
theorem OrcOk.extL(h:OrcOk P O)(hp:plainF P f=true){ms:List Bool}{g:List AV→List AB→Option (AV × List (Nat × AB))}(hc:∀bin args r outs,g args bin=some (r,outs)→ConL P f bin args r outs):OrcOk P (ext O f (.lin ms g)):=by
 refine ⟨fun f' g' h'=>?_,fun f' ms' g' h'=>?_⟩
 ·unfold ext at h'
  split at h'
  ·cases h'
  ·exact h.pure f' g' h'
 ·unfold ext at h'
  split at h'
  ·rename_i e;subst e;cases h';exact ⟨hp,hc⟩
  ·exact h.lin f' ms' g' h'
noncomputable def fnP(P:Program)(O:FuncId→Option Orc)(lives:Nat→List Nat)(fuel:Nat)(fn:Func):List AV→Option AV:=absFn P O lives fuel fn.ntmps fn.results.toList (bodyOf fn)
noncomputable def fnL(P:Program)(O:FuncId→Option Orc)(lives:Nat→List Nat)(fuel:Nat)(fn:Func)(keep:Bool):List AV→List AB→Option (AV × List (Nat × AB)):=absL P O lives fuel fn.ntmps fn.results.toList (bodyOf fn) keep
theorem body_some{fn:Func}(h:plainF P f=true)(hf:P.funcs[f]?=some fn):fn.body=some (bodyOf fn):=by
 unfold plainF at h
 rw [hf] at h
 simp only [Bool.and_eq_true] at h
 obtain ⟨c,hc⟩:=Option.isSome_iff_exists.1 h.2
 simp [bodyOf,hc]
theorem OrcOk.fnP(h:OrcOk P O)(hm:P.follows .mixedOrders=true){fn:Func}(hf:P.funcs[f]?=some fn)(hp:plainF P f=true)(lives:Nat→List Nat)(fuel:Nat):OrcOk P (ext O f (.pure (fnP P O lives fuel fn))):=
 h.extP hp fun args r hr=>con_of h hm hf (body_some hp hf) hr
theorem OrcOk.fnL(h:OrcOk P O)(hm:P.follows .mixedOrders=true){fn:Func}(hf:P.funcs[f]?=some fn)(hp:plainF P f=true)(ms:List Bool)(lives:Nat→List Nat)(fuel:Nat)(keep:Bool):OrcOk P (ext O f (.lin ms (fnL P O lives fuel fn keep))):=
 h.extL hp fun bin args r outs hr=>conL_of h hm hf (body_some hp hf) hr
end
theorem RetMk.ret{q:Rat}{w w':World}{e:Ending}(h:RetMk q w e w'):Ret (.tup [ratA q,.lit (.int .i64 0)]) w e w':=by
 obtain ⟨s,a1,n1,c1,a2,n2,c2,rfl,h1,h2⟩:=h
 refine ⟨_,rfl,.tup rfl fun i d hi=>?_,h2⟩
 match i,hi with
 | 0,hi=>cases hi;exact ratC_rep h1
 | 1,hi=>cases hi;exact .lit _
 | i+2,hi=>simp at hi
theorem mixed: Tryz.prog.follows .mixedOrders=true:=by kernel_rfl
theorem con_of_z:∀args r,oZ (fun z=>ratA (z:Rat)) args=some r→Con Tryz.prog 41 args r:=fun args r hr=>by
 unfold oZ at hr
 split at hr
 ·rename_i z
  split at hr
  ·rename_i hz
   cases hr
   refine con_ret fun w ok vs hv=>?_
   obtain ⟨v,rfl,hv1⟩:=rv_list1 hv
   cases hv1
   exact (frof_any w z hz.1 hz.2).mono fun _ _ h=>h.ret
  ·cases hr
 ·cases hr
theorem con_frac:∀args r,oZZ (fun x y=>.tup [ratA ((x:Rat) / (y:Rat)),.lit (.int .i64 0)]) args=some r→Con Tryz.prog 24 args r:=fun args r hr=>by
 unfold oZZ at hr
 split at hr
 ·rename_i x y
  split at hr
  ·rename_i hz
   cases hr
   refine con_ret fun w ok vs hv=>?_
   obtain ⟨v,u,rfl,hv1,hv2⟩:=rv_list2 hv
   cases hv1
   cases hv2
   exact (frac_c w hz.1.1 hz.1.2 hz.2.1.1 hz.2.1.2 hz.2.2).mono fun _ _ h=>h.ret
  ·cases hr
 ·cases hr
-- limbs,bytes and feeds are not looked into
@[simp] theorem natA_cellsOf(l:List Nat):(natA l).cellsOf=some [natA l]:=rfl
@[simp] theorem natA_notU(l:List Nat):(natA l).notU=true:=rfl
@[simp] theorem natA_isT(l:List Nat):(natA l).isT=true:=rfl
@[simp] theorem natA_refs(l:List Nat):(natA l).refs=[]:=rfl
@[simp] theorem natA_ren(ρ:Nat→Option Nat)(l:List Nat):(natA l).ren ρ=natA l:=rfl
@[simp] theorem natA_res(n:Nat)(l:List Nat)(k:AV→List Nat→Tr):res n (natA l) k=k (natA l) []:=by cases n <;>rfl
@[simp] theorem natA_resN(n:Nat)(l:List Nat)(k:AV→List Nat→Tr):resN n (natA l) k=k (natA l) []:=by cases n <;>rfl
@[simp] theorem natA_resA(n:Nat)(l:List Nat)(cs acc:List AV)(fa:List Nat)(k:List AV→List Nat→Tr):resA (res n) (natA l::cs) acc fa k=resA (res n) cs (acc++[natA l]) fa k:=resA_stay (fun k=>by cases n <;>rfl) _ _ _ _
@[simp] theorem natA_resAN(n:Nat)(l:List Nat)(cs acc:List AV)(fa:List Nat)(k:List AV→List Nat→Tr):resA (resN n) (natA l::cs) acc fa k=resA (resN n) cs (acc++[natA l]) fa k:=resA_stay (fun k=>by cases n <;>rfl) _ _ _ _
@[simp] theorem natA_lenT(P:Program)(t:TypeId)(l:List Nat):lenT P t (natA l)=if (elOf P t).isSome=true then some l.length else none:=by simp [natA,lenT]
@[simp] theorem natA_linC(l:List Nat)(cs:List AV)(i:Nat)(k:List AV→List Nat→List Nat→Tr):linC (natA l::cs) i k=linC cs i fun us ids fs=>k (natA l::us) ids fs:=rfl
@[simp] theorem natA_nz(l:List Nat):(natA l).nz=natA l:=rfl
end Go.Proofs.YtnegdhjdienjlaaGreatDoor
namespace Go.Proofs
open Go.Shelf
def Tryz.laysM171_ren:Go.Shelf.Ren:=⟨fun|171=>30|243=>78|246=>134|283=>188|284=>189|285=>190|286=>191|129=>239|317=>238|318=>240|319=>241|320=>242|337=>256|338=>257|n=>n,fun|3=>3|9=>9|2=>2|4=>4|171=>210|0=>0|53=>87|37=>69|5=>5|173=>213|212=>247|51=>149|20=>20|213=>248|46=>152|232=>263|233=>264|n=>n,fun|17=>4|18=>7|19=>8|n=>n⟩
theorem Tryz.laysM171:Go.Proofs.LaysM.n171 Tryz.prog Tryz.laysM171_ren:={
 mixed:=by kernel_rfl
 f129:=Tryz.func239.trans (congrArg some (by kernel_rfl))
 f171:=Tryz.func30.trans (congrArg some (by kernel_rfl))
 f243:=Tryz.func78.trans (congrArg some (by kernel_rfl))
 f246:=Tryz.func134.trans (congrArg some (by kernel_rfl))
 f283:=Tryz.func188.trans (congrArg some (by kernel_rfl))
 f284:=Tryz.func189.trans (congrArg some (by kernel_rfl))
 f285:=Tryz.func190.trans (congrArg some (by kernel_rfl))
 f286:=Tryz.func191.trans (congrArg some (by kernel_rfl))
 f317:=Tryz.func238.trans (congrArg some (by kernel_rfl))
 f318:=Tryz.func240.trans (congrArg some (by kernel_rfl))
 f319:=Tryz.func241.trans (congrArg some (by kernel_rfl))
 f320:=Tryz.func242.trans (congrArg some (by kernel_rfl))
 f337:=Tryz.func256.trans (congrArg some (by kernel_rfl))
 f338:=Tryz.func257.trans (congrArg some (by kernel_rfl))
 t0:=Tryz.underlying0
 a0:=Tryz.isAgg0
 z0:=Tryz.sizeOf0
 v0:=Tryz.zeroValue0
 t2:=Tryz.underlying2
 a2:=Tryz.isAgg2
 z2:=Tryz.sizeOf2
 v2:=Tryz.zeroValue2
 t3:=Tryz.underlying3
 a3:=Tryz.isAgg3
 z3:=Tryz.sizeOf3
 v3:=Tryz.zeroValue3
 t4:=Tryz.underlying4
 a4:=Tryz.isAgg4
 z4:=Tryz.sizeOf4
 v4:=Tryz.zeroValue4
 t5:=Tryz.underlying5
 a5:=Tryz.isAgg5
 z5:=Tryz.sizeOf5
 v5:=Tryz.zeroValue5
 t9:=Tryz.underlying9
 a9:=Tryz.isAgg9
 z9:=Tryz.sizeOf9
 v9:=Tryz.zeroValue9
 t20:=Tryz.underlying20
 a20:=Tryz.isAgg20
 z20:=Tryz.sizeOf20
 v20:=Tryz.zeroValue20
 t37:=Tryz.underlying69
 a37:=Tryz.isAgg69
 z37:=Tryz.sizeOf69
 v37:=Tryz.zeroValue69
 t46:=Tryz.underlying152
 a46:=Tryz.isAgg152
 z46:=Tryz.sizeOf152
 v46:=Tryz.zeroValue152
 t51:=Tryz.underlying149
 a51:=Tryz.isAgg149
 z51:=Tryz.sizeOf149
 v51:=Tryz.zeroValue149
 t53:=Tryz.underlying87
 a53:=Tryz.isAgg87
 z53:=Tryz.sizeOf87
 v53:=Tryz.zeroValue87
 t171:=Tryz.underlying210
 a171:=Tryz.isAgg210
 z171:=Tryz.sizeOf210
 v171:=Tryz.zeroValue210
 t173:=Tryz.underlying213
 a173:=Tryz.isAgg213
 z173:=Tryz.sizeOf213
 v173:=Tryz.zeroValue213
 t212:=Tryz.underlying247
 a212:=Tryz.isAgg247
 z212:=Tryz.sizeOf247
 v212:=Tryz.zeroValue247
 t213:=Tryz.underlying248
 a213:=Tryz.isAgg248
 z213:=Tryz.sizeOf248
 t232:=Tryz.underlying263
 a232:=Tryz.isAgg263
 z232:=Tryz.sizeOf263
 v232:=Tryz.zeroValue263
 t233:=Tryz.underlying264
 a233:=Tryz.isAgg264
 z233:=Tryz.sizeOf264
 v233:=Tryz.zeroValue264
 g17:=by kernel_rfl
 g18:=by kernel_rfl
 g19:=by kernel_rfl
 i0:=by kernel_rfl
 i2:=by kernel_rfl
 i3:=by kernel_rfl
 i4:=by kernel_rfl
 i5:=by kernel_rfl
 i9:=by kernel_rfl
 i20:=by kernel_rfl
 i37:=by kernel_rfl
 i46:=by kernel_rfl
 i51:=by kernel_rfl
 i53:=by kernel_rfl
 i171:=by kernel_rfl
 i173:=by kernel_rfl
 i212:=by kernel_rfl
 i232:=by kernel_rfl
 i233:=by kernel_rfl
 m17:=by kernel_rfl
 m18:=by kernel_rfl
 m19:=by kernel_rfl}
open Go.RowKit Go.Sort Go.Lib in
theorem Tryz.strconv_Itoa (n:Int) (h0:-9223372036854775808≤n) (h1:n≤9223372036854775807) (w:World) (htab:Lib.TabIs Tryz.prog w "internal/strconv.uint64pow10" .u64 Lib.pow10Tab):
  Calls Tryz.prog 30 #[.int .i64 n] w fun e w'=>e=.returned (.string ⟨(Lib.itoa n).toArray⟩)∧∃k os,w'=grow (w.drewN k) os:=Any.strconv_Itoa Tryz.laysM171 n h0 h1 w htab
def Tryz.lays105_ren:Go.Shelf.Ren:=⟨fun|105=>150|212=>207|99=>57|165=>106|166=>103|170=>102|169=>105|263=>246|264=>247|206=>116|240=>161|241=>163|276=>214|277=>217|n=>n,fun|9=>9|3=>3|4=>4|20=>20|0=>0|46=>152|109=>226|5=>5|72=>139|76=>63|51=>149|146=>196|53=>87|148=>256|70=>137|37=>69|75=>62|127=>192|164=>233|80=>142|n=>n,fun|n=>n⟩
theorem Tryz.lays105:Go.Proofs.Lays.n105 Tryz.prog Tryz.lays105_ren:={
 mixed:=by kernel_rfl
 f99:=Tryz.func57.trans (congrArg some (by kernel_rfl))
 f105:=Tryz.func150.trans (congrArg some (by kernel_rfl))
 f165:=Tryz.func106.trans (congrArg some (by kernel_rfl))
 f166:=Tryz.func103.trans (congrArg some (by kernel_rfl))
 f169:=Tryz.func105.trans (congrArg some (by kernel_rfl))
 f170:=Tryz.func102.trans (congrArg some (by kernel_rfl))
 f206:=Tryz.func116.trans (congrArg some (by kernel_rfl))
 f212:=Tryz.func207.trans (congrArg some (by kernel_rfl))
 f240:=Tryz.func161.trans (congrArg some (by kernel_rfl))
 f241:=Tryz.func163.trans (congrArg some (by kernel_rfl))
 f263:=Tryz.func246.trans (congrArg some (by kernel_rfl))
 f264:=Tryz.func247.trans (congrArg some (by kernel_rfl))
 f276:=Tryz.func214.trans (congrArg some (by kernel_rfl))
 f277:=Tryz.func217.trans (congrArg some (by kernel_rfl))
 t0:=Tryz.underlying0
 a0:=Tryz.isAgg0
 z0:=Tryz.sizeOf0
 v0:=Tryz.zeroValue0
 t3:=Tryz.underlying3
 a3:=Tryz.isAgg3
 z3:=Tryz.sizeOf3
 v3:=Tryz.zeroValue3
 t4:=Tryz.underlying4
 a4:=Tryz.isAgg4
 z4:=Tryz.sizeOf4
 v4:=Tryz.zeroValue4
 t5:=Tryz.underlying5
 a5:=Tryz.isAgg5
 z5:=Tryz.sizeOf5
 v5:=Tryz.zeroValue5
 t9:=Tryz.underlying9
 a9:=Tryz.isAgg9
 z9:=Tryz.sizeOf9
 v9:=Tryz.zeroValue9
 t20:=Tryz.underlying20
 a20:=Tryz.isAgg20
 z20:=Tryz.sizeOf20
 v20:=Tryz.zeroValue20
 t37:=Tryz.underlying69
 a37:=Tryz.isAgg69
 z37:=Tryz.sizeOf69
 v37:=Tryz.zeroValue69
 t46:=Tryz.underlying152
 a46:=Tryz.isAgg152
 z46:=Tryz.sizeOf152
 v46:=Tryz.zeroValue152
 t51:=Tryz.underlying149
 a51:=Tryz.isAgg149
 z51:=Tryz.sizeOf149
 v51:=Tryz.zeroValue149
 t53:=Tryz.underlying87
 a53:=Tryz.isAgg87
 z53:=Tryz.sizeOf87
 v53:=Tryz.zeroValue87
 t70:=Tryz.underlying137
 a70:=Tryz.isAgg137
 z70:=Tryz.sizeOf137
 v70:=Tryz.zeroValue137
 t72:=Tryz.underlying139
 a72:=Tryz.isAgg139
 z72:=Tryz.sizeOf139
 v72:=Tryz.zeroValue139
 t75:=Tryz.underlying62
 a75:=Tryz.isAgg62
 z75:=Tryz.sizeOf62
 v75:=Tryz.zeroValue62
 t76:=Tryz.underlying63
 a76:=Tryz.isAgg63
 z76:=Tryz.sizeOf63
 v76:=Tryz.zeroValue63
 t109:=Tryz.underlying226
 a109:=Tryz.isAgg226
 z109:=Tryz.sizeOf226
 v109:=Tryz.zeroValue226
 t127:=Tryz.underlying192
 a127:=Tryz.isAgg192
 z127:=Tryz.sizeOf192
 v127:=Tryz.zeroValue192
 t146:=Tryz.underlying196
 a146:=Tryz.isAgg196
 z146:=Tryz.sizeOf196
 v146:=Tryz.zeroValue196
 t148:=Tryz.underlying256
 a148:=Tryz.isAgg256
 z148:=Tryz.sizeOf256
 v148:=Tryz.zeroValue256
 t164:=Tryz.underlying233
 a164:=Tryz.isAgg233
 z164:=Tryz.sizeOf233
 v164:=Tryz.zeroValue233}
theorem Tryz.Builder_Extra_105:Builder.Extra Tryz.prog Tryz.lays105_ren:={
 sizeBuilder:=by kernel_rfl
 liesBuilder:=by kernel_rfl
 t5:=Tryz.underlying5
 a5:=Tryz.isAgg5
 z5:=Tryz.sizeOf5
 v5:=Tryz.zeroValue5
 infoByte:=by kernel_rfl
 cellsByte:=by kernel_rfl
 sizeByte:=by kernel_rfl
 neB5:=by decide}
open Go.RowKit Go.Lib in
theorem Tryz.strings_Repeat(s:ByteArray)(c:Nat)(w:World)(hc:c≤9223372036854775807)(hlen:s.size*c≤140737488355328):
  Calls Tryz.prog 150 #[.string s,.int .i64 c] w fun e w'=>e=.returned (.string ⟨(Lib.repeatL s.data.toList c).toArray⟩)∧Below w.heap.size w w':=Any.strings_Repeat Tryz.lays105 Tryz.Builder_Extra_105 s c w hc hlen
def Tryz.laysC172_ren:Go.Shelf.Ren:=⟨fun|172=>35|244=>82|245=>83|247=>142|279=>143|280=>144|281=>145|282=>146|287=>202|316=>203|171=>30|205=>204|321=>244|322=>245|243=>78|246=>134|283=>188|284=>189|285=>190|286=>191|129=>239|317=>238|318=>240|319=>241|320=>242|337=>256|338=>257|n=>n,fun|9=>9|3=>3|75=>62|76=>63|4=>4|5=>5|167=>174|37=>69|0=>0|85=>175|2=>2|168=>177|53=>87|175=>221|46=>152|210=>224|127=>192|145=>254|143=>252|21=>21|171=>210|173=>213|212=>247|51=>149|20=>20|213=>248|232=>263|233=>264|80=>142|n=>n,fun|15=>2|16=>3|17=>4|18=>7|19=>8|n=>n⟩
theorem Tryz.laysC172:Go.Proofs.LaysC.n172 Tryz.prog Tryz.laysC172_ren:={
 mixed:=by kernel_rfl
 f129:=Tryz.func239.trans (congrArg some (by kernel_rfl))
 f171:=Tryz.func30.trans (congrArg some (by kernel_rfl))
 f172:=Tryz.func35.trans (congrArg some (by kernel_rfl))
 f205:=Tryz.func204.trans (congrArg some (by kernel_rfl))
 f243:=Tryz.func78.trans (congrArg some (by kernel_rfl))
 f244:=Tryz.func82.trans (congrArg some (by kernel_rfl))
 f245:=Tryz.func83.trans (congrArg some (by kernel_rfl))
 f246:=Tryz.func134.trans (congrArg some (by kernel_rfl))
 f247:=Tryz.func142.trans (congrArg some (by kernel_rfl))
 f279:=Tryz.func143.trans (congrArg some (by kernel_rfl))
 f280:=Tryz.func144.trans (congrArg some (by kernel_rfl))
 f281:=Tryz.func145.trans (congrArg some (by kernel_rfl))
 f282:=Tryz.func146.trans (congrArg some (by kernel_rfl))
 f283:=Tryz.func188.trans (congrArg some (by kernel_rfl))
 f284:=Tryz.func189.trans (congrArg some (by kernel_rfl))
 f285:=Tryz.func190.trans (congrArg some (by kernel_rfl))
 f286:=Tryz.func191.trans (congrArg some (by kernel_rfl))
 f287:=Tryz.func202.trans (congrArg some (by kernel_rfl))
 f316:=Tryz.func203.trans (congrArg some (by kernel_rfl))
 f317:=Tryz.func238.trans (congrArg some (by kernel_rfl))
 f318:=Tryz.func240.trans (congrArg some (by kernel_rfl))
 f319:=Tryz.func241.trans (congrArg some (by kernel_rfl))
 f320:=Tryz.func242.trans (congrArg some (by kernel_rfl))
 f321:=Tryz.func244.trans (congrArg some (by kernel_rfl))
 f322:=Tryz.func245.trans (congrArg some (by kernel_rfl))
 f337:=Tryz.func256.trans (congrArg some (by kernel_rfl))
 f338:=Tryz.func257.trans (congrArg some (by kernel_rfl))
 t0:=Tryz.underlying0
 a0:=Tryz.isAgg0
 z0:=Tryz.sizeOf0
 v0:=Tryz.zeroValue0
 t2:=Tryz.underlying2
 a2:=Tryz.isAgg2
 z2:=Tryz.sizeOf2
 v2:=Tryz.zeroValue2
 t3:=Tryz.underlying3
 a3:=Tryz.isAgg3
 z3:=Tryz.sizeOf3
 v3:=Tryz.zeroValue3
 t4:=Tryz.underlying4
 a4:=Tryz.isAgg4
 z4:=Tryz.sizeOf4
 v4:=Tryz.zeroValue4
 t5:=Tryz.underlying5
 a5:=Tryz.isAgg5
 z5:=Tryz.sizeOf5
 v5:=Tryz.zeroValue5
 t9:=Tryz.underlying9
 a9:=Tryz.isAgg9
 z9:=Tryz.sizeOf9
 v9:=Tryz.zeroValue9
 t20:=Tryz.underlying20
 a20:=Tryz.isAgg20
 z20:=Tryz.sizeOf20
 v20:=Tryz.zeroValue20
 t21:=Tryz.underlying21
 a21:=Tryz.isAgg21
 z21:=Tryz.sizeOf21
 v21:=Tryz.zeroValue21
 t37:=Tryz.underlying69
 a37:=Tryz.isAgg69
 z37:=Tryz.sizeOf69
 v37:=Tryz.zeroValue69
 t46:=Tryz.underlying152
 a46:=Tryz.isAgg152
 z46:=Tryz.sizeOf152
 v46:=Tryz.zeroValue152
 t51:=Tryz.underlying149
 a51:=Tryz.isAgg149
 z51:=Tryz.sizeOf149
 v51:=Tryz.zeroValue149
 t53:=Tryz.underlying87
 a53:=Tryz.isAgg87
 z53:=Tryz.sizeOf87
 v53:=Tryz.zeroValue87
 t75:=Tryz.underlying62
 a75:=Tryz.isAgg62
 z75:=Tryz.sizeOf62
 v75:=Tryz.zeroValue62
 t76:=Tryz.underlying63
 a76:=Tryz.isAgg63
 z76:=Tryz.sizeOf63
 v76:=Tryz.zeroValue63
 t85:=Tryz.underlying175
 a85:=Tryz.isAgg175
 z85:=Tryz.sizeOf175
 v85:=Tryz.zeroValue175
 t127:=Tryz.underlying192
 a127:=Tryz.isAgg192
 z127:=Tryz.sizeOf192
 v127:=Tryz.zeroValue192
 t143:=Tryz.underlying252
 a143:=Tryz.isAgg252
 z143:=Tryz.sizeOf252
 v143:=Tryz.zeroValue252
 t145:=Tryz.underlying254
 a145:=Tryz.isAgg254
 z145:=Tryz.sizeOf254
 v145:=Tryz.zeroValue254
 t167:=Tryz.underlying174
 a167:=Tryz.isAgg174
 z167:=Tryz.sizeOf174
 v167:=Tryz.zeroValue174
 t168:=Tryz.underlying177
 a168:=Tryz.isAgg177
 z168:=Tryz.sizeOf177
 v168:=Tryz.zeroValue177
 t171:=Tryz.underlying210
 a171:=Tryz.isAgg210
 z171:=Tryz.sizeOf210
 v171:=Tryz.zeroValue210
 t173:=Tryz.underlying213
 a173:=Tryz.isAgg213
 z173:=Tryz.sizeOf213
 v173:=Tryz.zeroValue213
 t175:=Tryz.underlying221
 a175:=Tryz.isAgg221
 z175:=Tryz.sizeOf221
 v175:=Tryz.zeroValue221
 t210:=Tryz.underlying224
 a210:=Tryz.isAgg224
 z210:=Tryz.sizeOf224
 v210:=Tryz.zeroValue224
 t212:=Tryz.underlying247
 a212:=Tryz.isAgg247
 z212:=Tryz.sizeOf247
 v212:=Tryz.zeroValue247
 t213:=Tryz.underlying248
 a213:=Tryz.isAgg248
 z213:=Tryz.sizeOf248
 t232:=Tryz.underlying263
 a232:=Tryz.isAgg263
 z232:=Tryz.sizeOf263
 v232:=Tryz.zeroValue263
 t233:=Tryz.underlying264
 a233:=Tryz.isAgg264
 z233:=Tryz.sizeOf264
 v233:=Tryz.zeroValue264
 g15:=by kernel_rfl
 g16:=by kernel_rfl
 g17:=by kernel_rfl
 g18:=by kernel_rfl
 g19:=by kernel_rfl
 t80:=Tryz.underlying142
 a80:=Tryz.isAgg142
 z80:=Tryz.sizeOf142
 v80:=Tryz.zeroValue142
 i0:=by kernel_rfl
 i2:=by kernel_rfl
 i3:=by kernel_rfl
 i4:=by kernel_rfl
 i5:=by kernel_rfl
 i9:=by kernel_rfl
 i20:=by kernel_rfl
 i21:=by kernel_rfl
 i37:=by kernel_rfl
 i46:=by kernel_rfl
 i51:=by kernel_rfl
 i53:=by kernel_rfl
 i75:=by kernel_rfl
 i76:=by kernel_rfl
 i80:=by kernel_rfl
 i85:=by kernel_rfl
 i127:=by kernel_rfl
 i143:=by kernel_rfl
 i145:=by kernel_rfl
 i167:=by kernel_rfl
 i168:=by kernel_rfl
 i171:=by kernel_rfl
 i173:=by kernel_rfl
 i175:=by kernel_rfl
 i210:=by kernel_rfl
 i212:=by kernel_rfl
 i232:=by kernel_rfl
 i233:=by kernel_rfl
 m15:=by kernel_rfl
 m16:=by kernel_rfl
 m17:=by kernel_rfl
 m18:=by kernel_rfl
 m19:=by kernel_rfl
 c0:=by kernel_rfl
 c2:=by kernel_rfl
 c3:=by kernel_rfl
 c4:=by kernel_rfl
 c5:=by kernel_rfl
 c9:=by kernel_rfl
 c20:=by kernel_rfl
 c21:=by kernel_rfl
 c37:=by kernel_rfl
 c46:=by kernel_rfl
 c51:=by kernel_rfl
 c53:=by kernel_rfl
 c75:=by kernel_rfl
 c76:=by kernel_rfl
 c80:=by kernel_rfl
 c85:=by kernel_rfl
 c127:=by kernel_rfl
 c143:=by kernel_rfl
 c145:=by kernel_rfl
 c167:=by kernel_rfl
 c168:=by kernel_rfl
 c171:=by kernel_rfl
 c173:=by kernel_rfl
 c175:=by kernel_rfl
 c210:=by kernel_rfl
 c212:=by kernel_rfl
 c213:=by kernel_rfl
 c232:=by kernel_rfl
 c233:=by kernel_rfl}
end Go.Proofs
namespace Go.Proofs
open Go.Shelf
def Tryz.lays143_ren:Go.Shelf.Ren:=⟨fun|143=>125|219=>178|217=>225|225=>226|224=>227|267=>228|266=>253|314=>254|n=>n,fun|9=>9|3=>3|4=>4|5=>5|46=>152|146=>196|51=>149|n=>n,fun|1=>1|n=>n⟩
theorem Tryz.lays143:Go.Proofs.Lays.n143 Tryz.prog Tryz.lays143_ren:={
 mixed:=by kernel_rfl
 f143:=Tryz.func125.trans (congrArg some (by kernel_rfl))
 f217:=Tryz.func225.trans (congrArg some (by kernel_rfl))
 f219:=Tryz.func178.trans (congrArg some (by kernel_rfl))
 f224:=Tryz.func227.trans (congrArg some (by kernel_rfl))
 f225:=Tryz.func226.trans (congrArg some (by kernel_rfl))
 f266:=Tryz.func253.trans (congrArg some (by kernel_rfl))
 f267:=Tryz.func228.trans (congrArg some (by kernel_rfl))
 f314:=Tryz.func254.trans (congrArg some (by kernel_rfl))
 t3:=Tryz.underlying3
 a3:=Tryz.isAgg3
 z3:=Tryz.sizeOf3
 v3:=Tryz.zeroValue3
 t4:=Tryz.underlying4
 a4:=Tryz.isAgg4
 z4:=Tryz.sizeOf4
 v4:=Tryz.zeroValue4
 t5:=Tryz.underlying5
 a5:=Tryz.isAgg5
 z5:=Tryz.sizeOf5
 v5:=Tryz.zeroValue5
 t9:=Tryz.underlying9
 a9:=Tryz.isAgg9
 z9:=Tryz.sizeOf9
 v9:=Tryz.zeroValue9
 t46:=Tryz.underlying152
 a46:=Tryz.isAgg152
 z46:=Tryz.sizeOf152
 v46:=Tryz.zeroValue152
 t51:=Tryz.underlying149
 a51:=Tryz.isAgg149
 z51:=Tryz.sizeOf149
 v51:=Tryz.zeroValue149
 t146:=Tryz.underlying196
 a146:=Tryz.isAgg196
 z146:=Tryz.sizeOf196
 v146:=Tryz.zeroValue196
 g1:=by kernel_rfl}
open Go.RowKit Go.Lib in
theorem Tryz.strings_Index(s sub:ByteArray)(m:Int)(w:World)(hs:s.size<4294967281)(hm:w.cell? ⟨1,0,none⟩=some (.int .i64 m)):
  Calls Tryz.prog 125 #[.string s,.string sub] w fun e w'=>e=.returned (.int .i64 (Lib.index s.data.toList sub.data.toList))∧w'=w:=Any.strings_Index Tryz.lays143 s sub m w hs hm
def Tryz.lays146_ren:Go.Shelf.Ren:=⟨fun|146=>34|221=>81|268=>140|138=>141|143=>125|195=>200|197=>160|218=>201|219=>178|260=>213|217=>225|225=>226|224=>227|267=>228|266=>253|314=>254|n=>n,fun|9=>9|31=>59|3=>3|4=>4|0=>0|105=>190|21=>21|5=>5|46=>152|119=>258|139=>261|138=>260|146=>196|51=>149|n=>n,fun|1=>1|3=>5|4=>6|n=>n⟩
theorem Tryz.lays146:Go.Proofs.Lays.n146 Tryz.prog Tryz.lays146_ren:={
 mixed:=by kernel_rfl
 f138:=Tryz.func141.trans (congrArg some (by kernel_rfl))
 f143:=Tryz.func125.trans (congrArg some (by kernel_rfl))
 f146:=Tryz.func34.trans (congrArg some (by kernel_rfl))
 f195:=Tryz.func200.trans (congrArg some (by kernel_rfl))
 f197:=Tryz.func160.trans (congrArg some (by kernel_rfl))
 f217:=Tryz.func225.trans (congrArg some (by kernel_rfl))
 f218:=Tryz.func201.trans (congrArg some (by kernel_rfl))
 f219:=Tryz.func178.trans (congrArg some (by kernel_rfl))
 f221:=Tryz.func81.trans (congrArg some (by kernel_rfl))
 f224:=Tryz.func227.trans (congrArg some (by kernel_rfl))
 f225:=Tryz.func226.trans (congrArg some (by kernel_rfl))
 f260:=Tryz.func213.trans (congrArg some (by kernel_rfl))
 f266:=Tryz.func253.trans (congrArg some (by kernel_rfl))
 f267:=Tryz.func228.trans (congrArg some (by kernel_rfl))
 f268:=Tryz.func140.trans (congrArg some (by kernel_rfl))
 f314:=Tryz.func254.trans (congrArg some (by kernel_rfl))
 t0:=Tryz.underlying0
 a0:=Tryz.isAgg0
 z0:=Tryz.sizeOf0
 v0:=Tryz.zeroValue0
 t3:=Tryz.underlying3
 a3:=Tryz.isAgg3
 z3:=Tryz.sizeOf3
 v3:=Tryz.zeroValue3
 t4:=Tryz.underlying4
 a4:=Tryz.isAgg4
 z4:=Tryz.sizeOf4
 v4:=Tryz.zeroValue4
 t5:=Tryz.underlying5
 a5:=Tryz.isAgg5
 z5:=Tryz.sizeOf5
 v5:=Tryz.zeroValue5
 t9:=Tryz.underlying9
 a9:=Tryz.isAgg9
 z9:=Tryz.sizeOf9
 v9:=Tryz.zeroValue9
 t21:=Tryz.underlying21
 a21:=Tryz.isAgg21
 z21:=Tryz.sizeOf21
 v21:=Tryz.zeroValue21
 t31:=Tryz.underlying59
 a31:=Tryz.isAgg59
 z31:=Tryz.sizeOf59
 v31:=Tryz.zeroValue59
 t46:=Tryz.underlying152
 a46:=Tryz.isAgg152
 z46:=Tryz.sizeOf152
 v46:=Tryz.zeroValue152
 t51:=Tryz.underlying149
 a51:=Tryz.isAgg149
 z51:=Tryz.sizeOf149
 v51:=Tryz.zeroValue149
 t105:=Tryz.underlying190
 a105:=Tryz.isAgg190
 z105:=Tryz.sizeOf190
 v105:=Tryz.zeroValue190
 t119:=Tryz.underlying258
 a119:=Tryz.isAgg258
 z119:=Tryz.sizeOf258
 t138:=Tryz.underlying260
 a138:=Tryz.isAgg260
 z138:=Tryz.sizeOf260
 v138:=Tryz.zeroValue260
 t139:=Tryz.underlying261
 a139:=Tryz.isAgg261
 z139:=Tryz.sizeOf261
 v139:=Tryz.zeroValue261
 t146:=Tryz.underlying196
 a146:=Tryz.isAgg196
 z146:=Tryz.sizeOf196
 v146:=Tryz.zeroValue196
 g1:=by kernel_rfl
 g3:=by kernel_rfl
 g4:=by kernel_rfl}
open Go.RowKit Go.Lib in
theorem Tryz.strings_Split(s sep:ByteArray)(m:Int)(w:World)(hs:s.size<4294967281)(hm:w.cell? ⟨1,0,none⟩=some (.int .i64 m))(h1:1≤sep.size):
  Calls Tryz.prog 34 #[.string s,.string sep] w fun e w'=>
   e=.returned (.slice (some ⟨w.heap.size,0,none⟩) (Lib.countB s sep+1) (Lib.countB s sep+1))∧w'=w.alloc (.cells ((Lib.splitB sep 0 (Lib.countB s sep) s).map Value.string).toArray 9):=Any.strings_Split Tryz.lays146 (by kernel_rfl) s sep m w hs hm h1
def Tryz.lays99_ren:Go.Shelf.Ren:=⟨fun|99=>57|206=>116|n=>n,fun|9=>9|4=>4|3=>3|n=>n,fun|n=>n⟩
theorem Tryz.lays99:Go.Proofs.Lays.n99 Tryz.prog Tryz.lays99_ren:={
 mixed:=by kernel_rfl
 f99:=Tryz.func57.trans (congrArg some (by kernel_rfl))
 f206:=Tryz.func116.trans (congrArg some (by kernel_rfl))
 t3:=Tryz.underlying3
 a3:=Tryz.isAgg3
 z3:=Tryz.sizeOf3
 v3:=Tryz.zeroValue3
 t4:=Tryz.underlying4
 a4:=Tryz.isAgg4
 z4:=Tryz.sizeOf4
 v4:=Tryz.zeroValue4
 t9:=Tryz.underlying9
 a9:=Tryz.isAgg9
 z9:=Tryz.sizeOf9
 v9:=Tryz.zeroValue9}
open Go.RowKit Go.Lib in
theorem Tryz.strings_HasPrefix(s p:ByteArray)(w:World):
  Calls Tryz.prog 57 #[.string s,.string p] w fun e w'=>e=.returned (.bool (Lib.hasPrefix s.data.toList p.data.toList))∧w'=w:=Any.strings_HasPrefix Tryz.lays99 s p w
end Go.Proofs
set_option linter.all false
namespace Go.Proofs.YtnegdhjdienjlaaGreatDoor
open Go.RowKit
theorem Glob.whole{w:World}{ok:Nat→Nat→Prop}(h:Glob w ok){g:Nat}{vs:List Value}(hg:gtab g=some (vs.map .lit)):∃t fr,w.heap[g]?=some (.cells vs.toArray t fr):=by
 obtain ⟨h1,t,h2⟩:=h.1 g _ hg
 obtain ⟨b,o,hp,hm⟩:=h1.mem_inv
 cases hp
 unfold World.shape? at h2
 split at h2
 ·rename_i c e fr hc
  simp only [Option.some.injEq,Prod.mk.injEq] at h2
  obtain ⟨rfl,h2⟩:=h2
  refine ⟨e,fr,?_⟩
  rw [hc]
  congr 2
  apply Array.ext_getElem?
  intro i
  rcases Nat.lt_or_ge i vs.length with hi|hi
  ·obtain ⟨_,u,h3,h4⟩:=hm i (.lit vs[i]) (by simp [List.getElem?_eq_getElem hi])
   cases h4
   simp only [World.cell?,hc,Nat.zero_add] at h3
   simpa [List.getElem?_eq_getElem hi] using h3
  ·rw [Array.getElem?_eq_none (by rw [h2];simpa using hi),Array.getElem?_eq_none (by simpa using hi)]
 ·cases h2
theorem globTab{w:World}{ok:Nat→Nat→Prop}(h:Glob w ok):Lib.TabIs Tryz.prog w "internal/strconv.uint64pow10" .u64 Lib.pow10Tab:=by
 obtain ⟨t,fr,hw⟩:=h.whole (g:= 4) (vs:=Lib.pow10Tab.map fun z=>Value.int .u64 z) rfl
 have hg: Tryz.prog.globalNamed "internal/strconv.uint64pow10"=some 4:=by kernel_rfl
 unfold Lib.TabIs World.var?
 rw [hg]
 simp [hw]
theorem below_grow_drew{w:World}{k:Nat}{os:Array Obj}:Below w.heap.size w (Sort.grow (w.drewN k) os):=by
 refine ⟨rfl,rfl,rfl,by simp [Sort.grow],fun g hg=>?_⟩
 simp only [Sort.grow,World.heap_drewN]
 rw [Array.getElem?_append_left hg]
def oItoa:List AV→Option AV
 | [.lit (.int .i64 n)]=>if -9223372036854775808≤n∧n≤9223372036854775807 then some (.lit (.string ⟨(Lib.itoa n).toArray⟩)) else none
 | _=>none
theorem con_itoa:∀args r,oItoa args=some r→Con Tryz.prog 30 args r:=fun args r hr=>by
 unfold oItoa at hr
 split at hr
 ·rename_i n
  split at hr
  ·rename_i hn
   cases hr
   intro w ok vs hgl hv
   obtain ⟨v,rfl,hv1⟩:=rv_list1 hv
   cases hv1
   refine (Tryz.strconv_Itoa n hn.1 hn.2 w (globTab hgl)).mono ?_
   rintro e w' ⟨rfl,k,os,rfl⟩
   exact ⟨_,rfl,.lit _,below_grow_drew⟩
  ·cases hr
 ·cases hr
def oRepeat:List AV→Option AV
 | [.lit (.string s),.lit (.int .i64 c)]=>if 0≤c∧c≤9223372036854775807∧s.size*c.toNat≤140737488355328 then some (.lit (.string ⟨(Lib.repeatL s.data.toList c.toNat).toArray⟩)) else none
 | _=>none
theorem con_repeat:∀args r,oRepeat args=some r→Con Tryz.prog 150 args r:=fun args r hr=>by
 unfold oRepeat at hr
 split at hr
 ·rename_i s c
  split at hr
  ·rename_i hn
   cases hr
   intro w ok vs hgl hv
   obtain ⟨v,v2,rfl,hv1,hv2⟩:=rv_list2 hv
   cases hv1
   cases hv2
   obtain ⟨m,rfl⟩:∃m:Nat,c=m:=⟨c.toNat,by omega⟩
   rw [Int.toNat_natCast] at hn ⊢
   refine (Tryz.strings_Repeat s m w (by omega) hn.2.2).mono ?_
   rintro e w' ⟨rfl,hb⟩
   exact ⟨_,rfl,.lit _,hb⟩
  ·cases hr
 ·cases hr
end Go.Proofs.YtnegdhjdienjlaaGreatDoor
set_option linter.all false
set_option maxRecDepth 100000
set_option maxHeartbeats 2000000
namespace Go.Proofs.YtnegdhjdienjlaaGreatDoor
open Go.RowKit
theorem cc_used{w:World}{g:Nat}(h0:w.cell? ⟨g,0,none⟩=some (.pointer (some ⟨g,0,none⟩))):
  Calls Tryz.prog 161 #[.pointer (some ⟨g,0,none⟩)] w fun e w'=>e=.returned (.tuple #[])∧w'=w:=by
 have hj:∃j, Tryz.prog.info? 139=some j∧j.size=2:=⟨_,rfl,rfl⟩
 obtain ⟨j,hj,_⟩:=hj
 have u121: Tryz.prog.underlying 137=some (.pointer 139):=by kernel_rfl
 go_enter Tryz.func161, Tryz.ntmps161
 go_wp2
 rw [Lib.run_neq_ptr_same w _ u121 hj]
 go_wp2
 go_end0
 exact ⟨rfl,rfl⟩
theorem cc_fresh{w:World}{g:Nat}(h0:w.cell? ⟨g,0,none⟩=some (.pointer none))(hsh:w.shape? g=some (139,2))(hfz:w.frozen? ⟨g,0,none⟩=false):
  Calls Tryz.prog 161 #[.pointer (some ⟨g,0,none⟩)] w fun e w'=>e=.returned (.tuple #[])∧w'=w.setCell ⟨g,0,none⟩ (.pointer (some ⟨g,0,none⟩)):=by
 have hj:∃j, Tryz.prog.info? 139=some j∧j.size=2:=⟨_,rfl,rfl⟩
 obtain ⟨j,hj,hjs⟩:=hj
 have u121: Tryz.prog.underlying 137=some (.pointer 139):=by kernel_rfl
 have u256: Tryz.prog.underlying 233=some .unsafePointer:=by kernel_rfl
 have hl:liesAt Tryz.prog Tryz.prog.depth 139 (2 / Tryz.prog.cellsOf 139) 0 139 1=true:=by kernel_rfl
 go_enter Tryz.func161, Tryz.ntmps161
 go_wp2
 rw [Lib.run_to_unsafe w ⟨g,0,none⟩ u121 u256 hj (by rw [hjs];decide) hsh (Nat.zero_lt_succ 1)]
 simp only [Result.andThen]
 rw [Oper.upon_value]
 go_wp2
 rw [run_callFunc_extern Tryz.func214 (by kernel_rfl) (by kernel_rfl) (by kernel_rfl) (e:=Extern.AbiNoEscape.same) (by kernel_rfl)]
 rw [Lib.run_noEscape]
 simp only [Result.andThen]
 rw [Oper.upon_value]
 go_wp2
 rw [Lib.run_from_unsafe w ⟨g,0,none⟩ u256 u121 hj hsh hl]
 simp only [Result.andThen]
 rw [Oper.upon_value]
 go_wp2
 go_end0
 exact ⟨rfl,rfl⟩
def enumB:List AB→Nat→List (Nat × AB)
 | [],_=>[]
 | b::l,i=>(i,b)::enumB l (i+1)
theorem lookB_enum:∀(l:List AB) (k i:Nat),lookB (enumB l k) i=if k≤i then l[i-k]? else none
 | [],k,i=>by simp [enumB,lookB]
 | b::l,k,i=>by
   rw [enumB,lookB]
   by_cases e:i=k
   ·subst e;simp
   ·rw [if_neg e,lookB_enum l (k+1) i]
    by_cases h:k≤i
    ·rw [if_pos (by omega),if_pos h,show i-k=(i-(k+1))+1 by omega,List.getElem?_cons_succ]
    ·rw [if_neg (by omega),if_neg h]
def isSelf:AV→Bool
 | .lit (.pointer none)=>true
 | .ptr 0 0=>true
 | _=>false
def ccG:List AV→List AB→Option (AV × List (Nat × AB))
 | [.ptr 0 0],.box t [p,x] false::rest=>if t= 139∧isSelf p=true then some (.tup [],enumB (.box 139 [.ptr 0 0,x] false::rest) 0) else none
 | _,_=>none
theorem setCell_eq{w:World}{g:Nat}{cur:Array Value}{t:TypeId}{fr:Nat × Nat}(hg:w.heap[g]?=some (.cells cur t fr))(u:Value):w.setCell ⟨g,0,none⟩ u=w.setRow g (cur.setIfInBounds 0 u):=by
 have key:(w.setCell ⟨g,0,none⟩ u).heap=(w.setRow g (cur.setIfInBounds 0 u)).heap:=by
  apply Array.ext_getElem?
  intro i
  by_cases e:i=g
  ·subst e
   rw [setRow_heap w i cur _ t fr hg]
   simp [World.setCell,Array.getElem?_modify,hg]
  ·rw [heap_setRow_ne w g _ i e]
   simp [World.setCell,Array.getElem?_modify,Ne.symm e]
 unfold World.setCell World.setRow at key ⊢
 simp only at key
 rw [key]
theorem con_cc:∀bin args r outs,ccG args bin=some (r,outs)→ConL Tryz.prog 161 bin args r outs:=fun bin args r outs hr=>by
 unfold ccG at hr
 split at hr
 ·rename_i t p x rest
  split at hr
  ·rename_i hc
   obtain ⟨rfl,hp⟩:=hc
   cases hr
   intro w E L vs hbs hn hvs
   obtain ⟨v,rfl,hv⟩:=rv_list1 hvs
   obtain ⟨g,cells,hL,hg,hsz,hcell,hnu⟩:=hbs.blk 0 _ rfl
   have ev:v=.pointer (some ⟨g,0,none⟩):=by
    cases hv with
    | t hv=>cases hv
    | ptr h=>rw [hL] at h;cases h;rfl
   subst ev
   have hs2:cells.size=2:=hsz
   have c0:w.cell? ⟨g,0,none⟩=some (cells.getD 0 undef):=by
    simp [World.cell?,hg,Array.getD_eq_getD_getElem?,Array.getElem?_eq_getElem (show 0<cells.size by omega)]
   have hp0:=hcell 0 p rfl
   have eB:(fun i=>(AB.box 139 [.ptr 0 0,x] false::rest)[i]?)=lookB (enumB (.box 139 [.ptr 0 0,x] false::rest) 0):=by
    funext i;rw [lookB_enum];simp
   unfold isSelf at hp
   split at hp
   ·obtain e0:=rep_lit hp0
    rw [e0] at c0
    have hT:tyOf Tryz.prog 137=some (false,1):=by kernel_rfl
    obtain ⟨_,_,w',hrun,haft⟩:=st_sound (P:= Tryz.prog) (T:=fun _=>.any) hbs hT hv hv (nx:=0) (r:=.any) (up:=[(0,some (.box 139 [.ptr 0 0,x] false))]) (nx':=0) rfl
    have hw':w'=w.setCell ⟨g,0,none⟩ (.pointer (some ⟨g,0,none⟩)):=by
     have h1:=run_storeAt (P:= Tryz.prog) hT (v:=.pointer (some ⟨g,0,none⟩)) rfl (fun x hx=>by simp [Value.cells] at hx;subst hx;rfl) hg (o:=0) (by omega)
     rw [h1] at hrun
     have h2:w.setRow g (splice cells.toList 0 (Value.pointer (some ⟨g,0,none⟩)).cells.toList).toArray=w':=by injection hrun
     rw [setCell_eq hg,←h2]
     congr 1
     apply Array.toList_inj.1
     match hcl:cells.toList,(by simpa using hs2:cells.toList.length=2) with
     | [a,b],_=>simp [splice,Value.cells,hcl]
    subst hw'
    refine (cc_fresh c0 (by simp [World.shape?,hg,hs2]) (by simp [World.frozen?,hg])).mono ?_
    rintro e w' ⟨rfl,rfl⟩
    have eU:updB (fun i=>(AB.box 139 [.lit (.pointer none),x] false::rest)[i]?) [(0,some (.box 139 [.ptr 0 0,x] false))]=lookB (enumB (.box 139 [.ptr 0 0,x] false::rest) 0):=by
     rw [←eB]
     funext i
     cases i with
     | zero=>rfl
     | succ i=>simp [updB,getU]
    rw [eU] at haft
    exact ⟨_,L,rfl,fun _ _ _ h=>h,haft.bs,.t (.tup rfl fun i d hi=>by simp at hi),haft.run⟩
   ·generalize cells.getD 0 undef=u0 at hp0 c0
    cases hp0 with
    | t h=>cases h
    | ptr h=>
      rw [hL] at h;cases h
      refine (cc_used c0).mono ?_
      rintro e w' ⟨rfl,rfl⟩
      refine ⟨_,L,rfl,fun _ _ _ h=>h,?_,.t (.tup rfl fun i d hi=>by simp at hi),?_⟩
      ·rw [←eB];exact hbs
      ·rw [←eB];exact Run.refl
   ·cases hp
  ·cases hr
 ·cases hr
end Go.Proofs.YtnegdhjdienjlaaGreatDoor
set_option linter.all false
set_option maxRecDepth 100000
set_option maxHeartbeats 6400000
namespace Go.Proofs.YtnegdhjdienjlaaGreatDoor
open Go.RowKit
theorem con_of_zp:∀args r,oZ (fun z=>ratA (z:Rat)) args=some r→Con Tryz.prog 156 args r:=fun args r hr=>by
 unfold oZ at hr
 split at hr
 ·rename_i z
  split at hr
  ·rename_i hz
   cases hr
   refine con_ret fun w ok vs hv=>?_
   obtain ⟨v,rfl,hv1⟩:=rv_list1 hv
   cases hv1
   exact (rof_any w z hz.1 hz.2).mono fun _ _ h=>h.ret
  ·cases hr
 ·cases hr
section
variable {P : Program} {f : FuncId}
end
def decI:AV→Option (Bool × List Nat)
 | .agg [.lit (.bool s),a]=>match decN a with
   | some l=>some (s,l)
   | none=>none
 | _=>none
def fewN(l:List Nat):Bool:=Nat.ble l.length 68719476736
def oI1(F:Bool × List Nat→AV):List AV→Option AV
 | [a]=>match decI a with
   | some x=>if fewN x.2 then some (F x) else none
   | none=>none
 | _=>none
def oN2(F:List Nat→List Nat→AV):List AV→Option AV
 | [a,b]=>match decN a,decN b with
   | some x,some y=>if fewN x && fewN y then some (F x y) else none
   | _,_=>none
 | _=>none
theorem decI_sound{w:World}{ok:Nat→Nat→Prop}{d:AV}{x:Bool × List Nat}{v:Value}(h:RepT w ok d v)(hd:decI d=some x):∃a n c,v=.agg #[.bool x.1,.slice a n c]∧LimR w a n c x.2:=by
 unfold decI at hd
 split at hd
 ·rename_i s a
  split at hd
  ·rename_i l h1
   cases hd
   cases h with
   | agg hn hh=>
     rename_i vs
     have g0:=hh 0 _ rfl
     have g1:=hh 1 _ rfl
     obtain ⟨a1,n1,c1,e1,k1⟩:=decN_sound g1 h1
     refine ⟨a1,n1,c1,?_,k1⟩
     have e0:vs.getD 0 undef=.bool s:=by
      generalize vs.getD 0 undef=x at g0
      cases g0;rfl
     congr 1
     apply Array.ext
     ·simpa using hn
     ·intro i hi1 hi2
      have h9:i=0∨i=1:=by simp at hi2;omega
      have gd:vs.getD i undef=vs[i]:=by rw [Array.getD_eq_getD_getElem?,Array.getElem?_eq_getElem hi1];rfl
      rcases h9 with rfl|rfl
      ·rw [←gd,e0];rfl
      ·rw [←gd,e1];rfl
  ·cases hd
 ·cases hd
theorem few_of{n:Nat}{l:List Nat}(h:fewN l=true)(hn:l.length=n):n≤68719476736:=by subst hn;exact Nat.le_of_ble_eq_true h
section
variable {P : Program} {f : FuncId}
theorem conI1{F:Bool × List Nat→AV}(h:∀(w:World) (x:Bool × List Nat) (a:Option Addr) (n c:Nat),LimR w a n c x.2→n≤68719476736→Calls P f #[.agg #[.bool x.1,.slice a n c]] w (Ret (F x) w)):∀args r,oI1 F args=some r→Con P f args r:=by
 intro args r hr
 unfold oI1 at hr
 split at hr
 ·rename_i a
  split at hr
  ·rename_i x hx
   split at hr
   ·rename_i hfew
    cases hr
    refine con_ret fun w ok vs hv=>?_
    obtain ⟨v,rfl,hv1⟩:=rv_list1 hv
    obtain ⟨a1,n1,c1,rfl,h1⟩:=decI_sound hv1 hx
    exact h w x a1 n1 c1 h1 (few_of hfew h1.len)
   ·cases hr
  ·cases hr
 ·cases hr
theorem conN2{F:List Nat→List Nat→AV}(h:∀(w:World) (x y:List Nat) (a1 a2:Option Addr) (n1 c1 n2 c2:Nat),LimR w a1 n1 c1 x→LimR w a2 n2 c2 y→n1≤68719476736→n2≤68719476736→Calls P f #[.slice a1 n1 c1,.slice a2 n2 c2] w (Ret (F x y) w)):∀args r,oN2 F args=some r→Con P f args r:=by
 intro args r hr
 unfold oN2 at hr
 split at hr
 ·rename_i a b
  split at hr
  ·rename_i x y hx hy
   split at hr
   ·rename_i hfew
    cases hr
    rw [Bool.and_eq_true] at hfew
    refine con_ret fun w ok vs hv=>?_
    obtain ⟨v,u,rfl,hv1,hv2⟩:=rv_list2 hv
    obtain ⟨a1,n1,c1,rfl,h1⟩:=decN_sound hv1 hx
    obtain ⟨a2,n2,c2,rfl,h2⟩:=decN_sound hv2 hy
    exact h w x y a1 a2 n1 c1 n2 c2 h1 h2 (few_of hfew.1 h1.len) (few_of hfew.2 h2.len)
   ·cases hr
  ·cases hr
 ·cases hr
end
theorem oI1_raw{F:Bool × List Nat→AV}{s:Bool}{l:List Nat}(h1:Lim l)(hx:fewN l=true):oI1 F [.agg [.lit (.bool s),natA l]]=some (F (s,l)):=by
 have e1:decI (.agg [.lit (.bool s),natA l])=some (s,l):=by simp only [decI,decN_nat h1]
 simp only [oI1,e1,hx,if_true]
theorem oN2_raw{F:List Nat→List Nat→AV}{l m:List Nat}(h1:Lim l)(h2:Lim m)(hx:fewN l=true)(hy:fewN m=true):oN2 F [natA l,natA m]=some (F l m):=by
 simp only [oN2,decN_nat h1,decN_nat h2,hx,hy,Bool.and_self,if_true]
-- integer.Cmp
noncomputable def fISgn:List AV→Option AV:=oI1 fun x=>.lit (.int .i64 (iv x.1 x.2).sign)
end Go.Proofs.YtnegdhjdienjlaaGreatDoor
set_option linter.all false
set_option maxRecDepth 100000
namespace Go.Proofs.YtnegdhjdienjlaaGreatDoor
open Go.RowKit Go.Sort
theorem RetN.ret{k:Nat}{w w':World}{e:Ending}(h:RetN k w e w'):Ret (natA (lmb k)) w e w':=by
 obtain ⟨ad,n,c,rfl,h1,h2⟩:=h
 exact ⟨_,rfl,natA_rep h1,h2⟩
theorem tup2_rep{w:World}{ok:Nat→Nat→Prop}{d0 d1:AV}{v0 v1:Value}(h0:RepT w ok d0 v0)(h1:RepT w ok d1 v1):RepT w ok (.tup [d0,d1]) (.tuple #[v0,v1]):=by
 refine .tup rfl fun i d hi=>?_
 match i,hi with
 | 0,hi=>cases hi;exact h0
 | 1,hi=>cases hi;exact h1
 | i+2,hi=>simp at hi
theorem tup3_rep{w:World}{ok:Nat→Nat→Prop}{d0 d1 d2:AV}{v0 v1 v2:Value}(h0:RepT w ok d0 v0)(h1:RepT w ok d1 v1)(h2:RepT w ok d2 v2):RepT w ok (.tup [d0,d1,d2]) (.tuple #[v0,v1,v2]):=by
 refine .tup rfl fun i d hi=>?_
 match i,hi with
 | 0,hi=>cases hi;exact h0
 | 1,hi=>cases hi;exact h1
 | 2,hi=>cases hi;exact h2
 | i+3,hi=>simp at hi
theorem DivPost.ret{q r:Nat}{w w':World}{e:Ending}(h:DivPost q r w e w'):Ret (.tup [natA (lmb q),natA (lmb r),.lit (.int .i64 0)]) w e w':=by
 obtain ⟨a1,n1,c1,a2,n2,c2,rfl,h1,h2,h3⟩:=h
 exact ⟨_,rfl,tup3_rep (natA_rep h1) (natA_rep h2) (.lit _),h3⟩
def oU(F:Nat→AV):List AV→Option AV
 | [.lit (.int .u64 z)]=>if 0≤z∧z<18446744073709551616 then some (F z.toNat) else none
 | _=>none
def oN1(G:List Nat→Bool)(F:List Nat→AV):List AV→Option AV
 | [a]=>match decN a with
   | some x=>if fewN x && G x then some (F x) else none
   | none=>none
 | _=>none
def oND(F:List Nat→List Nat→AV):List AV→Option AV
 | [a,b]=>match decN a,decN b with
   | some x,some y=>if fewN x && fewN y && Nat.blt 0 (val y) then some (F x y) else none
   | _,_=>none
 | _=>none
section
variable {P : Program} {f : FuncId}
theorem conU{F:Nat→AV}(h:∀(w:World) (z:Int),0≤z→z<18446744073709551616→Calls P f #[.int .u64 z] w (Ret (F z.toNat) w)):∀args r,oU F args=some r→Con P f args r:=by
 intro args r hr
 unfold oU at hr
 split at hr
 ·rename_i z
  split at hr
  ·rename_i hz
   cases hr
   refine con_ret fun w ok vs hv=>?_
   obtain ⟨v,rfl,hv1⟩:=rv_list1 hv
   cases hv1
   exact h w z hz.1 hz.2
  ·cases hr
 ·cases hr
theorem conN1{G:List Nat→Bool}{F:List Nat→AV}(h:∀(w:World) (x:List Nat) (a:Option Addr) (n c:Nat),LimR w a n c x→n≤68719476736→G x=true→Calls P f #[.slice a n c] w (Ret (F x) w)):∀args r,oN1 G F args=some r→Con P f args r:=by
 intro args r hr
 unfold oN1 at hr
 split at hr
 ·rename_i a
  split at hr
  ·rename_i x hx
   split at hr
   ·rename_i hfew
    cases hr
    rw [Bool.and_eq_true] at hfew
    refine con_ret fun w ok vs hv=>?_
    obtain ⟨v,rfl,hv1⟩:=rv_list1 hv
    obtain ⟨a1,n1,c1,rfl,h1⟩:=decN_sound hv1 hx
    exact h w x a1 n1 c1 h1 (few_of hfew.1 h1.len) hfew.2
   ·cases hr
  ·cases hr
 ·cases hr
theorem conND{F:List Nat→List Nat→AV}(h:∀(w:World) (x y:List Nat) (a1 a2:Option Addr) (n1 c1 n2 c2:Nat),LimR w a1 n1 c1 x→LimR w a2 n2 c2 y→n1≤68719476736→n2≤68719476736→0<val y→Calls P f #[.slice a1 n1 c1,.slice a2 n2 c2] w (Ret (F x y) w)):∀args r,oND F args=some r→Con P f args r:=by
 intro args r hr
 unfold oND at hr
 split at hr
 ·rename_i a b
  split at hr
  ·rename_i x y hx hy
   split at hr
   ·rename_i hfew
    cases hr
    simp only [Bool.and_eq_true] at hfew
    refine con_ret fun w ok vs hv=>?_
    obtain ⟨v,u,rfl,hv1,hv2⟩:=rv_list2 hv
    obtain ⟨a1,n1,c1,rfl,h1⟩:=decN_sound hv1 hx
    obtain ⟨a2,n2,c2,rfl,h2⟩:=decN_sound hv2 hy
    exact h w x y a1 a2 n1 c1 n2 c2 h1 h2 (few_of hfew.1.1 h1.len) (few_of hfew.1.2 h2.len) (Nat.le_of_ble_eq_true hfew.2)
   ·cases hr
  ·cases hr
 ·cases hr
end
def u64N(x:List Nat):Bool:=Nat.blt (val x) 18446744073709551616
theorem con_nof:∀args r,oU (fun k=>natA (lmb k)) args=some r→Con Tryz.prog 135 args r:=conU fun w z h0 h1=>(nof_any w z h0 h1).mono fun _ _ h=>h.ret
theorem con_nadd:∀args r,oN2 (fun x y=>natA (lmb (val x+val y))) args=some r→Con Tryz.prog 205 args r:=conN2 fun w x y a1 a2 n1 c1 n2 c2 h1 h2 b1 b2=>(nadd_any w h1 h2 (by omega) (by omega)).mono fun _ _ h=>h.ret
theorem con_nmul:∀args r,oN2 (fun x y=>natA (lmb (val x*val y))) args=some r→Con Tryz.prog 206 args r:=conN2 fun w x y a1 a2 n1 c1 n2 c2 h1 h2 b1 b2=>(nmul_any w h1 h2 (by omega) (by omega)).mono fun _ _ h=>h.ret
theorem con_nmake:∀args r,oN1 (fun _=>true) (fun x=>natA (lmb (val x))) args=some r→Con Tryz.prog 193 args r:=conN1 fun w x a n c h b _=>(nmake_any w h (by omega)).mono fun _ _ h=>h.ret
theorem con_ndiv:∀args r,oND (fun x y=>.tup [natA (lmb (val x / val y)),natA (lmb (val x % val y)),.lit (.int .i64 0)]) args=some r→Con Tryz.prog 137 args r:=conND fun w x y a1 a2 n1 c1 n2 c2 h1 h2 b1 b2 h0=>(ndiv_any w h1 h2 (by omega) (by omega) h0).mono fun _ _ h=>h.ret
theorem con_nuint:∀args r,oN1 u64N (fun x=>.tup [.lit (.int .u64 (val x:Nat)),.lit (.bool true)]) args=some r→Con Tryz.prog 138 args r:=conN1 fun w x a n c h b h64=>(nuint_any w h (by omega) (Nat.le_of_ble_eq_true h64)).mono fun e w' ⟨he,hw⟩=>⟨_,he,tup2_rep (.lit _) (.lit _),hw▸Below.refl _ _⟩
theorem con_fnof:∀args r,oU (fun k=>natA (lmb k)) args=some r→Con Tryz.prog 51 args r:=conU fun w z h0 h1=>(fof_any w z h0 h1).mono fun _ _ h=>h.ret
theorem con_fnmake:∀args r,oN1 (fun _=>true) (fun x=>natA (lmb (val x))) args=some r→Con Tryz.prog 109 args r:=conN1 fun w x a n c h b _=>(fmake_any w h (by omega)).mono fun _ _ h=>h.ret
theorem con_fndiv:∀args r,oND (fun x y=>.tup [natA (lmb (val x / val y)),natA (lmb (val x % val y)),.lit (.int .i64 0)]) args=some r→Con Tryz.prog 110 args r:=conND fun w x y a1 a2 n1 c1 n2 c2 h1 h2 b1 b2 h0=>(fdiv_any w h1 h2 (by omega) (by omega) h0).mono fun _ _ h=>h.ret
theorem con_fnuint:∀args r,oN1 u64N (fun x=>.tup [.lit (.int .u64 (val x:Nat)),.lit (.bool true)]) args=some r→Con Tryz.prog 111 args r:=conN1 fun w x a n c h b h64=>(fuint_any w h (by omega)).mono fun e w' ⟨he,hb⟩=>by
 have h9:val x<18446744073709551616:=Nat.le_of_ble_eq_true h64
 rw [if_pos h9,decide_eq_true h9] at he
 exact ⟨_,he,tup2_rep (.lit _) (.lit _),hb⟩
end Go.Proofs.YtnegdhjdienjlaaGreatDoor
set_option linter.all false
set_option maxRecDepth 100000
namespace Go.Proofs.YtnegdhjdienjlaaGreatDoor
open Go.RowKit Go.Sort
end Go.Proofs.YtnegdhjdienjlaaGreatDoor
set_option linter.all false
set_option maxRecDepth 100000
namespace Go.Proofs.YtnegdhjdienjlaaGreatDoor
open Go.RowKit
theorem rv_list3{R:AV→Value→Prop}{a b c:AV}{vs:Array Value}(h:RV R [a,b,c] vs.toList):∃v u t,vs=#[v,u,t]∧R a v∧R b u∧R c t:=by
 obtain ⟨h1,h2⟩:=h
 obtain ⟨u,h3,h4⟩:=h2 0 a rfl
 obtain ⟨u',h5,h6⟩:=h2 1 b rfl
 obtain ⟨u2,h7,h8⟩:=h2 2 c rfl
 refine ⟨u,u',u2,?_,h4,h6,h8⟩
 apply Array.toList_inj.1
 match hv:vs.toList,h1 with
 | [x,y,z],_=>rw [hv] at h3 h5 h7;simp at h3 h5 h7;rw [h3,h5,h7]
def oQt:List AV→Option AV
 | [.lit (.bool b),a,c]=>match decN a,decN c with
   | some x,some y=>if fewN x && fewN y && Nat.blt 0 (val y) then some (ratA (mkRat (sgi b (val x)) (val y))) else none
   | _,_=>none
 | _=>none
theorem conQt{P:Program}{f:FuncId}(h:∀(w:World) (b:Bool) (x y:List Nat) (a1 a2:Option Addr) (n1 c1 n2 c2:Nat),LimR w a1 n1 c1 x→LimR w a2 n2 c2 y→n1≤68719476736→n2≤68719476736→0<val y→Calls P f #[.bool b,.slice a1 n1 c1,.slice a2 n2 c2] w (Ret (ratA (mkRat (sgi b (val x)) (val y))) w)):∀args r,oQt args=some r→Con P f args r:=by
 intro args r hr
 unfold oQt at hr
 split at hr
 ·rename_i b a c
  split at hr
  ·rename_i x y hx hy
   split at hr
   ·rename_i hfew
    cases hr
    simp only [Bool.and_eq_true] at hfew
    refine con_ret fun w ok vs hv=>?_
    obtain ⟨v,u,t,rfl,hv0,hv1,hv2⟩:=rv_list3 hv
    cases hv0
    obtain ⟨a1,n1,c1,rfl,h1⟩:=decN_sound hv1 hx
    obtain ⟨a2,n2,c2,rfl,h2⟩:=decN_sound hv2 hy
    exact h w b x y a1 a2 n1 c1 n2 c2 h1 h2 (few_of hfew.1.1 h1.len) (few_of hfew.1.2 h2.len) (Nat.le_of_ble_eq_true hfew.2)
   ·cases hr
  ·cases hr
 ·cases hr
theorem con_quot:∀args r,oQt args=some r→Con Tryz.prog 185 args r:=conQt fun w b x y a1 a2 n1 c1 n2 c2 h1 h2 b1 b2 hd=>(quot_any w h1 h2 (by omega) (by omega) hd).mono fun _ _ h=>h.ret
theorem con_fquot:∀args r,oQt args=some r→Con Tryz.prog 129 args r:=conQt fun w b x y a1 a2 n1 c1 n2 c2 h1 h2 b1 b2 hd=>(fquot_any w h1 h2 (by omega) (by omega) hd).mono fun _ _ h=>h.ret
theorem con_fnmul:∀args r,oN2 (fun x y=>natA (lmb (val x*val y))) args=some r→Con Tryz.prog 90 args r:=conN2 fun w x y a1 a2 n1 c1 n2 c2 h1 h2 b1 b2=>(fmul_any w h1 h2 (by omega) (by omega)).mono fun _ _ h=>h.ret
theorem con_fnadd:∀args r,oN2 (fun x y=>natA (lmb (val x+val y))) args=some r→Con Tryz.prog 89 args r:=conN2 fun w x y a1 a2 n1 c1 n2 c2 h1 h2 b1 b2=>(fadd_any w h1 h2 (by omega) (by omega)).mono fun _ _ h=>h.ret
end Go.Proofs.YtnegdhjdienjlaaGreatDoor
set_option linter.all false
set_option maxRecDepth 100000
namespace Go.Proofs.YtnegdhjdienjlaaGreatDoor
open Go.RowKit
theorem globMax{w:World}{ok:Nat→Nat→Prop}(h:Glob w ok):∃m,w.cell? ⟨1,0,none⟩=some (.int .i64 m):=(h.2.2 1 (by decide)).2
theorem lit_end{w:World}{ok:Nat→Nat→Prop}{v:Value}{e:Ending}{w':World}(h:e=.returned v∧Below w.heap.size w w'):∃u,e=.returned u∧RepT w' (okN ok w w') (.lit v) u∧Below w.heap.size w w':=⟨v,h.1,.lit _,h.2⟩
def oIndex:List AV→Option AV
 | [.lit (.string s),.lit (.string t)]=>if s.size<4294967281 then some (.lit (.int .i64 (Lib.index s.data.toList t.data.toList))) else none
 | _=>none
theorem con_index:∀args r,oIndex args=some r→Con Tryz.prog 125 args r:=fun args r hr=>by
 unfold oIndex at hr
 split at hr
 ·rename_i s t
  split at hr
  ·rename_i hn
   cases hr
   intro w ok vs hgl hv
   obtain ⟨v,v2,rfl,hv1,hv2⟩:=rv_list2 hv
   cases hv1
   cases hv2
   obtain ⟨m,hm⟩:=globMax hgl
   refine (Tryz.strings_Index s t m w hn hm).mono ?_
   rintro e w' ⟨rfl,rfl⟩
   exact lit_end ⟨rfl,Below.refl _ _⟩
  ·cases hr
 ·cases hr
def oSplit:List AV→Option AV
 | [.lit (.string s),.lit (.string t)]=>if s.size<4294967281∧1≤t.size then some (.sl 1 ((Lib.splitB t 0 (Lib.countB s t) s).map fun x=>[.lit (.string x)])) else none
 | _=>none
theorem con_split:∀args r,oSplit args=some r→Con Tryz.prog 34 args r:=fun args r hr=>by
 unfold oSplit at hr
 split at hr
 ·rename_i s t
  split at hr
  ·rename_i hn
   cases hr
   intro w ok vs hgl hv
   obtain ⟨v,v2,rfl,hv1,hv2⟩:=rv_list2 hv
   cases hv1
   cases hv2
   obtain ⟨m,hm⟩:=globMax hgl
   refine (Tryz.strings_Split s t m w hn.1 hm hn.2).mono ?_
   rintro e w' ⟨rfl,rfl⟩
   have hlen:=Lib.splitB_all t hn.2 0 _ s rfl
   generalize Lib.splitB t 0 (Lib.countB s t) s=P at hlen
   refine ⟨_,rfl,?_,(Below.refl _ _).alloc (Nat.le_refl _) _⟩
   have hnew:=heap_alloc_new w (.cells (P.map Value.string).toArray 9)
   have cl:∀(i j:Nat) (e:List AV) (d:AV),(P.map fun x=>[AV.lit (.string x)])[i]?=some e→e[j]?=some d→∃u,(w.alloc (.cells (P.map Value.string).toArray 9)).cell? ⟨w.heap.size,0+i*1+j,none⟩=some u∧d=.lit u:=fun i j e d hi hj=>by
    rw [List.getElem?_map] at hi
    obtain ⟨x,hx,rfl⟩:=Option.map_eq_some_iff.1 hi
    cases j with
    | zero=>
      cases hj
      refine ⟨.string x,?_,rfl⟩
      rw [Nat.zero_add,Nat.mul_one,Nat.add_zero]
      simp only [World.cell?,hnew]
      simp [hx]
    | succ j=>simp at hj
   have el:(P.map fun x=>[AV.lit (.string x)]).length=Lib.countB s t+1:=by rw [List.length_map,hlen]
   rw [←el]
   refine .sl (fun e he=>?_) (Nat.le_refl _) (fun i j e d hi hj=>?_) (fun i j e d hi hj=>?_)
   ·obtain ⟨x,_,rfl⟩:=List.mem_map.1 he
    rfl
   ·obtain ⟨u,h1,_⟩:=cl i j e d hi hj
    exact ⟨.inr (.inl (Nat.le_refl _)),by rw [h1];rfl⟩
   ·obtain ⟨u,h1,rfl⟩:=cl i j e d hi hj
    rw [h1]
    exact .lit _
  ·cases hr
 ·cases hr
def oHasPrefix:List AV→Option AV
 | [.lit (.string s),.lit (.string t)]=>some (.lit (.bool (Lib.hasPrefix s.data.toList t.data.toList)))
 | _=>none
theorem con_hasPrefix:∀args r,oHasPrefix args=some r→Con Tryz.prog 57 args r:=fun args r hr=>by
 unfold oHasPrefix at hr
 split at hr
 ·rename_i s t
  cases hr
  intro w ok vs hgl hv
  obtain ⟨v,v2,rfl,hv1,hv2⟩:=rv_list2 hv
  cases hv1
  cases hv2
  refine (Tryz.strings_HasPrefix s t w).mono ?_
  rintro e w' ⟨rfl,rfl⟩
  exact lit_end ⟨rfl,Below.refl _ _⟩
 ·cases hr
end Go.Proofs.YtnegdhjdienjlaaGreatDoor
set_option linter.all false
namespace Go.Proofs.YtnegdhjdienjlaaGreatDoor
open Go.RowKit
def swZ(a b:Int)(i p:Nat)(x:UInt8):Int:=if p<i∧(x.toNat:Int)=a then b else (x.toNat:Int)
structure SwS (w V:World) (g m:Nat) (l:List UInt8) (a b:Int) (i:Nat) (cur:Array Value):Prop where
 box:V.heap[g]?=some (.cells cur 5 (m,m+1))
 le:l.length≤m
 sz:cur.size=m
 at_:Hid (∀p x,l[p]?=some x→cur[p]?=some (Value.int .u8 (swZ a b i p x)))
 below:Below g w V
section
variable {w V : World} {g m i : Nat} {l : List UInt8} {a b : Int} {cur : Array Value}
theorem SwS.cell(h:SwS w V g m l a b i cur){x:UInt8}(hx:l[i]?=some x):V.cell? ⟨g,i,none⟩=some (Value.int .u8 (x.toNat:Int)):=by
 have h1:=h.at_.out i x hx
 unfold swZ at h1
 rw [if_neg (fun h2=>by omega)] at h1
 rw [cell_of_row V g i cur 5 _ h.box,h1]
theorem SwS.frozen(h:SwS w V g m l a b i cur)(hi:i<l.length):V.frozen? ⟨g,i,none⟩=false:=by
 have h1:=h.le
 have h2:¬m≤i:=by omega
 simp [World.frozen?,h.box,h2]
theorem SwS.same(h:SwS w V g m l a b i cur){x:UInt8}(hx:l[i]?=some x)(he:¬(x.toNat:Int)=a):SwS w V g m l a b (i+1) cur:=⟨h.box,h.le,h.sz,(fun p y hy=>by
 rw [h.at_.out p y hy]
 unfold swZ
 by_cases hp:p=i
 ·subst hp
  rw [hx] at hy;cases hy
  rw [if_neg (fun h2=>by omega),if_neg (fun h2=>he h2.2)]
 ·by_cases h1:p<i∧(y.toNat:Int)=a
  ·rw [if_pos h1,if_pos ⟨by omega,h1.2⟩]
  ·rw [if_neg h1,if_neg (fun h2=>h1 ⟨by omega,h2.2⟩)]:∀p x,l[p]?=some x→cur[p]?=some (Value.int .u8 (swZ a b (i+1) p x))),h.below⟩
theorem SwS.put(h:SwS w V g m l a b i cur){x:UInt8}(hx:l[i]?=some x)(he:(x.toNat:Int)=a):SwS w (V.setCell ⟨g,i,none⟩ (Value.int .u8 b)) g m l a b (i+1) (cur.setIfInBounds i (Value.int .u8 b)):=⟨by
  have h1:=h.box
  simp [World.setCell,Array.getElem?_modify,h1],h.le,by rw [Array.size_setIfInBounds];exact h.sz,(fun p y hy=>by
 have hi:i<cur.size:=by have:=(List.getElem?_eq_some_iff.1 hx).1;have:=h.le;have:=h.sz;omega
 rw [Array.getElem?_setIfInBounds]
 by_cases hp:i=p
 ·subst hp
  rw [hx] at hy;cases hy
  rw [if_pos rfl,if_pos hi]
  unfold swZ
  rw [if_pos ⟨by omega,he⟩]
 ·rw [if_neg hp,h.at_.out p y hy]
  unfold swZ
  by_cases h1:p<i∧(y.toNat:Int)=a
  ·rw [if_pos h1,if_pos ⟨by omega,h1.2⟩]
  ·rw [if_neg h1,if_neg (fun h2=>h1 ⟨by omega,h2.2⟩)]:∀p x,l[p]?=some x→(cur.setIfInBounds i (Value.int .u8 b))[p]?=some (Value.int .u8 (swZ a b (i+1) p x))),h.below.setCell (p:=⟨g,i,none⟩) (Nat.le_refl _) _⟩
end
end Go.Proofs.YtnegdhjdienjlaaGreatDoor
set_option linter.all false
set_option maxRecDepth 100000
namespace Go.Proofs.YtnegdhjdienjlaaGreatDoor
open Go.RowKit
end Go.Proofs.YtnegdhjdienjlaaGreatDoor
set_option linter.all false
set_option maxRecDepth 100000
namespace Go.Proofs.YtnegdhjdienjlaaGreatDoor
open Go.RowKit Go.Sort
def rawT(r:Raw):List Nat:=(if r.s=true then [45] else [])++decL (val r.l1)++(if 0<r.l2.length then [47]++decL (val r.l2) else [])
def oDT:List AV→Option AV
 | [a]=>match decR a with
   | some x=>if x.l1.length≤1000000∧x.l2.length≤1000000 then some (.lit (.string (sB (rawT x)))) else none
   | none=>none
 | _=>none
theorem con_dt:∀args r,oDT args=some r→Con Tryz.prog 31 args r:=by
 intro args r hr
 unfold oDT at hr
 split at hr
 ·rename_i a
  split at hr
  ·rename_i x hx
   split at hr
   ·rename_i hfew
    cases hr
    refine con_ret fun w ok vs hv=>?_
    obtain ⟨v,rfl,hv1⟩:=rv_list1 hv
    obtain ⟨a1,n1,c1,a2,n2,c2,rfl,h1,h2⟩:=decR_sound hv1 hx
    have l1:=h1.len
    have l2:=h2.len
    refine (dtext_c w ⟨x.s,a1,n1,c1,x.l1,a2,n2,c2,x.l2⟩ ⟨h1,h2⟩ (by show n1≤_;omega) (by show n2≤_;omega)).mono ?_
    rintro e w' ⟨rfl,hb⟩
    have e1:textL ⟨x.s,a1,n1,c1,x.l1,a2,n2,c2,x.l2⟩=rawT x:=by
     unfold textL rawT
     rw [l2]
    rw [e1]
    exact ⟨_,rfl,.lit _,hb⟩
   ·cases hr
  ·cases hr
 ·cases hr
theorem con_isgn:∀args r,fISgn args=some r→Con Tryz.prog 107 args r:=conI1 fun w x a n c h hn=>(isign_any w h (by omega)).mono fun _ _ h=>h.ret
def oAtoiL:List AV→Option AV
 | [.lit (.string s)]=>if s.size≤1000000 then (match Lib.atoiAll s.data.toList with
   | .ok n=>some (.tup [.lit (.int .i64 n),.lit .nilIface])
   | .range=>some (.tup [.lit (.int .i64 (Lib.atoiSat s.data.toList)),.err])
   | _=>some (.tup [.lit (.int .i64 0),.err])) else none
 | _=>none
theorem con_atoiL:∀args r,oAtoiL args=some r→Con Tryz.prog 35 args r:=fun args r hr=>by
 unfold oAtoiL at hr
 split at hr
 ·rename_i s
  split at hr
  ·rename_i hn
   cases hx:Lib.atoiAll s.data.toList with
   | ok n=>
     rw [hx] at hr
     cases hr
     intro w ok vs hgl hv
     obtain ⟨v,rfl,hv1⟩:=rv_list1 hv
     cases hv1
     refine (Any.strconv_Atoi_ok Tryz.laysC172 s (by omega) n hx w).mono ?_
     rintro e w' ⟨rfl,rfl|⟨t,rfl⟩⟩
     ·exact ⟨_,rfl,tup2_rep (.lit _) (.lit _),Below.refl _ _⟩
     ·exact ⟨_,rfl,tup2_rep (.lit _) (.lit _),Lib.bytesWorld_below _ _ _⟩
   | range=>
     rw [hx] at hr
     cases hr
     intro w ok vs hgl hv
     obtain ⟨v,rfl,hv1⟩:=rv_list1 hv
     cases hv1
     obtain ⟨_,te,pe,hc⟩:=hgl.2.1 3 (by decide)
     refine (Any.strconv_Atoi_range Tryz.laysC172 s (by omega) hx _ w hc (.inr ⟨_,_,rfl⟩)).mono ?_
     rintro e w' ⟨N,rfl,_,_,hb⟩
     exact ⟨_,rfl,tup2_rep (.lit _) (.err _ _),hb⟩
   | _=>
     rw [hx] at hr
     cases hr
     intro w ok vs hgl hv
     obtain ⟨v,rfl,hv1⟩:=rv_list1 hv
     cases hv1
     obtain ⟨_,te,pe,hc⟩:=hgl.2.1 2 (by decide)
     refine (Any.strconv_Atoi_syntax Tryz.laysC172 s (by omega) hx _ w hc (.inr ⟨_,_,rfl⟩)).mono ?_
     rintro e w' ⟨N,rfl,_,_,hb⟩
     exact ⟨_,rfl,tup2_rep (.lit _) (.err _ _),hb⟩
  ·cases hr
 ·cases hr
end Go.Proofs.YtnegdhjdienjlaaGreatDoor
set_option linter.all false
namespace Go.Proofs.YtnegdhjdienjlaaGreatDoor
open Go.RowKit
noncomputable def orc0:FuncId→Option Orc:=(ext (ext (ext (ext (ext (ext (ext (ext (ext (ext (ext (ext (ext (ext (ext (ext (ext (ext (ext (ext (ext (ext (ext (ext (ext (ext (ext (ext (ext (ext (ext (ext (ext (ext (ext (ext (ext noO 229 (.pure (o2 fun x y=>ratA (x.q+y.q)))) 231 (.pure (o2 fun x y=>ratA (x.q*y.q)))) 86 (.pure (o1 fun x=>ratA x.q))) 53 (.pure (o1 fun x=>.lit (.int .i64 (sgR x.q))))) 37 (.pure (o2 fun x y=>.lit (.bool (decide (x.s=y.s∧x.l1=y.l1∧x.l2=y.l2)))))) 38 (.pure (o1 fun x=>.lit (.bool (decide (RatV x.s x.l1 x.l2)))))) 41 (.pure (oZ fun z=>ratA (z:Rat)))) 24 (.pure (oZZ fun x y=>.tup [ratA ((x:Rat) / (y:Rat)),.lit (.int .i64 0)]))) 157 (.pure (o2 fun x y=>ratA (x.q+y.q)))) 158 (.pure (o2 fun x y=>ratA (x.q*y.q)))) 132 (.pure (o1 fun x=>ratA x.q))) 49 (.pure (o1 fun x=>.lit (.int .i64 (sgR x.q))))) 77 (.pure (o1 fun x=>.lit (.bool (decide (RatV x.s x.l1 x.l2)))))) 156 (.pure (oZ fun z=>ratA (z:Rat)))) 135 (.pure (oU fun k=>natA (lmb k)))) 205 (.pure (oN2 fun x y=>natA (lmb (val x+val y))))) 206 (.pure (oN2 fun x y=>natA (lmb (val x*val y))))) 193 (.pure (oN1 (fun _=>true) fun x=>natA (lmb (val x))))) 137 (.pure (oND fun x y=>.tup [natA (lmb (val x / val y)),natA (lmb (val x % val y)),.lit (.int .i64 0)]))) 138 (.pure (oN1 u64N fun x=>.tup [.lit (.int .u64 (val x:Nat)),.lit (.bool true)]))) 51 (.pure (oU fun k=>natA (lmb k)))) 109 (.pure (oN1 (fun _=>true) fun x=>natA (lmb (val x))))) 110 (.pure (oND fun x y=>.tup [natA (lmb (val x / val y)),natA (lmb (val x % val y)),.lit (.int .i64 0)]))) 111 (.pure (oN1 u64N fun x=>.tup [.lit (.int .u64 (val x:Nat)),.lit (.bool true)]))) 90 (.pure (oN2 fun x y=>natA (lmb (val x*val y))))) 89 (.pure (oN2 fun x y=>natA (lmb (val x+val y))))) 185 (.pure (oQt))) 129 (.pure (oQt))) 30 (.pure (oItoa))) 150 (.pure (oRepeat))) 35 (.pure (oAtoiL))) 31 (.pure (oDT))) 107 (.pure (fISgn))) 125 (.pure (oIndex))) 34 (.pure (oSplit))) 57 (.pure (oHasPrefix))) 161 (.lin [true] ccG))
theorem orc0_ok:OrcOk Tryz.prog orc0:=by
 refine OrcOk.extL (OrcOk.extP (OrcOk.extP (OrcOk.extP (OrcOk.extP (OrcOk.extP (OrcOk.extP (OrcOk.extP (OrcOk.extP (OrcOk.extP (OrcOk.extP (OrcOk.extP (OrcOk.extP (OrcOk.extP (OrcOk.extP (OrcOk.extP (OrcOk.extP (OrcOk.extP (OrcOk.extP (OrcOk.extP (OrcOk.extP (OrcOk.extP (OrcOk.extP (OrcOk.extP (OrcOk.extP (OrcOk.extP (OrcOk.extP (OrcOk.extP (OrcOk.extP (OrcOk.extP (OrcOk.extP (OrcOk.extP (OrcOk.extP (OrcOk.extP (OrcOk.extP (OrcOk.extP (OrcOk.extP OrcOk.none (by kernel_rfl) ?_) (by kernel_rfl) ?_) (by kernel_rfl) ?_) (by kernel_rfl) ?_) (by kernel_rfl) ?_) (by kernel_rfl) ?_) (by kernel_rfl) ?_) (by kernel_rfl) ?_) (by kernel_rfl) ?_) (by kernel_rfl) ?_) (by kernel_rfl) ?_) (by kernel_rfl) ?_) (by kernel_rfl) ?_) (by kernel_rfl) ?_) (by kernel_rfl) ?_) (by kernel_rfl) ?_) (by kernel_rfl) ?_) (by kernel_rfl) ?_) (by kernel_rfl) ?_) (by kernel_rfl) ?_) (by kernel_rfl) ?_) (by kernel_rfl) ?_) (by kernel_rfl) ?_) (by kernel_rfl) ?_) (by kernel_rfl) ?_) (by kernel_rfl) ?_) (by kernel_rfl) ?_) (by kernel_rfl) ?_) (by kernel_rfl) ?_) (by kernel_rfl) ?_) (by kernel_rfl) ?_) (by kernel_rfl) ?_) (by kernel_rfl) ?_) (by kernel_rfl) ?_) (by kernel_rfl) ?_) (by kernel_rfl) ?_) (by kernel_rfl) ?_
 ·exact con2 fun w x y a1 a2 a3 a4 n1 c1 n2 c2 n3 c3 n4 c4 h1 h2 h3 h4 b1 b2 b3 b4=>(fradd_any w h1 h2 h3 h4 (by omega) (by omega) (by omega) (by omega)).mono fun _ _ h=>h.ret
 ·exact con2 fun w x y a1 a2 a3 a4 n1 c1 n2 c2 n3 c3 n4 c4 h1 h2 h3 h4 b1 b2 b3 b4=>(frmul_any w h1 h2 h3 h4 (by omega) (by omega) (by omega) (by omega)).mono fun _ _ h=>h.ret
 ·exact con1 fun w x a1 a2 n1 c1 n2 c2 h1 h2 b1 b2=>(fcanon_any w h1 h2 (by omega) (by omega)).mono fun _ _ h=>h.ret
 ·exact con1 fun w x a1 a2 n1 c1 n2 c2 h1 h2 b1 b2=>(fsign_any w x.l2 h1 (by omega)).mono fun _ _ h=>h.ret
 ·exact con2 fun w x y a1 a2 a3 a4 n1 c1 n2 c2 n3 c3 n4 c4 h1 h2 h3 h4 b1 b2 b3 b4=>(frsame_any w h1 h2 h3 h4 (by omega) (by omega) (by omega) (by omega)).mono fun _ _ h=>h.ret
 ·exact con1 fun w x a1 a2 n1 c1 n2 c2 h1 h2 b1 b2=>(fvalid_any w h1 h2 (by omega) (by omega)).mono fun _ _ h=>h.ret
 ·exact con_of_z
 ·exact con_frac
 ·exact con2 fun w x y a1 a2 a3 a4 n1 c1 n2 c2 n3 c3 n4 c4 h1 h2 h3 h4 b1 b2 b3 b4=>(radd_any w h1 h2 h3 h4 (by omega) (by omega) (by omega) (by omega)).mono fun _ _ h=>h.ret
 ·exact con2 fun w x y a1 a2 a3 a4 n1 c1 n2 c2 n3 c3 n4 c4 h1 h2 h3 h4 b1 b2 b3 b4=>(rmul_any w h1 h2 h3 h4 (by omega) (by omega) (by omega) (by omega)).mono fun _ _ h=>h.ret
 ·exact con1 fun w x a1 a2 n1 c1 n2 c2 h1 h2 b1 b2=>(canon_any w h1 h2 (by omega) (by omega)).mono fun _ _ h=>h.ret
 ·exact con1 fun w x a1 a2 n1 c1 n2 c2 h1 h2 b1 b2=>(rsign_any w x.l2 h1 (by omega)).mono fun _ _ h=>h.ret
 ·exact con1 fun w x a1 a2 n1 c1 n2 c2 h1 h2 b1 b2=>(rvalid_any w h1 h2 (by omega) (by omega)).mono fun _ _ h=>h.ret
 ·exact con_of_zp
 ·exact con_nof
 ·exact con_nadd
 ·exact con_nmul
 ·exact con_nmake
 ·exact con_ndiv
 ·exact con_nuint
 ·exact con_fnof
 ·exact con_fnmake
 ·exact con_fndiv
 ·exact con_fnuint
 ·exact con_fnmul
 ·exact con_fnadd
 ·exact con_quot
 ·exact con_fquot
 ·exact con_itoa
 ·exact con_repeat
 ·exact con_atoiL
 ·exact con_dt
 ·exact con_isgn
 ·exact con_index
 ·exact con_split
 ·exact con_hasPrefix
 ·exact con_cc
end Go.Proofs.YtnegdhjdienjlaaGreatDoor
