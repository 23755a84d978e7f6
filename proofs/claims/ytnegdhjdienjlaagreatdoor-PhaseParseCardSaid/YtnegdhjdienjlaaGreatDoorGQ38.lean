import Derived.Test.YtnegdhjdienjlaaGreatDoorRows
import Derived.Test.YtnegdhjdienjlaaGreatDoorGQ20
import Derived.Deep.Slices
import Derived.ChangeArms
import Derived.ChangeSlices
import Derived.DataReads
import Derived.OpenShut
import Derived.Lib.LaidTab
import Derived.Stop.LaidErr
import Derived.Shelf.Vars
import Derived.Handed
import Derived.ChangeOld
import Derived.Stop.Joined
import Derived.Deep.DeepWitnessRowRef
import Derived.Test.YtnegdhjdienjlaaGreatDoorGQ37
set_option linter.all false
set_option maxRecDepth 100000
namespace Go.Proofs.YtnegdhjdienjlaaGreatDoor
section
open Go.ChangeShapes Go.WideShapes Go.RowKit Go.Deep
def okT:Nat→Nat→Prop:=fun _ _=>True
def Opens(w:World)(t:TypeId)(A:Nat→List AV→Prop):Prop:=
 ∀(H:Type) (enc:TypeId × Value→H) (base:Nat) (spare:Nat→Bool) (held:Bool) (fuel:Nat) (cs:List Value) (x:DataW H × List MemPlace),DataW.trod enc Tryz.prog w base spare held fuel t cs=some x→∃us,A (Rows.uptoBulk x.1) us∧RV (RepT w okT) us cs
theorem Opens.mono{w:World}{t:TypeId}{A B:Nat→List AV→Prop}(h:Opens w t A)(hA:∀N us,A N us→B N us):Opens w t B:=fun H enc base spare held fuel cs x hx=>by
 obtain ⟨us,h1,h2⟩:=h H enc base spare held fuel cs x hx
 exact ⟨us,hA _ _ h1,h2⟩
section
variable {w : World}
def okInt(k:IntKind)(_:Nat)(z:Int):Prop:=(Lit.int k z).wf=true
theorem okInt.up{k:IntKind}{N M:Nat}{z:Int}(hN:N≤M)(h:okInt k N z):okInt k M z:=h
def okBool(_:Nat)(_:Bool):Prop:=True
theorem okBool.up{N M:Nat}{b:Bool}(hN:N≤M)(h:okBool N b):okBool M b:=h
def okNat(N:Nat)(l:List Nat):Prop:=Lim l∧l.length≤N
theorem okNat.up{N M:Nat}{l:List Nat}(hN:N≤M)(h:okNat N l):okNat M l:=⟨h.1,Nat.le_trans h.2 hN⟩
def okRaw(N:Nat)(r:Raw):Prop:=okNat N r.l1∧okNat N r.l2
theorem okRaw.up{N M:Nat}{r:Raw}(hN:N≤M)(h:okRaw N r):okRaw M r:=⟨h.1.up hN,h.2.up hN⟩
theorem rvs_nil{R:AV→Value→Prop}:RV R [] []:=⟨rfl,fun i d hi=>by simp at hi⟩
theorem rvs_cons{R:AV→Value→Prop}{a:AV}{v:Value}{l:List AV}{vs:List Value}(h:R a v)(hl:RV R l vs):RV R (a::l) (v::vs):=⟨by simp [hl.1],fun i d hi=>by
 match i,hi with
 | 0,hi=>cases hi;exact ⟨v,rfl,h⟩
 | i+1,hi=>exact hl.2 i d (by simpa using hi)⟩
end
end
section
open Go.ChangeShapes Go.WideShapes Go.RowKit Go.Deep
section
variable {w : World}
def okO_Decision(N:Nat)(x:TDecisionR):Prop:=okInt .i64 N x.Kind∧okInt .i64 N x.Index∧okRaw N x.At
theorem okO_Decision.up{N M:Nat}{x:TDecisionR}(hN:N≤M)(h:okO_Decision N x):okO_Decision M x:=⟨okInt.up hN h.1,okInt.up hN h.2.1,okRaw.up hN h.2.2⟩
end
end
section
open Go.ChangeShapes Go.WideShapes Go.RowKit Go.Deep
theorem handed_shaped {H:Type} {enc:TypeId × Value→H} {C:Checked} {os:Os} {f:FuncId} {fn:Func} {s:ChangeSpec} {X:World→Array Value→Prop} (hX:∀(w w':World) (args:Array Value),w.heap=w'.heap→X w args→X w' args) (own:ownKnob C.prog.godebug=none) (started:os.Started) (noInit:C.prog.inits.idxOf? f=none) (hfn:C.prog.funcs[f]?=some fn) (witness:∃(w:World) (tape:Tape) (i:Input),w.os=os∧(w.forCall tape i).Shaped C.prog∧i.vars=[]∧Input.okWide C.prog (w.forCall tape i) .any w.heap.size f i∧((s.pre enc C.prog fn [] false (w.forCall tape i).memory i.args∧X (w.forCall tape i).memory i.args)∧sizedMet enc C.prog fn (OpenSpec.ofChange s) false (w.forCall tape i).memory i.args)∧({}:Assume).holds C.prog (lone (Frame.enter C.prog f i.args .normal) [] (w.forCall tape i))) (contract:∀(W:World) (base:Nat) (args:Array Value) (ds gs:List (DataW H)) (before:List MemPlace),(∀(j:Nat) t v,fn.params[j]?=some t→args[j]?=some v→Value.okWide C.prog W .any base t v)→
   DataW.Whole enc C.prog fn.params.toList s.vars false W args.toList ds gs before→X W args→W.ShapedOpen C.prog→Calls C.prog f args W fun e W'=>∃v,e=.returned v∧s.post enc C.prog fn false true false false W args v W'):
  ReturnsInHanded {} C os f .any (fun w args=>(s.pre enc C.prog fn [] false w args∧X w args)∧sizedMet enc C.prog fn (OpenSpec.ofChange s) false w args) (s.post enc C.prog fn false true false false):=by
 refine returnsInHanded_of_calls own started noInit witness ?_
 intro w tape i _ hsh _ hok hpre _
 obtain ⟨_,_,_,fn',hfn',_,_,_,_,hval⟩:=hok
 cases hfn'.symm.trans hfn
 obtain ⟨⟨⟨ds,gs,before,hw,_⟩,hx⟩,_⟩:=hpre
 refine (contract (w.forCall tape i) w.heap.size i.args ds gs before hval (DataW.Whole.of_heap (w':=w.forCall tape i) (by rfl) hw) (hX _ _ _ (by rfl) hx) hsh).mono fun e W' ⟨v,he,hp⟩=>?_
 cases he
 exact ChangeSpec.post_blind hp
theorem maxL{w:World}(h:w.ShapedOpen Tryz.prog):∃m,w.cell? ⟨1,0,none⟩=some (.int .i64 m):=
 Go.Proofs.cell_of_shapedOpen_int (zero:=#[.int .i64 0]) (t:= 3) h (of_decide_eq_true (by kernel_rfl)) (by kernel_rfl) rfl (by kernel_rfl) (by kernel_rfl) Tryz.underlying3
theorem gT: Tryz.prog.globalNamed "internal/strconv.uint64pow10"=some 4:=by kernel_rfl
theorem tT:(Tryz.prog.globals[4]?).map (·.type)=some 247:=by kernel_rfl
theorem gE: Tryz.prog.globalNamed "strconv.ErrSyntax"=some 2:=by kernel_rfl
theorem tE:(Tryz.prog.globals[2]?).map (·.type)=some 62:=by kernel_rfl
theorem starE: "*"++ "errors.errorString"= "*errors.errorString":=by decide
theorem rowE (u:TypeId) (h: Tryz.prog.typeName? 3 u=some "*errors.errorString"):u= 252:=
 typeName_ptr_named (nm:= "errors.errorString") (by rw [starE];kernel_rfl) (by kernel_rfl) (by decide) u (by rw [starE];exact h)
theorem gE2: Tryz.prog.globalNamed "strconv.ErrRange"=some 3:=by kernel_rfl
theorem tE2:(Tryz.prog.globals[3]?).map (·.type)=some 62:=by kernel_rfl
theorem gO: Tryz.prog.globalNamed "relucert/phase.opposites"=some 0:=by kernel_rfl
theorem tO:(Tryz.prog.globals[0]?).map (·.type)=some 108:=by kernel_rfl
def oppL:List Int:=[0,2,1,4,3]
theorem gtab_two{g:Nat}{cs:List AV}(h:gtab g=some cs):(g= 4∧cs=Lib.pow10Tab.map fun z=>AV.lit (.int .u64 z))∨(g= 0∧cs=oppL.map fun z=>AV.lit (.int .i64 z)):=by
 unfold gtab at h
 split at h
 ·rename_i e
  subst e
  cases h
  first|exact .inl ⟨rfl,rfl⟩|exact .inr ⟨rfl,rfl⟩
 ·split at h
  ·rename_i e
   subst e
   cases h
   first|exact .inl ⟨rfl,rfl⟩|exact .inr ⟨rfl,rfl⟩
  ·cases h
theorem tab_glob{w:World}{name:String}{g:Nat}{k:IntKind}{zs:List Int}(hg: Tryz.prog.globalNamed name=some g)(hT:Lib.TabIs Tryz.prog w name k zs):RepT w okT (.mem (zs.map fun z=>AV.lit (.int k z))) (.pointer (some ⟨g,0,none⟩))∧∃t,w.shape? g=some (t,(zs.map fun z=>AV.lit (.int k z)).length):=by
 unfold Lib.TabIs World.var? at hT
 rw [hg] at hT
 simp only [Option.bind_some] at hT
 split at hT
 ·rename_i c t fr hc
  cases hT
  have key:∀(j:Nat) (d:AV),(zs.map fun z=>AV.lit (.int k z))[j]?=some d→∃v,w.cell? ⟨g,0+j,none⟩=some v∧d=.lit v:=fun j d hj=>by
   rw [List.getElem?_map] at hj
   obtain ⟨z,hz,rfl⟩:=Option.map_eq_some_iff.1 hj
   refine ⟨.int k z,?_,rfl⟩
   rw [Nat.zero_add]
   simp only [World.cell?,hc]
   simp [hz]
  refine ⟨.mem (fun j d hj=>?_) (fun j d hj=>?_),t,?_⟩
  ·obtain ⟨v,h1,_⟩:=key j d hj
   exact ⟨trivial,by rw [h1];rfl⟩
  ·obtain ⟨v,h1,rfl⟩:=key j d hj
   rw [h1]
   exact .lit _
  ·simp [World.shape?,hc]
 ·cases hT
theorem laid_globP {W:World} (hs:W.ShapedOpen Tryz.prog) (h:laidMet Tryz.prog [("math/bits.deBruijn32tab",Rows.laid_math_bits_deBruijn32tab),("math/bits.deBruijn64tab",Rows.laid_math_bits_deBruijn64tab),("internal/strconv.uint64pow10",Rows.laid_internal_strconv_uint64pow10),("unicode/utf8.acceptRanges",Rows.laid_unicode_utf8_acceptRanges),("strconv.ErrRange",Rows.laid_strconv_ErrRange),("strconv.ErrSyntax",Rows.laid_strconv_ErrSyntax),("relucert/phase.opposites",Rows.laid_relucert_phase_opposites),("unicode/utf8.first",Rows.laid_unicode_utf8_first)] W):Glob W okT:=by
 have h3:=laidMet.tail (laidMet.tail h)
 have hT:Lib.TabIs Tryz.prog W "internal/strconv.uint64pow10" .u64 Lib.pow10Tab:=Lib.tabIs_of_head gT tT Tryz.underlying247 Tryz.underlying87 (by kernel_rfl) (by kernel_rfl) h3
 have h5:=laidMet.tail (laidMet.tail h3)
 have h6:=laidMet.tail h5
 have h7:=laidMet.tail h6
 have hO:Lib.TabIs Tryz.prog W "relucert/phase.opposites" .i64 oppL:=Lib.tabIs_of_head gO tO Tryz.underlying108 Tryz.underlying3 (by kernel_rfl) (by kernel_rfl) h7
 obtain ⟨a0,s0,hv0,_⟩:=laid_sentinel h5 gE2 tE2 Tryz.underlying62 rowE Tryz.underlying252 Tryz.underlying254 rfl rfl Tryz.underlying9 (by kernel_rfl) (by kernel_rfl)
 obtain ⟨a1,s1,hv1,_⟩:=laid_sentinel h6 gE tE Tryz.underlying62 rowE Tryz.underlying252 Tryz.underlying254 rfl rfl Tryz.underlying9 (by kernel_rfl) (by kernel_rfl)
 refine ⟨fun g cs hg=>?_,fun g hg=>?_,fun g hg=>?_⟩
 ·rcases gtab_two hg with ⟨rfl,rfl⟩|⟨rfl,rfl⟩
  ·exact tab_glob gT hT
  ·exact tab_glob gO hO
 ·have e:g= 2∨g= 3:=by simpa [gerr] using hg
  rcases e with rfl|rfl
  ·exact ⟨trivial,_,_,World.var?_cell gE hv1 0⟩
  ·exact ⟨trivial,_,_,World.var?_cell gE2 hv0 0⟩
 ·have e:g= 1:=by simpa [gint] using hg
  subst e
  exact ⟨trivial,maxL hs⟩
theorem true_end{w:World}{ok:Nat→Nat→Prop}{e:Ending}{w':World}(h:∃v,e=.returned v∧RepT w' (okN ok w w') (.lit (.bool true)) v∧Below w.heap.size w w'):RetB true w e w':=by
 obtain ⟨v,rfl,h2,h3⟩:=h
 cases h2
 exact ⟨rfl,h3⟩
end
section
open Go.ChangeShapes Go.WideShapes Go.RowKit Go.Deep
theorem pq_use(w:World)(s:ByteArray)(hG:Glob w okT):Calls Tryz.prog 4 #[.string s] w (RetB true w):=by
 have h:=pp_law s.data.toList
 rw [bs_self] at h
 exact (h w okT _ hG (rvs_cons (.lit _) rvs_nil)).mono fun _ _ h=>true_end h
end
end Go.Proofs.YtnegdhjdienjlaaGreatDoor
