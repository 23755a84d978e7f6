import Derived.Test.YtefdjbknmfeooaaGreatDoorGO12
import Derived.Orders
import Derived.RangeFuncNested
import Derived.RangeFuncLeaves
import Derived.TacticsIn
import Derived.Scope
import Derived.LoopN
set_option linter.all false
namespace Go.Proofs.YtefdjbknmfeooaaGreatDoor
open Go.RowKit
structure St where
 T:List (Nat × AV)
 B:List (Nat × Option AB)
 nx:Nat
def findT:List (Nat × AV)→Nat→AV
 | [],_=>.any
 | (y,v)::l,x=>if x=y then v else findT l x
def St.t(s:St)(x:Nat):AV:=findT s.T x
def St.b(s:St)(x:Nat):Option AB:=(getU s.B x).getD none
def putS(T:List (Nat × AV))(dst:Option Tmp)(v:AV):List (Nat × AV):=
 match dst with
 | some d=>(d,v)::T
 | none=>T
def guardA(ops:Array Oper)(g:Option (Nat × Bool))(T:Nat→AV):Option Bool:=
 match g with
 | none=>some true
 | some (j,want)=>match (ops[j]?).bind (·.dst) with
   | some t=>(match T t with
     | .lit v=>(match v with
       | .bool b=>some (b==want)
       | _=>some false)
     | _=>none)
   | none=>none
def dstOk(N:Nat):Option Tmp→Bool
 | some t=>Nat.blt t N
 | none=>true
def opS(P:Program)(O:FuncId→Option Orc)(N:Nat)(ops:Array Oper)(o:Oper)(s:St):Option St:=
 match dstOk N o.dst with
 | true=>(match guardA ops o.guard s.t with
   | some true=>(match (aop P O o s.nx).run s.t s.b with
     | some (v,up,nx)=>(match Nat.ble s.nx nx with
       | true=>some ⟨putS s.T o.dst v,up++s.B,nx⟩
       | false=>none)
     | none=>none)
   | some false=>some ⟨putS s.T o.dst (.lit undef),s.B,s.nx⟩
   | none=>none)
 | false=>none
def opsS(P:Program)(O:FuncId→Option Orc)(N:Nat)(ops:Array Oper):List Oper→St→Option St
 | [],s=>some s
 | o::l,s=>match opS P O N ops o s with
   | some s'=>opsS P O N ops l s'
   | none=>none
structure Foot where
 rs:List Nat
 rb:List Nat
 wb:List Nat
 dst:Option Nat
def guardSlot(ops:Array Oper)(g:Option (Nat × Bool)):List Nat:=
 match g with
 | none=>[]
 | some (j,_)=>match (ops[j]?).bind (·.dst) with
   | some t=>[t]
   | none=>[]
def footS(P:Program)(O:FuncId→Option Orc)(ops:Array Oper)(o:Oper)(s:St):Foot:=
 match guardA ops o.guard s.t with
 | some true=>(match (aop P O o s.nx).run s.t s.b with
   | some (_,up,_)=>⟨guardSlot ops o.guard++((aop P O o s.nx).asks s.t s.b).1,((aop P O o s.nx).asks s.t s.b).2,up.map (·.1),o.dst⟩
   | none=>⟨[],[],[],none⟩)
 | _=>⟨guardSlot ops o.guard,[],[],o.dst⟩
def opsF(P:Program)(O:FuncId→Option Orc)(N:Nat)(ops:Array Oper):List Oper→St→Option (St × List Foot)
 | [],s=>some (s,[])
 | o::l,s=>match opS P O N ops o s with
   | some s'=>(match opsF P O N ops l s' with
     | some (s2,fs)=>some (s2,footS P O ops o s::fs)
     | none=>none)
   | none=>none
def maskOf(acc:List Nat):List Edge→Nat
 | []=>0
 | e::l=>if Region.binds .any e=true then (2 ^ e.on ||| acc.getD e.on 0) ||| maskOf acc l else maskOf acc l
def masks:List Oper→List Nat→List Nat
 | [],acc=>acc
 | o::l,acc=>masks l (acc++[maskOf acc o.after.toList])
def depsLt:List Oper→Nat→Bool
 | [],_=>true
 | o::l,i=>(o.after.toList.all fun e=>!Region.binds .any e || Nat.blt e.on i) && depsLt l (i+1)
def meet(a b:List Nat):Bool:=a.any fun x=>b.contains x
def optIn(d:Option Nat)(l:List Nat):Bool:=match d with|some t=>l.contains t|none=>false
def Foot.clash(a b:Foot):Bool:=
 optIn a.dst b.rs || optIn b.dst a.rs || optIn a.dst b.dst.toList || meet a.wb b.rb || meet a.wb b.wb || meet b.wb a.rb
def clashAll(f:Foot)(m:Nat):List Foot→Nat→Bool
 | [],_=>true
 | g::l,i=>(!(g.clash f) || m.testBit i) && clashAll f m l (i+1)
def pairsOk:List Foot→List Foot→List Nat→Bool
 | _,[],_=>true
 | pre,f::l,ms=>clashAll f (ms.getD pre.length 0) pre 0 && pairsOk (pre++[f]) l ms
def drawS(P:Program)(O:FuncId→Option Orc)(N:Nat)(ops:Array Oper)(s:St):Option St:=
 match opsF P O N ops ops.toList s with
 | some (s',fs)=>if depsLt ops.toList 0=true∧pairsOk [] fs (masks ops.toList [])=true then some s' else none
 | none=>none
inductive Ex where
 | nrm
 | exit (id:Nat)
 | ret
def reach(B:Nat→Option AB):Nat→List Nat→List Nat→List Nat
 | 0,_,acc=>acc
 | _+1,[],acc=>acc
 | f+1,x::l,acc=>if acc.contains x then reach B f l acc else match B x with
   | some (.box _ cs _)=>reach B f (AV.refsL cs++l) (acc++[x])
   | some (.row ..)=>reach B f l (acc++[x])
   | some (.mp _)=>reach B f l (acc++[x])
   | none=>reach B f l acc
def gcB(b:Nat→Option AB)(ρ:Nat→Option Nat):List Nat→Nat→List (Nat × Option AB)
 | [],_=>[]
 | x::l,i=>(i,(b x).map (AB.ren ρ))::gcB b ρ l (i+1)
def gcT(t:Nat→AV)(ρ:Nat→Option Nat):List Nat→List (Nat × AV)
 | []=>[]
 | x::l=>(x,(t x).ren ρ)::gcT t ρ l
def inRefs(b:Nat→Option AB):Nat→List Nat
 | 0=>[]
 | m+1=>(match b m with|some (.box _ cs _)=>AV.refsL cs|_=>[])++inRefs b m
def gcC(m:Nat)(live:List Nat)(s:St):Option St:=
 let keep:=reach s.b 64 (AV.refsL (live.map s.t)++inRefs s.b m) (List.range m)
 match nodupL keep with
 | true=>some ⟨gcT s.t (posIn keep) live,gcB s.b (posIn keep) keep 0,keep.length⟩
 | false=>none
def ph(slot cell e k:Nat):Nat:=slot+4096*(1+cell+64*(k+64*e))
def isHint(h:Nat):Bool:=Nat.ble 4096 h
def promo1(h:Nat)(s:St):St:=
 match s.t (h % 4096) with
 | .ptr b o=>(match s.b b with
   | some (.box t cs false)=>(match cs[o+(h / 4096-1) % 64]? with
     | some (.nl kk)=>(match (h / 4096-1) / 64 % 64 with
       | 0=>⟨s.T,(b,some (.box t (cs.set (o+(h / 4096-1) % 64) (.sl kk [])) false))::s.B,s.nx⟩
       | k+1=>⟨s.T,(b,some (.box t (cs.set (o+(h / 4096-1) % 64) (.own s.nx 0)) false))::(s.nx,some (.row ((h / 4096-1) / 4096) (k+1) [] 0))::s.B,s.nx+1⟩)
     | _=>s)
   | _=>s)
 | _=>s
def promo:List Nat→St→St
 | [],s=>s
 | h::l,s=>match isHint h with
   | true=>promo l (promo1 h s)
   | false=>promo l s
def slotsL:List Nat→List Nat
 | []=>[]
 | h::l=>match isHint h with
   | true=>slotsL l
   | false=>h::slotsL l
def gc(m:Nat)(live:List Nat)(s:St):Option St:=gcC m (slotsL live) (promo live s)
def regOf:Code→Nat
 | .region id _ _=>id
 | .seq a _=>regOf a
 | .block _ c=>regOf c
 | .loop c=>regOf c
 | .scope c=>regOf c
 | _=>0
def outOf(r:Nat):Nat:=r+1000000
def opnd(x:Operand)(T:Nat→AV):AV:=
 match x with
 | .tmp t=>T t
 | .const v=>ofV v
 | _=>.any
def loopS(m:Nat)(step:St→Option (Ex × St))(live:List Nat):Nat→St→Option (Ex × St)
 | 0,_=>none
 | n+1,s=>match gc m live s with
   | some s1=>(match step s1 with
     | some (.nrm,s')=>loopS m step live n s'
     | r=>r)
   | none=>none
def backL : List (Nat × TypeId) := [(96, 22), (97, 41)]
def noDefer(o:Oper):Bool:=match o.op with
 | .defer _=>false
 | _=>true
def simpleC:Code→Bool
 | .skip=>true
 | .region _ ops d=>!d && ops.toList.all noDefer
 | .seq a b=>simpleC a && simpleC b
 | .cond _ a b=>simpleC a && simpleC b
 | .block _ c=>simpleC c
 | .exit _=>true
 | _=>false
def rangeS(m:Nat)(step:Nat→List AV→St→Option St)(live:List Nat)(es:List (List AV)):Nat→St→Option St
 | 0,s=>gc m live s
 | i+1,s=>match gc m live s,es[i]? with
   | some s1,some el=>(match step i el s1 with
     | some s2=>rangeS m step live es i ⟨s1.T,s2.B,s2.nx⟩
     | none=>none)
   | _,_=>none
def rangeR(ra rb:St→Option (Ex × St))(ag:Bool)(k p q:Nat)(i:Nat)(el:List AV)(s:St):Option St:=
 match grab ag k el with
 | some d=>(match ra ⟨(q,d)::(p,.lit (.int .i64 (i:Int)))::s.T,s.B,s.nx⟩ with
   | some (.nrm,s2)=>(match rb s2 with
     | some (.nrm,s3)=>some s3
     | _=>none)
   | _=>none)
 | none=>none
def rangeE(P:Program)(m N:Nat)(live:List Nat)(ra rb:St→Option (Ex × St))(ok:Bool)(g:Operand)(ps:Array Tmp)(s:St):Option (Ex × St):=
 match ok,opnd g s.t,ps.toList with
 | true,.clo f [.mem [.sl k es]],[p,q]=>(match backL.lookup f with
   | some t=>(match elOf P t with
     | some (_,ag,k',_,_)=>if k=k'∧es.length≤1000000∧p<N∧q<N then
       (match rangeS m (rangeR ra rb ag k p q) live es es.length s with
       | some s'=>some (.nrm,s')
       | none=>none) else none
     | none=>none)
   | none=>none)
 | _,_,_=>none
def exec(P:Program)(O:FuncId→Option Orc)(m N:Nat)(lives:Nat→List Nat)(fuel:Nat):Code→St→Option (Ex × St)
 | .skip,s=>some (.nrm,s)
 | .region _ ops d,s=>match d with
   | false=>(match opsS P O N ops ops.toList s with|some s'=>some (.nrm,s')|none=>none)
   | true=>(match drawS P O N ops s with|some s'=>some (.nrm,s')|none=>none)
 | .seq x y,s=>match exec P O m N lives fuel x s with
   | some (.nrm,s')=>exec P O m N lives fuel y s'
   | r=>r
 | .cond c x y,s=>match opnd c s.t with
   | .lit (.bool true)=>exec P O m N lives fuel x s
   | .lit (.bool false)=>exec P O m N lives fuel y s
   | _=>none
 | .block id c,s=>match exec P O m N lives fuel c s with
   | some (.exit i,s')=>if i=id then some (.nrm,s') else some (.exit i,s')
   | r=>r
 | .loop c,s=>match loopS m (exec P O m N lives fuel c) (lives (regOf c)) fuel s with
   | some (ex,s')=>(match gc m (lives (outOf (regOf c))) s' with|some s2=>some (ex,s2)|none=>none)
   | none=>none
 | .exit id,s=>some (.exit id,s)
 | .ret,s=>some (.ret,s)
 | .label _,s=>some (.nrm,s)
 | .scope c,s=>exec P O m N lives fuel c s
 | .rangeFunc g ps a b,s=>rangeE P m N (lives (regOf a)) (exec P O m N lives fuel a) (exec P O m N lives fuel b) (simpleC a && simpleC b) g ps s
 | _,_=>none
def rvA(P:Program)(s:St):ResultVar→Option AV
 | .tmp t=>some (s.t t)
 | .cell a t=>match tyOf P t with
   | some (g,n)=>(match (ldT g n (s.t a) s.nx).run s.t s.b with|some (v,_,_)=>some v|none=>none)
   | none=>none
def rvL(P:Program)(s:St):List ResultVar→Option (List AV)
 | []=>some []
 | r::l=>match rvA P s r,rvL P s l with
   | some d,some ds=>some (d::ds)
   | _,_=>none
def resultA(P:Program)(s:St)(rs:List ResultVar):Option AV:=
 match rvL P s rs with
 | some [d]=>(match (res 3 d fun d _=>.done d [] 0).run s.t s.b with|some (v,_,_)=>some v|none=>none)
 | some ds=>(match (res 3 (.tup ds) fun d _=>.done d [] 0).run s.t s.b with|some (v,_,_)=>some v|none=>none)
 | none=>none
def initT:List AV→Nat→List (Nat × AV)
 | [],_=>[]
 | d::l,i=>(i,d)::initT l (i+1)
def initB:List AB→Nat→List (Nat × Option AB)
 | [],_=>[]
 | b::l,i=>(i,some b)::initB l (i+1)
def absFn(P:Program)(O:FuncId→Option Orc)(lives:Nat→List Nat)(fuel N:Nat)(rs:List ResultVar)(c:Code)(args:List AV):Option AV:=
 match Nat.ble args.length N with
 | true=>(match exec P O 0 N lives fuel c ⟨initT args 0,[],0⟩ with
   | some (.nrm,s)=>resultA P s rs
   | some (.ret,s)=>resultA P s rs
   | _=>none)
 | false=>none
def outsA(b:Nat→Option AB):List Nat→Option (List (Nat × AB))
 | []=>some []
 | i::l=>match outsA b l with
   | some r=>(match b i with
     | some blk=>some ((i,blk)::r)
     | none=>some r)
   | none=>none
def inner(b:Nat→Option AB):List Nat→List Nat
 | []=>[]
 | i::l=>match b i with
   | some (.box _ cs _)=>AV.refsL cs++inner b l
   | some (.row ..)=>inner b l
   | some (.mp _)=>inner b l
   | none=>inner b l
def deep(b:Nat→Option AB)(l:List Nat):List Nat:=addL [] (l++(inner b l++inner b (inner b l)))
def oneOf:List AV→AV
 | [d]=>d
 | ds=>.tup ds
def resultL(P:Program)(s:St)(m:Nat)(keep:Bool)(rs:List ResultVar):Option (AV × List (Nat × AB)):=
 match rvL P s rs with
 | some ds=>(match keep with
   | true=>(match outsA s.b (deep s.b (List.range m++AV.refs (oneOf ds))) with
     | some o=>some (oneOf ds,o)
     | none=>none)
   | false=>(match (res 3 (oneOf ds) fun d fs=>.done d (fs.map fun b=>(b,none)) 0).run s.t s.b with
     | some (r,up,_)=>(match up.all (fun p=>!(deep s.b (List.range m)).contains p.1) with
       | true=>(match outsA s.b (deep s.b (List.range m)) with
         | some o=>some (r,o)
         | none=>none)
       | false=>none)
     | none=>none))
 | none=>none
def absL(P:Program)(O:FuncId→Option Orc)(lives:Nat→List Nat)(fuel N:Nat)(rs:List ResultVar)(c:Code)(keep:Bool)(args:List AV)(bin:List AB):Option (AV × List (Nat × AB)):=
 match Nat.ble args.length N with
 | true=>(match exec P O bin.length N lives fuel c ⟨initT args 0,initB bin 0,bin.length⟩ with
   | some (.nrm,s)=>resultL P s bin.length keep rs
   | some (.ret,s)=>resultL P s bin.length keep rs
   | _=>none)
 | false=>none
section
variable{P:Program}{E:Nat→Nat→Prop}{w w' w1:World}{m N:Nat}{T:Nat→AV}{B B' B1:Nat→Option AB}{L L' L1:Nat→Option Value}{a:Act}{up:List (Nat × Option AB)}{ok:Nat→Nat→Prop}
theorem b_append(s:St)(up:List (Nat × Option AB))(T:List (Nat × AV))(nx:Nat):(⟨T,up++s.B,nx⟩:St).b=updB s.b up:=by
 funext x
 simp only [St.b,updB]
 rw [getU_append]
 cases getU up x <;>rfl
theorem t_put(s:St)(dst:Option Tmp)(v:AV)(B:List (Nat × Option AB))(nx:Nat):(⟨putS s.T dst v,B,nx⟩:St).t=putT s.t dst v:=by
 funext x
 cases dst <;>rfl
theorem Run.refl:Run B L B L w w:=⟨Mod.refl _ _,fun id blk v g h1 h2 h3 _=>⟨id,blk,v,h1,h2,h3,fun _ h=>h⟩⟩
theorem Run.trans(h:Run B L B1 L1 w w1)(k:Run B1 L1 B' L' w1 w'):Run B L B' L' w w':=by
 refine ⟨?_,fun id blk v g h1 h2 h3 h4=>?_⟩
 ·refine (h.mod.trans k.mod).mono fun g o hg hm=>?_
  rcases hm with hm|⟨id,blk,v,h1,h2,h3,h4⟩
  ·exact hm
  ·obtain ⟨id0,blk0,v0,h5,h6,h7,h8⟩:=h.own id blk v g h1 h2 h3 hg
   exact ⟨id0,blk0,v0,h5,h6,h7,fun h9=>h4 (h8 o h9)⟩
 ·obtain ⟨id1,blk1,v1,h5,h6,h7,h8⟩:=k.own id blk v g h1 h2 h3 (Nat.lt_of_lt_of_le h4 h.mod.size)
  obtain ⟨id0,blk0,v0,h9,h10,h11,h12⟩:=h.own id1 blk1 v1 g h5 h6 h7 h4
  exact ⟨id0,blk0,v0,h9,h10,h11,fun o h=>h8 o (h12 o h)⟩
theorem Aft.run(h:Aft E B L B' L' w w'):Run B L B' L' w w':=⟨h.mod,h.own⟩
structure Low (m:Nat) (L0 L:Nat→Option Value) (w0:World) (a:Act):Prop where
 lk:∀i u,i<m→L0 i=some u→L i=some u
 df:∀d∈a.defers,∀D,d.target=.collected D→w0.heap.size≤D
theorem put_defers(a:Act)(dst:Option Tmp)(v:Value):(a.put dst v).defers=a.defers:=by cases dst <;>rfl
theorem Low.put{m:Nat}{L0 L L':Nat→Option Value}{w0:World}{a:Act}(h:Low m L0 L w0 a)(hl:∀b v,L b=some v→L' b=some v)(dst:Option Tmp)(v:Value):Low m L0 L' w0 (a.put dst v):=
 ⟨fun i u hi hu=>hl _ _ (h.lk i u hi hu),by rw [put_defers];exact h.df⟩
def Fits(E:Nat→Nat→Prop)(m N:Nat)(B0:Nat→Option AB)(L0:Nat→Option Value)(w0:World)(s:St)(a:Act)(w:World):Prop:=
 ∃L,SRel E N s.t s.b L a w∧(∀id,s.nx≤id→L id=none)∧Run B0 L0 s.b L w0 w∧Low m L0 L w0 a
theorem guardA_sound(h:SRel E N T B L a w){ops:Array Oper}{o:Oper}{b:Bool}(hg:guardA ops o.guard T=some b):Region.wanted o (yielded ops a.tmps)=b:=by
 unfold guardA at hg
 unfold Region.wanted
 split at hg
 ·rename_i hn
  cases hg
  rw [hn]
 ·rename_i j want hn
  rw [hn]
  dsimp only
  split at hg
  ·rename_i t ht
   split at hg
   ·rename_i v hc
    have h1:=h.slots t
    rw [hc] at h1
    have h2:=rep_lit h1
    split at hg
    ·rename_i c
     cases hg
     have h3:a.tmps[t]?=some (.bool c):=by
      rw [Array.getD_eq_getD_getElem?] at h2
      cases hx:a.tmps[t]? with
      | none=>rw [hx] at h2;cases h2
      | some u=>rw [hx] at h2;simp at h2;rw [h2]
     have h4:yielded ops a.tmps j=some c:=by
      unfold yielded
      rw [ht,Option.bind_some,h3]
     rw [h4]
     cases c <;>cases want <;>rfl
    ·rename_i hnb
     cases hg
     have h4:yielded ops a.tmps j=none:=by
      unfold yielded
      rw [ht,Option.bind_some]
      rw [Array.getD_eq_getD_getElem?] at h2
      cases hx:a.tmps[t]? with
      | none=>rfl
      | some u=>
        rw [hx] at h2
        have h2':u=v:=h2
        subst h2'
        cases u with
        | bool c=>exact absurd rfl (hnb c)
        | _=>rfl
     rw [h4]
     cases want <;>rfl
   ·cases hg
  ·cases hg
theorem putSlot(h:SRel E N T B L a w){dst:Option Tmp}(hd:∀t,dst=some t→t<N)(v:Value):SRel E N (putT T dst (.lit v)) B L (a.put dst v) w:=h.aft (Aft.refl h.bs) (.t (.lit _)) hd
theorem dstOk_lt{N:Nat}{dst:Option Tmp}(h:dstOk N dst=true):∀t,dst=some t→t<N:=fun t ht=>by
 subst ht
 exact Nat.le_of_ble_eq_true h
theorem opS_sound{O:FuncId→Option Orc}(hO:OrcOk P O){ops:Array Oper}{o:Oper}{s s':St}(hs:opS P O N ops o s=some s'){B0:Nat→Option AB}{L0:Nat→Option Value}{w0:World}(h:Fits E m N B0 L0 w0 s a w){K:Act→World→Prop}{Q:Exit→Act→World→Prop}(hK:∀v w',Fits E m N B0 L0 w0 s' (a.put o.dst v) w'→K (a.put o.dst v) w'):if Region.wanted o (yielded ops a.tmps)=true then o.wp P a w K Q else K (a.put o.dst undef) w:=by
 obtain ⟨L,h1,h2,h3,hm⟩:=h
 unfold opS at hs
 split at hs
 ·rename_i hd
  split at hs
  ·rename_i hg
   rw [if_pos (guardA_sound h1 hg)]
   split at hs
   ·rename_i v up nx hr
    split at hs
    ·rename_i hn
     cases hs
     have hle:=Nat.le_of_ble_eq_true hn
     refine aop_sound hO h1 hr (fun id hid _=>h2 id hid) fun v' w' L' hA hv hnew=>hK _ _ ⟨L',?_,fun id hid=>?_,?_,hm.put hA.lk _ _⟩
     ·rw [t_put,b_append]
      exact h1.aft hA hv (dstOk_lt hd)
     ·cases hl:L' id with
      | none=>rfl
      | some u=>
        dsimp only at hid
        have:=hnew id (h2 id (by omega)) (by rw [hl];simp)
        omega
     ·rw [b_append]
      exact h3.trans hA.run
    ·cases hs
   ·cases hs
  ·rename_i hg
   cases hs
   rw [if_neg (by rw [guardA_sound h1 hg];simp)]
   refine hK _ _ ⟨L,?_,h2,h3,hm.put (fun _ _ h=>h) _ _⟩
   rw [t_put]
   exact putSlot h1 (dstOk_lt hd) _
  ·cases hs
 ·cases hs
theorem opsS_sound{O:FuncId→Option Orc}(hO:OrcOk P O){ops:Array Oper}{B0:Nat→Option AB}{L0:Nat→Option Value}{w0:World}{Q:Exit→Act→World→Prop}:∀(l:List Oper) (s s':St),opsS P O N ops l s=some s'→
  (∀a' w',Fits E m N B0 L0 w0 s' a' w'→Q .normal a' w')→∀a w,Fits E m N B0 L0 w0 s a w→wpList P ops Q l a w
 | [],s,s',hs,hQ,a,w,h=>by
   simp only [opsS,Option.some.injEq] at hs
   subst hs
   exact hQ a w h
 | o::l,s,s',hs,hQ,a,w,h=>by
   simp only [opsS] at hs
   split at hs
   ·rename_i s1 h1
    have:=opS_sound (P:=P) (K:=wpList P ops Q l) (Q:=Q) hO h1 h fun v w' hf=>opsS_sound hO l s1 s' hs hQ _ w' hf
    unfold wpList
    split
    ·rename_i hw
     rw [if_pos hw] at this
     exact .inl this
    ·rename_i hw
     rw [if_neg hw] at this
     exact this
   ·cases hs
theorem gcB_get(b:Nat→Option AB)(ρ:Nat→Option Nat):∀(l:List Nat) (i0 x:Nat),(getU (gcB b ρ l i0) x).getD none=if i0≤x then (l[x-i0]?).bind fun y=>(b y).map (AB.ren ρ) else none
 | [],i0,x=>by simp [gcB,getU]
 | y::l,i0,x=>by
   simp only [gcB,getU]
   split
   ·rename_i e
    subst e
    simp
   ·rename_i e
    rw [gcB_get b ρ l (i0+1) x]
    by_cases h:i0+1≤x
    ·rw [if_pos h,if_pos (by omega),show x-i0=(x-(i0+1))+1 by omega,List.getElem?_cons_succ]
    ·rw [if_neg h,if_neg (by omega)]
theorem gcT_get(t:Nat→AV)(ρ:Nat→Option Nat):∀(l:List Nat) (x:Nat),findT (gcT t ρ l) x=.any∨findT (gcT t ρ l) x=(t x).ren ρ
 | [],x=>.inl rfl
 | y::l,x=>by
   simp only [gcT,findT]
   split
   ·rename_i e;subst e;exact .inr rfl
   ·exact gcT_get t ρ l x
def gcL(keep:List Nat)(L:Nat→Option Value)(i:Nat):Option Value:=(keep[i]?).bind L
theorem gcL_get{keep:List Nat}{i y:Nat}(h:keep[i]?=some y):gcL keep L i=L y:=by simp [gcL,h]
theorem reach_pre(b:Nat→Option AB):∀(f:Nat) (l acc:List Nat) (i:Nat),i<acc.length→(reach b f l acc)[i]?=acc[i]?
 | 0,l,acc,i,hi=>by simp [reach]
 | f+1,[],acc,i,hi=>by simp [reach]
 | f+1,x::l,acc,i,hi=>by
   simp only [reach]
   split
   ·exact reach_pre b f l acc i hi
   ·split
    ·rw [reach_pre b f _ _ i (by simp;omega),List.getElem?_append_left hi]
    ·rw [reach_pre b f _ _ i (by simp;omega),List.getElem?_append_left hi]
    ·rw [reach_pre b f _ _ i (by simp;omega),List.getElem?_append_left hi]
    ·exact reach_pre b f l acc i hi
theorem gcC_sound{live:List Nat}{s s':St}(hs:gcC m live s=some s'){B0:Nat→Option AB}{L0:Nat→Option Value}{w0:World}(h:Fits E m N B0 L0 w0 s a w):Fits E m N B0 L0 w0 s' a w:=by
 obtain ⟨L,h1,h2,h3,hm⟩:=h
 unfold gcC at hs
 dsimp only at hs
 have hpre:∀i,i<m→(reach s.b 64 (AV.refsL (live.map s.t)++inRefs s.b m) (List.range m))[i]?=some i:=fun i hi=>by
  rw [reach_pre _ _ _ _ _ (by simpa using hi)]
  simp [hi]
 generalize hk:reach s.b 64 (AV.refsL (live.map s.t)++inRefs s.b m) (List.range m)=keep at hs hpre
 split at hs
 ·rename_i hn
  cases hs
  have hρ:∀b i,posIn keep b=some i→gcL keep L i=L b:=fun b i hi=>gcL_get (posIn_get hi)
  have hB:∀i blk,(⟨gcT s.t (posIn keep) live,gcB s.b (posIn keep) keep 0,keep.length⟩:St).b i=some blk→∃y b0,keep[i]?=some y∧s.b y=some b0∧blk=b0.ren (posIn keep):=fun i blk hi=>by
   have e:(⟨gcT s.t (posIn keep) live,gcB s.b (posIn keep) keep 0,keep.length⟩:St).b i=(keep[i]?).bind fun y=>(s.b y).map (AB.ren (posIn keep)):=by
    show (getU (gcB s.b (posIn keep) keep 0) i).getD none=_
    rw [gcB_get]
    simp
   rw [e] at hi
   obtain ⟨y,h4,h5⟩:=Option.bind_eq_some_iff.1 hi
   obtain ⟨b0,h6,h7⟩:=Option.map_eq_some_iff.1 h5
   exact ⟨y,b0,h4,h6,h7.symm⟩
  have hok:∀b o,okS E s.b L b o→okS E (⟨gcT s.t (posIn keep) live,gcB s.b (posIn keep) keep 0,keep.length⟩:St).b (gcL keep L) b o:=fun b o h4=>⟨h4.1,fun id blk v h5 h6 h7=>by
   obtain ⟨y,b0,h8,h9,rfl⟩:=hB id blk h5
   rw [gcL_get h8] at h6
   rw [AB.ren_frz]
   exact h4.2 y b0 v h9 h6 h7⟩
  refine ⟨gcL keep L,⟨fun t=>?_,⟨fun id blk h4=>?_,fun id blk v g h4 h5 h6 o=>?_,h1.bs.fresh,h1.bs.limb,fun id id' blk blk' v v' g h4 h5 h6 h7 h8 h9=>?_,h1.bs.glob.mono (fun _ _ _ _ h=>h) (fun b o _ h4 _=>hok b o h4) fun _ _=>rfl⟩,h1.size,h1.defers⟩,fun id hid=>?_,h3.trans ⟨Mod.refl _ _,fun id blk v g h4 h5 h6 _=>?_⟩,⟨fun i u hi hu=>by rw [gcL_get (hpre i hi)];exact hm.lk i u hi hu,hm.df⟩⟩
  ·rcases gcT_get s.t (posIn keep) live t with h4|h4
   ·simp only [St.t]
    rw [h4]
    exact .t (.any _)
   ·simp only [St.t]
    rw [h4]
    exact (Rep.ren hρ _ _ (h1.slots t)).mono (fun _ _ _ _ h=>h) (fun b o _ h5 _=>hok b o h5) (fun _ _ h=>h)
  ·obtain ⟨y,b0,h8,h9,rfl⟩:=hB id blk h4
   have h10:=h1.bs.blk y b0 h9
   cases b0 with
   | row e k es fz=>
     obtain ⟨v,xs,h11,h12,h13,h14,h15⟩:=h10
     refine ⟨v,xs,by rw [gcL_get h8];exact h11,h12,h13,h14,fun i j x d h16 h17=>?_⟩
     obtain ⟨u,h18,h19⟩:=h15 i j x d h16 h17
     exact ⟨u,h18,h19.mono (fun _ _ _ _ h=>h) fun b o _ h5 _=>hok b o h5⟩
   | box t cs fz=>
     obtain ⟨g,cells,h11,h12,h13,h14,h15⟩:=h10
     have h16:=Rep.renL hρ cs (fun i=>cells.getD i undef) h14
     exact ⟨g,cells,by rw [gcL_get h8];exact h11,h12,by rw [h16.1];exact h13,fun i d hi=>(h16.2 i d hi).mono (fun _ _ _ _ h=>h) (fun b o _ h5 _=>hok b o h5) (fun _ _ h=>h),h15⟩
   | mp es=>
     obtain ⟨g,ents,c,h11,h12,h13⟩:=h10
     exact ⟨g,ents,c,by rw [gcL_get h8];exact h11,h12,h13⟩
  ·obtain ⟨y,b0,h8,h9,rfl⟩:=hB id blk h4
   rw [gcL_get h8] at h5
   exact h1.bs.ext y b0 v g h9 h5 h6 o
  ·obtain ⟨y,b0,h10,h11,rfl⟩:=hB id blk h4
   obtain ⟨y',b0',h12,h13,rfl⟩:=hB id' blk' h5
   rw [gcL_get h10] at h6
   rw [gcL_get h12] at h7
   have:=h1.bs.inj y y' b0 b0' v v' g h11 h13 h6 h7 h8 h9
   subst this
   exact nodupL_inj hn h10 h12
  ·simp [gcL,List.getElem?_eq_none hid]
  ·obtain ⟨y,b0,h8,h9,rfl⟩:=hB id blk h4
   rw [gcL_get h8] at h5
   exact ⟨y,b0,v,h9,h5,h6,fun o ho=>by rw [AB.ren_frz];exact ho⟩
 ·cases hs
theorem promo1_sound{h:Nat}{s:St}{B0:Nat→Option AB}{L0:Nat→Option Value}{w0:World}(hf:Fits E m N B0 L0 w0 s a w):Fits E m N B0 L0 w0 (promo1 h s) a w:=by
 unfold promo1
 split
 ·rename_i b o hslot
  split
  ·rename_i t cs hb
   split
   ·rename_i kk hc
    generalize o+(h / 4096-1) % 64=c at hc ⊢
    split
    ·obtain ⟨L,h1,h2,h3,hm⟩:=hf
     have hst:Step E s.b L [(b,some (.box t (cs.set c (.sl kk [])) false))] L w w:=by
      refine ⟨fun _ _ h=>h,Mod.refl _ _,fun hr hrt id blk hu=>?_,fun id blk v g hu hL' hg=>?_,fun id id' blk blk' v v' g hu hu' hl hl' hg hg'=>?_⟩
      ·simp only [getU] at hu
       split at hu
       ·rename_i e
        subst e
        cases hu
        obtain ⟨g,cells,h4,h5,h6,h7,h8⟩:=h1.bs.blk id _ hb
        refine ⟨g,cells,h4,h5,by simpa using h6,fun i d hi=>?_,h8⟩
        rw [List.getElem?_set] at hi
        split at hi
        ·rename_i e
         subst e
         split at hi
         ·cases hi
          have h9:=h7 c _ hc
          cases h9 with
          | t h9=>
            generalize cells.getD c undef=u at h9
            cases h9
            exact .t (.nil _ _)
         ·cases hi
        ·exact hr _ _ (h7 i d hi)
       ·cases hu
      ·simp only [getU] at hu
       split at hu
       ·rename_i e
        subst e
        cases hu
        exact .inr ⟨id,_,v,by simp [getU],hb,hL',hg,fun o h=>h⟩
       ·cases hu
      ·simp only [getU] at hu hu'
       split at hu
       ·split at hu'
        ·rename_i e e';rw [e,e']
        ·cases hu'
       ·cases hu
     refine ⟨L,?_,h2,?_,hm⟩
     ·have h4:=h1.aft (hst.aft h1.bs) (dst:=none) (d:=.any) (v:=undef) (.t (.any _)) (fun t ht=>by cases ht)
      rw [←b_append s _ s.T s.nx] at h4
      exact h4
     ·have h4:=h3.trans (hst.aft h1.bs).run
      rw [←b_append s _ s.T s.nx] at h4
      exact h4
    rename_i kq _
    obtain ⟨L,h1,h2,h3,hm⟩:=hf
    have hL:=h2 s.nx (Nat.le_refl _)
    have hbn:b≠s.nx:=fun e=>by
     obtain ⟨v,hv⟩:=(h1.bs.blk b _ hb).has
     rw [e,hL] at hv;cases hv
    have hst:Step E s.b L [(b,some (.box t (cs.set c (.own s.nx 0)) false)),(s.nx,some (.row ((h / 4096-1) / 4096) (kq+1) [] 0))] (setL L s.nx (.slice none 0 0)) w w:=by
     refine ⟨setL_lk hL _,Mod.refl _ _,fun hr hrt id blk hu=>?_,fun id blk v g hu hL' hg=>?_,fun id id' blk blk' v v' g hu hu' hl hl' hg hg'=>?_⟩
     ·simp only [getU] at hu
      split at hu
      ·rename_i e
       subst e
       cases hu
       obtain ⟨g,cells,h4,h5,h6,h7,h8⟩:=h1.bs.blk id _ hb
       refine ⟨g,cells,setL_lk hL _ _ _ h4,h5,by simpa using h6,fun i d hi=>?_,h8⟩
       rw [List.getElem?_set] at hi
       split at hi
       ·rename_i e
        subst e
        split at hi
        ·cases hi
         have h9:=h7 c _ hc
         cases h9 with
         | t h9=>
           generalize cells.getD c undef=u at h9
           cases h9
           exact .own (setL_self _ _ _)
        ·cases hi
       ·exact hr _ _ (h7 i d hi)
      ·split at hu
       ·rename_i e
        subst e
        cases hu
        exact ⟨_,[],setL_self _ _ _,Row.nil _ _ _ _ _,Nat.le_refl _,fun x hx=>(by cases hx),fun i j x d hi=>(by simp at hi)⟩
       ·cases hu
     ·simp only [getU] at hu
      split at hu
      ·rename_i e
       subst e
       cases hu
       obtain ⟨v0,hv0⟩:=(h1.bs.blk id _ hb).has
       have h4:=setL_lk hL (.slice none 0 0) _ _ hv0
       rw [hL'] at h4
       cases h4
       exact .inr ⟨id,_,v,by simp [getU],hb,hv0,hg,fun o h=>h⟩
      ·split at hu
       ·rename_i e
        subst e
        rw [setL_self] at hL'
        cases hL'
        cases hg
       ·cases hu
     ·simp only [getU] at hu hu'
      split at hu
      ·split at hu'
       ·rename_i e e';rw [e,e']
       ·split at hu'
        ·rename_i e
         subst e
         rw [setL_self] at hl';cases hl'
         cases hg'
        ·cases hu'
      ·split at hu
       ·rename_i e
        subst e
        rw [setL_self] at hl;cases hl
        cases hg
       ·cases hu
    refine ⟨setL L s.nx (.slice none 0 0),?_,fun id hid=>?_,?_,⟨fun i u hi hu=>setL_lk hL _ _ _ (hm.lk i u hi hu),hm.df⟩⟩
    ·have h4:=h1.aft (hst.aft h1.bs) (dst:=none) (d:=.any) (v:=undef) (.t (.any _)) (fun t ht=>by cases ht)
     rw [←b_append s _ s.T (s.nx+1)] at h4
     exact h4
    ·dsimp only at hid
     unfold setL
     rw [if_neg (by omega)]
     exact h2 id (by omega)
    ·have h4:=h3.trans (hst.aft h1.bs).run
     rw [←b_append s _ s.T (s.nx+1)] at h4
     exact h4
   ·exact hf
  ·exact hf
 ·exact hf
theorem promo_sound{B0:Nat→Option AB}{L0:Nat→Option Value}{w0:World}:∀(l:List Nat) (s:St),Fits E m N B0 L0 w0 s a w→Fits E m N B0 L0 w0 (promo l s) a w
 | [],s,h=>h
 | x::l,s,h=>by
   unfold promo
   split
   ·exact promo_sound l _ (promo1_sound h)
   ·exact promo_sound l _ h
theorem gc_sound{live:List Nat}{s s':St}(hs:gc m live s=some s'){B0:Nat→Option AB}{L0:Nat→Option Value}{w0:World}(h:Fits E m N B0 L0 w0 s a w):Fits E m N B0 L0 w0 s' a w:=
 gcC_sound hs (promo_sound live s h)
end
theorem Tr.run_congr{T T':Nat→AV}{B B':Nat→Option AB}:∀(tr:Tr),(∀t∈(tr.asks T B).1,T' t=T t)→(∀b∈(tr.asks T B).2,B' b=B b)→tr.run T' B'=tr.run T B
 | .slot t k,hT,hB=>by
   have h0:T' t=T t:=hT t (by simp [Tr.asks])
   simp only [Tr.run,h0]
   exact Tr.run_congr (k (T t)) (fun u hu=>hT u (by simp [Tr.asks,hu])) (fun b hb=>hB b (by simpa [Tr.asks] using hb))
 | .blk b k,hT,hB=>by
   have h0:B' b=B b:=hB b (by cases hx:B b <;>simp [Tr.asks,hx])
   simp only [Tr.run,h0]
   cases hx:B b with
   | none=>rfl
   | some x=>exact Tr.run_congr (k x) (fun u hu=>hT u (by simpa [Tr.asks,hx] using hu)) (fun c hc=>hB c (by simp [Tr.asks,hx,hc]))
 | .done _ _ _,_,_=>rfl
 | .fail,_,_=>rfl
structure Rec where
 o:Oper
 want:Bool
 v:AV
 up:List (Nat × Option AB)
 f:Nat
 f':Nat
 foot:Foot
def foldT(D:Nat→Bool):List Rec→Nat→(Nat→AV)→Nat→AV
 | [],_,T=>T
 | r::l,i,T=>foldT D l (i+1) (if D i then putT T r.o.dst r.v else T)
def foldB(D:Nat→Bool):List Rec→Nat→(Nat→Option AB)→Nat→Option AB
 | [],_,B=>B
 | r::l,i,B=>foldB D l (i+1) (if D i then updB B r.up else B)
theorem foldT_congr{D D':Nat→Bool}{t:Nat}:∀(l:List Rec) (i:Nat) (T T':Nat→AV),T t=T' t→(∀j r,l[j]?=some r→r.o.dst=some t→D (i+j)=D' (i+j))→foldT D l i T t=foldT D' l i T' t
 | [],_,_,_,h,_=>h
 | r::l,i,T,T',h,hd=>by
   simp only [foldT]
   refine foldT_congr l (i+1) _ _ ?_ (fun j r' hj hr=>by have:=hd (j+1) r' (by simpa using hj) hr;rwa [show i+(j+1)=i+1+j by omega] at this)
   by_cases hr:r.o.dst=some t
   ·have h0:=hd 0 r rfl hr
    rw [Nat.add_zero] at h0
    rw [h0]
    cases D' i with
    | true=>simp [putT,hr]
    | false=>simpa using h
   ·have e:∀(T:Nat→AV),(if D i=true then putT T r.o.dst r.v else T) t=T t∧(if D' i=true then putT T r.o.dst r.v else T) t=T t:=fun T=>by
     have:putT T r.o.dst r.v t=T t:=by
      cases hx:r.o.dst with
      | none=>rfl
      | some d=>simp only [putT];rw [if_neg (fun e=>hr (by rw [hx,e]))]
     constructor <;>split <;>first|exact this|rfl
    rw [(e T).1,(e T').2];exact h
theorem foldB_congr{D D':Nat→Bool}{x:Nat}:∀(l:List Rec) (i:Nat) (B B':Nat→Option AB),B x=B' x→(∀j r,l[j]?=some r→x∈r.up.map (·.1)→D (i+j)=D' (i+j))→foldB D l i B x=foldB D' l i B' x
 | [],_,_,_,h,_=>h
 | r::l,i,B,B',h,hd=>by
   simp only [foldB]
   refine foldB_congr l (i+1) _ _ ?_ (fun j r' hj hr=>by have:=hd (j+1) r' (by simpa using hj) hr;rwa [show i+(j+1)=i+1+j by omega] at this)
   have hmem:∀(up:List (Nat × Option AB)),x∈up.map (·.1)∨getU up x=none:=fun up=>by
    induction up with
    | nil=>exact .inr rfl
    | cons p up ih=>
      obtain ⟨y,b⟩:=p
      simp only [getU]
      split
      ·rename_i e;subst e;exact .inl (by simp)
      ·rcases ih with h|h
       ·exact .inl (by simp at h ⊢;exact .inr h)
       ·exact .inr h
   rcases hmem r.up with hr|hr
   ·have h0:=hd 0 r rfl hr
    rw [Nat.add_zero] at h0
    rw [h0]
    cases D' i with
    | true=>simp [updB,h]
    | false=>simpa using h
   ·have e:∀(B:Nat→Option AB),(if D i=true then updB B r.up else B) x=B x∧(if D' i=true then updB B r.up else B) x=B x:=fun B=>by
     have:updB B r.up x=B x:=updB_none hr
     constructor <;>split <;>first|exact this|rfl
    rw [(e B).1,(e B').2];exact h
theorem testBit_mask{acc:List Nat}{i:Nat}:∀(es:List Edge),(maskOf acc es).testBit i=true→∃e∈es,Region.binds .any e=true∧(e.on=i∨(acc.getD e.on 0).testBit i=true)
 | [],h=>by simp [maskOf] at h
 | e::es,h=>by
   simp only [maskOf] at h
   split at h
   ·rename_i hb
    rw [Nat.testBit_or,Nat.testBit_or,Bool.or_eq_true,Bool.or_eq_true] at h
    rcases h with (h|h)|h
    ·refine ⟨e,by simp,hb,.inl ?_⟩
     rw [Nat.testBit_two_pow] at h
     exact of_decide_eq_true h
    ·exact ⟨e,by simp,hb,.inr h⟩
    ·obtain ⟨e',h1,h2⟩:=testBit_mask es h
     exact ⟨e',by simp [h1],h2⟩
   ·obtain ⟨e',h1,h2⟩:=testBit_mask es h
    exact ⟨e',by simp [h1],h2⟩
theorem masks_closed{D:Nat→Bool}{all:List Oper}(hD:∀(j:Nat) (o:Oper),all[j]?=some o→D j=true→∀e∈o.after,Region.binds .any e=true→D e.on=true):
  ∀(l:List Oper) (acc:List Nat),(∀k o,l[k]?=some o→all[acc.length+k]?=some o)→(∀j,j<acc.length→D j=true→∀i,(acc.getD j 0).testBit i=true→D i=true)→
   ∀j,j<acc.length+l.length→D j=true→∀i,((masks l acc).getD j 0).testBit i=true→D i=true
 | [],acc,_,h,j,hj,hd,i,hi=>h j (by simpa using hj) hd i hi
 | o::l,acc,hl,h,j,hj,hd,i,hi=>by
   simp only [masks] at hi
   refine masks_closed hD l (acc++[maskOf acc o.after.toList]) (fun k o' hk=>?_) (fun j' hj' hd' i' hi'=>?_) j (by simp at hj ⊢;omega) hd i hi
   ·have:=hl (k+1) o' (by simpa using hk)
    simpa [Nat.add_assoc,Nat.add_comm 1 k] using this
   ·rcases Nat.lt_or_ge j' acc.length with h1|h1
    ·rw [List.getD_eq_getElem?_getD,List.getElem?_append_left h1,←List.getD_eq_getElem?_getD] at hi'
     exact h j' h1 hd' i' hi'
    ·have h2:j'=acc.length:=by simp at hj';omega
     subst h2
     rw [List.getD_eq_getElem?_getD,List.getElem?_append_right (Nat.le_refl _)] at hi'
     simp only [Nat.sub_self,List.getElem?_cons_zero,Option.getD_some] at hi'
     obtain ⟨e,h3,h4,h5⟩:=testBit_mask _ hi'
     have h6:=hD acc.length o (by have:=hl 0 o rfl;simpa using this) hd' e (by simpa using h3) h4
     rcases h5 with h5|h5
     ·rw [←h5];exact h6
     ·rcases Nat.lt_or_ge e.on acc.length with h7|h7
      ·exact h e.on h7 h6 i' h5
      ·rw [List.getD_eq_getElem?_getD,List.getElem?_eq_none h7] at h5
       simp at h5
theorem clashAll_get{f:Foot}{m:Nat}:∀{l:List Foot} {i0:Nat},clashAll f m l i0=true→∀i g,l[i]?=some g→g.clash f=true→m.testBit (i0+i)=true
 | [],_,_,i,g,h,_=>by simp at h
 | x::l,i0,h,i,g,hi,hc=>by
   simp only [clashAll,Bool.and_eq_true,Bool.or_eq_true,Bool.not_eq_true'] at h
   cases i with
   | zero=>
     simp at hi
     subst hi
     rcases h.1 with h1|h1
     ·rw [hc] at h1;cases h1
     ·exact h1
   | succ i=>
     have:=clashAll_get h.2 i g (by simpa using hi) hc
     rwa [show i0+1+i=i0+(i+1) by omega] at this
theorem pairsOk_get{ms:List Nat}:∀{l pre:List Foot},pairsOk pre l ms=true→∀j f,l[j]?=some f→∀i g,(pre++l)[i]?=some g→i<pre.length+j→g.clash f=true→(ms.getD (pre.length+j) 0).testBit i=true
 | [],_,_,j,f,hj,_,_,_,_,_=>by simp at hj
 | x::l,pre,h,j,f,hj,i,g,hi,hlt,hc=>by
   simp only [pairsOk,Bool.and_eq_true] at h
   cases j with
   | zero=>
     simp at hj
     subst hj
     have hi':pre[i]?=some g:=by rwa [List.getElem?_append_left (by omega)] at hi
     have:=clashAll_get h.1 i g hi' hc
     simpa using this
   | succ j=>
     have:=pairsOk_get h.2 j f (by simpa using hj) i g (by simpa using hi) (by simp;omega) hc
     simpa [Nat.add_assoc,Nat.add_comm 1 j] using this
theorem depsLt_get:∀{l:List Oper} {i0:Nat},depsLt l i0=true→∀i o,l[i]?=some o→∀e∈o.after,Region.binds .any e=true→e.on<i0+i
 | [],_,_,i,o,h,_,_,_=>by simp at h
 | x::l,i0,h,i,o,hi,e,he,hb=>by
   simp only [depsLt,Bool.and_eq_true] at h
   cases i with
   | zero=>
     simp at hi
     subst hi
     have:=List.all_eq_true.1 h.1 e (by simpa using he)
     rw [hb] at this
     have h9:e.on<i0:=by simpa using this
     exact h9
   | succ i=>
     have:=depsLt_get h.2 i o (by simpa using hi) e he hb
     omega
def runT:List Rec→(Nat→AV)→Nat→AV
 | [],T=>T
 | r::l,T=>runT l (putT T r.o.dst r.v)
def runB:List Rec→(Nat→Option AB)→Nat→Option AB
 | [],B=>B
 | r::l,B=>runB l (updB B r.up)
theorem foldT_lt{D:Nat→Bool}:∀(l:List Rec) (k i:Nat) (T:Nat→AV),(∀j,j<i→D (k+j)=true)→(∀j,i≤j→D (k+j)=false)→foldT D l k T=runT (l.take i) T
 | [],k,i,T,_,_=>by simp [foldT,runT]
 | r::l,k,0,T,h1,h2=>by
   have h0:=h2 0 (Nat.le_refl _)
   rw [Nat.add_zero] at h0
   simp only [foldT,h0,Bool.false_eq_true,if_false]
   rw [foldT_lt l (k+1) 0 T (fun j hj=>by omega) (fun j hj=>by have:=h2 (j+1) (by omega);rwa [show k+(j+1)=k+1+j by omega] at this)]
   simp [runT]
 | r::l,k,i+1,T,h1,h2=>by
   have h0:=h1 0 (by omega)
   rw [Nat.add_zero] at h0
   simp only [foldT,h0,if_true,List.take_succ_cons,runT]
   exact foldT_lt l (k+1) i _ (fun j hj=>by have:=h1 (j+1) (by omega);rwa [show k+(j+1)=k+1+j by omega] at this) (fun j hj=>by have:=h2 (j+1) (by omega);rwa [show k+(j+1)=k+1+j by omega] at this)
theorem foldB_lt{D:Nat→Bool}:∀(l:List Rec) (k i:Nat) (B:Nat→Option AB),(∀j,j<i→D (k+j)=true)→(∀j,i≤j→D (k+j)=false)→foldB D l k B=runB (l.take i) B
 | [],k,i,B,_,_=>by simp [foldB,runB]
 | r::l,k,0,B,h1,h2=>by
   have h0:=h2 0 (Nat.le_refl _)
   rw [Nat.add_zero] at h0
   simp only [foldB,h0,Bool.false_eq_true,if_false]
   rw [foldB_lt l (k+1) 0 B (fun j hj=>by omega) (fun j hj=>by have:=h2 (j+1) (by omega);rwa [show k+(j+1)=k+1+j by omega] at this)]
   simp [runB]
 | r::l,k,i+1,B,h1,h2=>by
   have h0:=h1 0 (by omega)
   rw [Nat.add_zero] at h0
   simp only [foldB,h0,if_true,List.take_succ_cons,runB]
   exact foldB_lt l (k+1) i _ (fun j hj=>by have:=h1 (j+1) (by omega);rwa [show k+(j+1)=k+1+j by omega] at this) (fun j hj=>by have:=h2 (j+1) (by omega);rwa [show k+(j+1)=k+1+j by omega] at this)
theorem runT_succ:∀(l:List Rec) (i:Nat) (r:Rec) (T:Nat→AV),l[i]?=some r→runT (l.take (i+1)) T=putT (runT (l.take i) T) r.o.dst r.v
 | [],i,r,T,h=>by simp at h
 | x::l,0,r,T,h=>by simp at h;subst h;simp [runT]
 | x::l,i+1,r,T,h=>by
   rw [List.take_succ_cons,List.take_succ_cons,runT,runT]
   exact runT_succ l i r _ (by simpa using h)
theorem runB_succ:∀(l:List Rec) (i:Nat) (r:Rec) (B:Nat→Option AB),l[i]?=some r→runB (l.take (i+1)) B=updB (runB (l.take i) B) r.up
 | [],i,r,B,h=>by simp at h
 | x::l,0,r,B,h=>by simp at h;subst h;simp [runB]
 | x::l,i+1,r,B,h=>by
   rw [List.take_succ_cons,List.take_succ_cons,runB,runB]
   exact runB_succ l i r _ (by simpa using h)
structure RecOk (P:Program) (O:FuncId→Option Orc) (N:Nat) (ops:Array Oper) (T:Nat→AV) (B:Nat→Option AB) (r:Rec):Prop where
 dst:dstOk N r.o.dst=true
 grd:guardA ops r.o.guard T=some r.want
 le:r.f≤r.f'
 yes:r.want=true→(aop P O r.o r.f).run T B=some (r.v,r.up,r.f')∧r.foot=⟨guardSlot ops r.o.guard++((aop P O r.o r.f).asks T B).1,((aop P O r.o r.f).asks T B).2,r.up.map (·.1),r.o.dst⟩
 no:r.want=false→r.v=.lit undef∧r.up=[]∧r.foot=⟨guardSlot ops r.o.guard,[],[],r.o.dst⟩
theorem RecOk.fdst{P:Program}{O:FuncId→Option Orc}{N:Nat}{ops:Array Oper}{T:Nat→AV}{B:Nat→Option AB}{r:Rec}(h:RecOk P O N ops T B r):r.foot.dst=r.o.dst∧r.foot.wb=r.up.map (·.1)∧∀t∈guardSlot ops r.o.guard,t∈r.foot.rs:=by
 cases hw:r.want with
 | true=>rw [(h.yes hw).2];exact ⟨rfl,rfl,fun t ht=>by simp [ht]⟩
 | false=>rw [(h.no hw).2.2,(h.no hw).2.1];exact ⟨rfl,rfl,fun t ht=>ht⟩
theorem recs_of{P:Program}{O:FuncId→Option Orc}{N:Nat}{ops:Array Oper}:∀(l:List Oper) (s s':St) (fs:List Foot),opsF P O N ops l s=some (s',fs)→
  ∃recs:List Rec,recs.map (·.foot)=fs∧recs.map (·.o)=l∧s'.t=runT recs s.t∧s'.b=runB recs s.b∧s.nx≤s'.nx∧
   (∀(i:Nat) (r:Rec),recs[i]?=some r→RecOk P O N ops (runT (recs.take i) s.t) (runB (recs.take i) s.b) r∧s.nx≤r.f∧r.f'≤s'.nx)∧
   ∀(i j:Nat) (r q:Rec),recs[i]?=some r→recs[j]?=some q→i<j→r.f'≤q.f
 | [],s,s',fs,h=>by
   simp only [opsF,Option.some.injEq,Prod.mk.injEq] at h
   obtain ⟨rfl,rfl⟩:=h
   exact ⟨[],rfl,rfl,rfl,rfl,Nat.le_refl _,fun i r h=>by simp at h,fun i j r q h=>by simp at h⟩
 | o::l,s,s',fs,h=>by
   simp only [opsF] at h
   split at h
   ·rename_i s1 h1
    split at h
    ·rename_i s2 fs' h2
     simp only [Option.some.injEq,Prod.mk.injEq] at h
     obtain ⟨rfl,rfl⟩:=h
     obtain ⟨recs,g1,g2,g3,g4,g5,g6,g7⟩:=recs_of l s1 s2 fs' h2
     obtain ⟨r,k1,k2,k3,k4,k5⟩:∃r:Rec,r.o=o∧r.f=s.nx∧r.f'=s1.nx∧(s1.t=putT s.t o.dst r.v∧s1.b=updB s.b r.up∧r.foot=footS P O ops o s)∧RecOk P O N ops s.t s.b r:=by
      unfold opS at h1
      split at h1
      ·rename_i hd
       split at h1
       ·rename_i hg
        split at h1
        ·rename_i v up nx hr
         split at h1
         ·rename_i hn
          cases h1
          refine ⟨⟨o,true,v,up,s.nx,nx,footS P O ops o s⟩,rfl,rfl,rfl,⟨t_put _ _ _ _ _,b_append _ _ _ _,rfl⟩,⟨hd,hg,Nat.le_of_ble_eq_true hn,fun _=>⟨hr,?_⟩,fun h=>by cases h⟩⟩
          simp only [footS,hg,hr]
         ·cases h1
        ·cases h1
       ·rename_i hg
        cases h1
        refine ⟨⟨o,false,.lit undef,[],s.nx,s.nx,footS P O ops o s⟩,rfl,rfl,rfl,⟨t_put _ _ _ _ _,by rw [updB_nil];rfl,rfl⟩,⟨hd,hg,Nat.le_refl _,fun h=>(by cases h),fun _=>⟨rfl,rfl,?_⟩⟩⟩
        simp only [footS,hg]
       ·cases h1
      ·cases h1
     refine ⟨r::recs,by simp [g1,k4.2.2],by simp [g2,k1],?_,?_,?_,fun i q hi=>?_,fun i j q q' hi hj hij=>?_⟩
     ·rw [runT,k1,←k4.1];exact g3
     ·rw [runB,←k4.2.1];exact g4
     ·have:=k5.le;omega
     ·cases i with
      | zero=>
        simp at hi
        subst hi
        exact ⟨k5,by omega,by omega⟩
      | succ i=>
        obtain ⟨q1,q2,q3⟩:=g6 i q (by simpa using hi)
        rw [List.take_succ_cons,runT,runB,k1,←k4.1,←k4.2.1]
        have:=k5.le
        exact ⟨q1,by omega,q3⟩
     ·cases j with
      | zero=>omega
      | succ j=>
        have hj':recs[j]?=some q':=by simpa using hj
        cases i with
        | zero=>
          simp at hi
          subst hi
          obtain ⟨_,q2,_⟩:=g6 j q' hj'
          omega
        | succ i=>exact g7 i j q q' (by simpa using hi) hj' (by omega)
    ·cases h
   ·cases h
theorem countP_lt_of{l:List Nat}{p q:Nat→Bool}{x:Nat}(hx:x∈l)(hp:p x=true)(hq:q x=false)(h:∀y∈l,q y=true→p y=true):l.countP q<l.countP p:=by
 induction l with
 | nil=>cases hx
 | cons y l ih=>
   have hle:l.countP q≤l.countP p:=List.countP_mono_left fun z hz=>h z (by simp [hz])
   rw [List.countP_cons,List.countP_cons]
   rcases List.mem_cons.1 hx with rfl|hm
   ·rw [hp,hq];simp;omega
   ·have:=ih hm fun z hz=>h z (by simp [hz])
    have h1:(if q y=true then 1 else 0)≤(if p y=true then 1 else 0):=by
     by_cases hqy:q y=true
     ·rw [if_pos hqy,if_pos (h y (by simp) hqy)];exact Nat.le_refl _
     ·rw [if_neg hqy];exact Nat.zero_le _
    omega
theorem optIn_mem{d:Option Nat}{t:Nat}{l:List Nat}(h:d=some t)(hm:t∈l):optIn d l=true:=by subst h;simpa [optIn] using hm
theorem meet_mem{a b:List Nat}{x:Nat}(h1:x∈a)(h2:x∈b):meet a b=true:=List.any_eq_true.2 ⟨x,h1,by simpa using h2⟩
theorem guardA_congr{ops:Array Oper}{g:Option (Nat × Bool)}{T T':Nat→AV}(h:∀t∈guardSlot ops g,T' t=T t):guardA ops g T'=guardA ops g T:=by
 unfold guardA guardSlot at*
 cases g with
 | none=>rfl
 | some p=>
   obtain ⟨j,want⟩:=p
   dsimp only at*
   cases hx:(ops[j]?).bind (·.dst) with
   | none=>rfl
   | some t=>
     rw [hx] at h
     dsimp only
     rw [h t (by simp)]
section
variable {P : Program} {E : Nat → Nat → Prop} {m N : Nat} {O : FuncId → Option Orc} {ops : Array Oper}
theorem draw_sound(hO:OrcOk P O)(hm:P.follows .mixedOrders=true){s s':St}(hs:drawS P O N ops s=some s'){id:Nat}{B0:Nat→Option AB}{L0:Nat→Option Value}{w0:World}{a:Act}{w:World}(hf:Fits E m N B0 L0 w0 s a w){Q:Exit→Act→World→Prop}(hQ:∀a' w',Fits E m N B0 L0 w0 s' a' w'→Q .normal a' w'):(Code.region id ops true).wp P Q a w:=by
 unfold drawS at hs
 split at hs
 ·rename_i s1 fs hopsF
  split at hs
  ·rename_i hchk
   cases hs
   obtain ⟨hdeps,hpairs⟩:=hchk
   obtain ⟨recs,r1,r2,r3,r4,r5,r6,r7⟩:=recs_of ops.toList s s' fs hopsF
   have hlen:recs.length=ops.size:=by have:=congrArg List.length r2;simpa using this
   have hro:∀(i:Nat) (r:Rec),recs[i]?=some r→ops[i]?=some r.o:=fun i r hi=>by
    have:ops.toList[i]?=some r.o:=by rw [←r2,List.getElem?_map,hi];rfl
    simpa using this
   have hfoot:∀(i:Nat) (r:Rec),recs[i]?=some r→fs[i]?=some r.foot:=fun i r hi=>by rw [←r1,List.getElem?_map,hi];rfl
   -- what holds when the operations in D have run
   let Inv:(Nat→Bool)→Act→World→Prop:=fun D a w=>∃L,SRel E N (foldT D recs 0 s.t) (foldB D recs 0 s.b) L a w∧
    (∀x,s.nx≤x→(∀(i:Nat) (r:Rec),recs[i]?=some r→D i=true→¬(r.f≤x∧x<r.f'))→L x=none)∧Run B0 L0 (foldB D recs 0 s.b) L w0 w∧Low m L0 L w0 a
   have step:∀(D:Nat→Bool) (i:Nat) (r:Rec),recs[i]?=some r→D i=false→(∀(j:Nat) (o:Oper),ops[j]?=some o→D j=true→∀e∈o.after,Region.binds .any e=true→D e.on=true)→
     (∀e∈r.o.after,Region.binds .any e=true→D e.on=true)→∀a w,Inv D a w→∀(K:Act→World→Prop),(∀a' w',Inv (fun j=>if j=i then true else D j) a' w'→K a' w')→
      if Region.wanted r.o (yielded ops a.tmps)=true then r.o.wp P a w K Q else K (a.put r.o.dst undef) w:=by
    intro D i r hi hDi hD hpre a w ⟨L,h1,h2,h3,hlk⟩ K hK
    obtain ⟨hok,hf1,hf2⟩:=r6 i r hi
    obtain ⟨fd,fw,fg⟩:=hok.fdst
    -- D with i is closed
    have hDc:∀(j:Nat) (o:Oper),ops.toList[j]?=some o→(fun j=>if j=i then true else D j) j=true→∀e∈o.after,Region.binds .any e=true→(fun j=>if j=i then true else D j) e.on=true:=fun j o hj hdj e he hb=>by
     have hj':ops[j]?=some o:=by simpa using hj
     dsimp only at hdj ⊢
     by_cases hji:j=i
     ·subst hji
      have:=hro j r hi
      rw [hj'] at this
      cases this
      have:=hpre e he hb
      split <;>first|rfl|exact this
     ·rw [if_neg hji] at hdj
      have:=hD j o hj' hdj e he hb
      split <;>first|rfl|exact this
    have hmask:∀(j:Nat) (q:Rec),recs[j]?=some q→(fun j=>if j=i then true else D j) j=true→∀k,((masks ops.toList []).getD j 0).testBit k=true→(fun j=>if j=i then true else D j) k=true:=fun j q hj hdj k hk=>
     masks_closed hDc ops.toList [] (fun k o h=>by simpa using h) (fun j hj=>by simp at hj) j (by have:=(List.getElem?_eq_some_iff.1 hj).1;simp;omega) hdj k hk
    -- those that clash with i:the earlier ones are there,the later ones are not
    have early:∀(j:Nat) (q:Rec),recs[j]?=some q→j<i→q.foot.clash r.foot=true→D j=true:=fun j q hj hlt hc=>by
     have:=pairsOk_get hpairs i _ (hfoot i r hi) j _ (by simpa using hfoot j q hj) (by simpa using hlt) hc
     have:=hmask i r hi (by simp) j (by simpa using this)
     dsimp only at this
     rwa [if_neg (by omega)] at this
    have late:∀(j:Nat) (q:Rec),recs[j]?=some q→i<j→r.foot.clash q.foot=true→D j=false:=fun j q hj hlt hc=>by
     have hb:=pairsOk_get hpairs j _ (hfoot j q hj) i _ (by simpa using hfoot i r hi) (by simpa using hlt) hc
     cases hdj:D j with
     | false=>rfl
     | true=>
       have:=masks_closed (D:=D) (all:=ops.toList) (fun j o h=>hD j o (by simpa using h)) ops.toList [] (fun k o h=>by simpa using h) (fun j hj=>by simp at hj) j (by have:=(List.getElem?_eq_some_iff.1 hj).1;simp;omega) hdj i (by simpa using hb)
       rw [hDi] at this;cases this
    have tri:∀(j:Nat) (q:Rec),recs[j]?=some q→(j<i→q.foot.clash r.foot=true)→(i<j→r.foot.clash q.foot=true)→D (0+j)=(fun j=>decide (j<i)) (0+j):=fun j q hj hc1 hc2=>by
     rw [Nat.zero_add]
     dsimp only
     rcases Nat.lt_trichotomy j i with h|h|h
     ·rw [early j q hj h (hc1 h)];simp [h]
     ·subst h;rw [hDi];simp
     ·rw [late j q hj h (hc2 h)];simp;omega
    have tri':∀(j:Nat) (q:Rec),recs[j]?=some q→(j<i→q.foot.clash r.foot=true)→(i<j→r.foot.clash q.foot=true)→(fun j=>if j=i then true else D j) (0+j)=(fun j=>decide (j<i+1)) (0+j):=fun j q hj hc1 hc2=>by
     rw [Nat.zero_add]
     dsimp only
     rcases Nat.lt_trichotomy j i with h|h|h
     ·rw [if_neg (by omega),early j q hj h (hc1 h)];simp;omega
     ·subst h;simp
     ·rw [if_neg (by omega),late j q hj h (hc2 h)];simp;omega
    have qf:∀(j:Nat) (q:Rec),recs[j]?=some q→q.foot.dst=q.o.dst∧q.foot.wb=q.up.map (·.1):=fun j q hj=>⟨(r6 j q hj).1.fdst.1,(r6 j q hj).1.fdst.2.1⟩
    have agT:∀t∈r.foot.rs,foldT D recs 0 s.t t=runT (recs.take i) s.t t:=fun t ht=>by
     rw [←foldT_lt (D:=fun j=>decide (j<i)) recs 0 i s.t (fun j hj=>by simpa using hj) (fun j hj=>by simp;omega)]
     refine foldT_congr recs 0 _ _ rfl fun j q hj hd=>tri j q hj (fun _=>?_) fun _=>?_
     ·simp only [Foot.clash,optIn_mem ((qf j q hj).1.trans hd) ht,Bool.true_or]
     ·simp only [Foot.clash,optIn_mem ((qf j q hj).1.trans hd) ht,Bool.true_or,Bool.or_true]
    have agB:∀x∈r.foot.rb,foldB D recs 0 s.b x=runB (recs.take i) s.b x:=fun x hx=>by
     rw [←foldB_lt (D:=fun j=>decide (j<i)) recs 0 i s.b (fun j hj=>by simpa using hj) (fun j hj=>by simp;omega)]
     refine foldB_congr recs 0 _ _ rfl fun j q hj hd=>tri j q hj (fun _=>?_) fun _=>?_
     ·have e3:meet q.foot.wb r.foot.rb=true:=meet_mem (by rw [(qf j q hj).2];exact hd) hx
      simp only [Foot.clash,e3,Bool.true_or,Bool.or_true]
     ·have e3:meet q.foot.wb r.foot.rb=true:=meet_mem (by rw [(qf j q hj).2];exact hd) hx
      simp only [Foot.clash,e3,Bool.or_true]
    have hT:putT (foldT D recs 0 s.t) r.o.dst r.v=foldT (fun j=>if j=i then true else D j) recs 0 s.t:=by
     funext t
     by_cases hd:r.o.dst=some t
     ·have e1:putT (foldT D recs 0 s.t) r.o.dst r.v t=r.v:=by rw [hd];simp [putT]
      rw [e1]
      have e2:foldT (fun j=>if j=i then true else D j) recs 0 s.t t=runT (recs.take (i+1)) s.t t:=by
       rw [←foldT_lt (D:=fun j=>decide (j<i+1)) recs 0 (i+1) s.t (fun j hj=>by simpa using hj) (fun j hj=>by simp;omega)]
       refine foldT_congr recs 0 _ _ rfl fun j q hj hq=>tri' j q hj (fun _=>?_) fun _=>?_
       ·have e3:optIn q.foot.dst r.foot.dst.toList=true:=optIn_mem ((qf j q hj).1.trans hq) (by rw [fd,hd];simp)
        simp only [Foot.clash,e3,Bool.true_or,Bool.or_true]
       ·have e3:optIn r.foot.dst q.foot.dst.toList=true:=optIn_mem (fd.trans hd) (by rw [(qf j q hj).1,hq];simp)
        simp only [Foot.clash,e3,Bool.true_or,Bool.or_true]
      rw [e2,runT_succ recs i r s.t hi,hd]
      simp [putT]
     ·have e1:putT (foldT D recs 0 s.t) r.o.dst r.v t=foldT D recs 0 s.t t:=by
       cases hx:r.o.dst with
       | none=>rfl
       | some d=>simp only [putT];rw [if_neg (fun e=>hd (by rw [hx,e]))]
      rw [e1]
      refine foldT_congr recs 0 _ _ rfl fun j q hj hq=>?_
      rw [Nat.zero_add]
      by_cases hji:j=i
      ·subst hji
       rw [hi] at hj;cases hj
       exact absurd hq hd
      ·simp [hji]
    have hB:updB (foldB D recs 0 s.b) r.up=foldB (fun j=>if j=i then true else D j) recs 0 s.b:=by
     funext x
     by_cases hd:x∈r.up.map (·.1)
     ·have e2:foldB (fun j=>if j=i then true else D j) recs 0 s.b x=runB (recs.take (i+1)) s.b x:=by
       rw [←foldB_lt (D:=fun j=>decide (j<i+1)) recs 0 (i+1) s.b (fun j hj=>by simpa using hj) (fun j hj=>by simp;omega)]
       refine foldB_congr recs 0 _ _ rfl fun j q hj hq=>tri' j q hj (fun _=>?_) fun _=>?_
       ·have e3:meet q.foot.wb r.foot.wb=true:=meet_mem (by rw [(qf j q hj).2];exact hq) (by rw [fw];exact hd)
        simp only [Foot.clash,e3,Bool.true_or,Bool.or_true]
       ·have e3:meet r.foot.wb q.foot.wb=true:=meet_mem (by rw [fw];exact hd) (by rw [(qf j q hj).2];exact hq)
        simp only [Foot.clash,e3,Bool.true_or,Bool.or_true]
      rw [e2,runB_succ recs i r s.b hi]
      have:∃b,getU r.up x=some b:=by
       generalize r.up=up at hd
       induction up with
       | nil=>simp at hd
       | cons p up ih=>
         obtain ⟨y,b⟩:=p
         simp only [getU]
         split
         ·exact ⟨b,rfl⟩
         ·rename_i hne
          exact ih (by simp at hd ⊢;rcases hd with h|h;exact absurd h hne;exact h)
      obtain ⟨b,hb⟩:=this
      rw [updB_some hb,updB_some hb]
     ·have hn:getU r.up x=none:=by
       generalize r.up=up at hd
       induction up with
       | nil=>rfl
       | cons p up ih=>
         obtain ⟨y,b⟩:=p
         simp only [getU]
         rw [if_neg (fun e=>hd (by simp [e]))]
         exact ih (fun h=>hd (by simp at h ⊢;exact .inr h))
      rw [updB_none hn]
      refine foldB_congr recs 0 _ _ rfl fun j q hj hq=>?_
      rw [Nat.zero_add]
      by_cases hji:j=i
      ·subst hji
       rw [hi] at hj;cases hj
       exact absurd hq hd
      ·simp [hji]
    have hg:guardA ops r.o.guard (foldT D recs 0 s.t)=some r.want:=by
     rw [guardA_congr (T:=runT (recs.take i) s.t) (fun t ht=>agT t (fg t ht))]
     exact hok.grd
    have hwant:=guardA_sound h1 hg
    cases hw:r.want with
    | false=>
      rw [hw] at hwant
      rw [if_neg (by rw [hwant];simp)]
      obtain ⟨n1,n2,n3⟩:=hok.no hw
      refine hK _ _ ⟨L,?_,fun x hx hn=>h2 x hx fun k q hk hdk=>hn k q hk (by dsimp only;split <;>first|rfl|exact hdk),?_,hlk.put (fun _ _ h=>h) _ _⟩
      ·rw [←hT,←hB,n1,n2,updB_nil]
       exact putSlot h1 (dstOk_lt hok.dst) _
      ·rw [←hB,n2,updB_nil]
       exact h3
    | true=>
      rw [hw] at hwant
      rw [if_pos hwant]
      obtain ⟨y1,y2⟩:=hok.yes hw
      have hrun:(aop P O r.o r.f).run (foldT D recs 0 s.t) (foldB D recs 0 s.b)=some (r.v,r.up,r.f'):=by
       rw [Tr.run_congr (T:=runT (recs.take i) s.t) (B:=runB (recs.take i) s.b) _ (fun t ht=>agT t (by rw [y2];simp [ht])) (fun x hx=>agB x (by rw [y2];exact hx))]
       exact y1
      have hfree:∀x,r.f≤x→x<r.f'→L x=none:=fun x hx1 hx2=>h2 x (by omega) fun k q hk hdk hc=>by
       rcases Nat.lt_trichotomy k i with h|h|h
       ·have:=r7 k i q r hk hi h;omega
       ·subst h;rw [hDi] at hdk;cases hdk
       ·have:=r7 i k r q hi hk h;omega
      refine aop_sound hO h1 hrun hfree fun v' w' L' hA hv hnew=>hK _ _ ⟨L',?_,fun x hx hn=>?_,?_,hlk.put hA.lk _ _⟩
      ·rw [←hT,←hB]
       exact h1.aft hA hv (dstOk_lt hok.dst)
      ·cases hl:L' x with
       | none=>rfl
       | some u=>
         have h9:L x=none:=h2 x hx fun k q hk hdk=>hn k q hk (by dsimp only;split <;>first|rfl|exact hdk)
         have:=hnew x h9 (by rw [hl];simp)
         exact absurd this (hn i r hi (by simp))
      ·rw [←hB]
       exact h3.trans hA.run
   -- the last
   have done:∀(D:Nat→Bool) a w,(∀i,i<recs.length→D i=true)→Inv D a w→Q .normal a w:=fun D a w hD ⟨L,h1,h2,h3,hlk⟩=>by
    have eT:foldT D recs 0 s.t=s'.t:=by
     rw [r3]
     funext t
     have:=foldT_lt (D:=fun j=>decide (j<recs.length)) recs 0 recs.length s.t (fun j hj=>by simpa using hj) (fun j hj=>by simp;omega)
     rw [List.take_length] at this
     rw [←this]
     exact foldT_congr recs 0 _ _ rfl fun j q hj _=>by have hlt:=(List.getElem?_eq_some_iff.1 hj).1;rw [Nat.zero_add,hD j hlt];simp [hlt]
    have eB:foldB D recs 0 s.b=s'.b:=by
     rw [r4]
     funext t
     have:=foldB_lt (D:=fun j=>decide (j<recs.length)) recs 0 recs.length s.b (fun j hj=>by simpa using hj) (fun j hj=>by simp;omega)
     rw [List.take_length] at this
     rw [←this]
     exact foldB_congr recs 0 _ _ rfl fun j q hj _=>by have hlt:=(List.getElem?_eq_some_iff.1 hj).1;rw [Nat.zero_add,hD j hlt];simp [hlt]
    rw [eT,eB] at h1
    rw [eB] at h3
    refine hQ a w ⟨L,h1,fun x hx=>h2 x (by omega) fun i r hi _ hc=>?_,h3,hlk⟩
    have:=(r6 i r hi).2.2
    omega
   -- any order
   have main:∀(fuel:Nat) (listed:Array Bool) (a:Act) (w:World),listed.size=ops.size→(∀(j:Nat) (o:Oper),ops[j]?=some o→listed.getD j false=true→∀e∈o.after,Region.binds .any e=true→listed.getD e.on false=true)→
     (∃n,n≤fuel∧(List.range ops.size).countP (fun i=>!listed.getD i false)=n)→Inv (fun i=>listed.getD i false) a w→wpAny P .any ops Q fuel listed a w:=by
    have allD:∀(listed:Array Bool),listed.size=ops.size→Region.ready .any ops listed=[]→∀i,i<recs.length→listed.getD i false=true:=fun listed hl hr=>by
     intro i
     induction i using Nat.strongRecOn with
     | _ i ih=>
       intro hi
       cases hx:listed.getD i false with
       | true=>rfl
       | false=>
         have hio:i<ops.size:=by omega
         have hlt:i<listed.size:=by omega
         have hmem:i∈Region.ready .any ops listed:=by
          refine mem_ready.2 ⟨?_,ops[i],Array.getElem?_eq_getElem hio,fun e he hb=>?_⟩
          ·rw [Array.getD_eq_getD_getElem?,Array.getElem?_eq_getElem hlt] at hx ⊢
           exact hx
          ·have h9:ops.toList[i]?=some ops[i]:=by simp [hio]
           have:=depsLt_get hdeps i _ h9 e he hb
           exact ih e.on (by omega) (by omega)
         rw [hr] at hmem
         cases hmem
    intro fuel
    induction fuel with
    | zero=>
      intro listed a w hl hcl ⟨n,hn,hcount⟩ hI
      have hn0:n=0:=by omega
      subst hn0
      have hall:∀i,i<ops.size→listed.getD i false=true:=fun i hi=>by
       have:=List.countP_eq_zero.1 hcount i (by simpa using hi)
       simpa using this
      refine ⟨?_,done _ a w (fun i hi=>hall i (by omega)) hI⟩
      apply List.eq_nil_iff_forall_not_mem.2
      intro i hi
      obtain ⟨h1,o,h2,_⟩:=mem_ready.1 hi
      have hlt:=(Array.getElem?_eq_some_iff.1 h2).1
      have h3:=hall i hlt
      have h5:i<listed.size:=by omega
      rw [Array.getD_eq_getD_getElem?,Array.getElem?_eq_getElem h5] at h1 h3
      simp at h1 h3
      rw [h1] at h3;cases h3
    | succ fuel ih=>
      intro listed a w hl hcl ⟨n,hn,hcount⟩ hI
      refine ⟨fun hr=>done _ a w (allD listed hl hr) hI,fun i hi=>?_⟩
      obtain ⟨h1,o,h2,hall⟩:=mem_ready.1 hi
      have hlt:=(Array.getElem?_eq_some_iff.1 h2).1
      have h5:i<listed.size:=by omega
      have hDi:listed.getD i false=false:=by
       rw [Array.getD_eq_getD_getElem?,Array.getElem?_eq_getElem h5] at h1 ⊢
       exact h1
      have hri:recs[i]?=some (recs[i]'(by omega)):=List.getElem?_eq_getElem _
      have hoo:=hro i _ hri
      rw [h2] at hoo
      have hoo':o=(recs[i]'(by omega)).o:=by cases hoo;rfl
      have hset:∀j,(listed.setIfInBounds i true).getD j false=if j=i then true else listed.getD j false:=fun j=>by
       by_cases hji:j=i
       ·subst hji
        rw [if_pos rfl,Array.getD_eq_getD_getElem?,Array.getElem?_setIfInBounds_self_of_lt h5];rfl
       ·rw [if_neg hji,Array.getD_eq_getD_getElem?,Array.getElem?_setIfInBounds_ne (Ne.symm hji),←Array.getD_eq_getD_getElem?]
      have hstep:=step (fun i=>listed.getD i false) i _ hri hDi hcl (by rw [←hoo'];exact hall) a w hI (wpAny P .any ops Q fuel (listed.setIfInBounds i true)) fun a' w' hI'=>ih _ a' w' (by simpa using hl) (fun j o' hj hdj e he hb=>by
        rw [hset] at hdj ⊢
        by_cases hji:j=i
        ·subst hji
         rw [h2] at hj;cases hj
         have:=hall e he hb
         split <;>first|rfl|exact this
        ·rw [if_neg hji] at hdj
         have:=hcl j o' hj hdj e he hb
         split <;>first|rfl|exact this) ⟨(List.range ops.size).countP (fun i_1=>!(listed.setIfInBounds i true).getD i_1 false),by
          have hlt2:(List.range ops.size).countP (fun i_1=>!(listed.setIfInBounds i true).getD i_1 false)<(List.range ops.size).countP (fun i=>!listed.getD i false):=by
           refine countP_lt_of (x:=i) (by simpa using hlt) (by simp [hDi]) (by rw [hset];simp) fun y _ hy=>?_
           rw [hset] at hy
           split at hy
           ·simp at hy
           ·exact hy
          omega,rfl⟩ (by
           have e:(fun i_1=>(listed.setIfInBounds i true).getD i_1 false)=fun j=>if j=i then true else listed.getD j false:=funext hset
           rw [e];exact hI')
      unfold wpOp
      rw [h2]
      dsimp only
      rw [hoo']
      split
      ·rename_i hw
       rw [if_pos hw] at hstep
       exact .inl hstep
      ·rename_i hw
       rw [if_neg hw] at hstep
       exact hstep
   refine wp_region_any hm (main ops.size _ a _ (by simp) (fun j o hj hd=>?_) ⟨_,Nat.le_trans List.countP_le_length (by simp),rfl⟩ ?_)
   ·rw [Array.getD_eq_getD_getElem?,Array.getElem?_replicate] at hd
    split at hd <;>simp at hd
   ·obtain ⟨L,h1,h2,h3,hlk⟩:=hf
    have e:(fun i=>(Array.replicate ops.size false).getD i false)=fun _=>false:=by
     funext i
     rw [Array.getD_eq_getD_getElem?,Array.getElem?_replicate]
     split <;>rfl
    rw [e]
    have eT:foldT (fun _=>false) recs 0 s.t=s.t:=by
     have:=foldT_lt (D:=fun _=>false) recs 0 0 s.t (fun j hj=>by omega) (fun _ _=>rfl)
     rw [this];simp [runT]
    have eB:foldB (fun _=>false) recs 0 s.b=s.b:=by
     have:=foldB_lt (D:=fun _=>false) recs 0 0 s.b (fun j hj=>by omega) (fun _ _=>rfl)
     rw [this];simp [runB]
    refine ⟨L,?_,fun x hx _=>h2 x hx,?_,hlk⟩
    ·rw [eT,eB]
     have hA:Aft E s.b L s.b L w w.drew:=by
      have:=(Step.still (E:=E) (B:=s.b) (L:=L) (Mod.drew (fun _ _=>False) w)).aft h1.bs
      rwa [updB_nil] at this
     exact ⟨fun t=>hA.rep (h1.slots t),hA.bs,h1.size,⟨h1.defers.mark,h1.defers.nodup⟩⟩
    ·rw [eB]
     exact h3.trans ⟨Mod.drew _ _,fun id blk v g k1 k2 k3 _=>⟨id,blk,v,k1,k2,k3,fun _ h=>h⟩⟩
  ·cases hs
 ·cases hs
end
def isBook:Obj→Bool
 | .loop _=>true
 | .deferred _=>true
 | _=>false
def isLoop:Obj→Bool
 | .loop _=>true
 | _=>false
theorem not_loop{o:Obj}(h:isBook o=false):isLoop o=false:=by cases o <;>first|rfl|cases h
structure Turn (K:Obj→Bool) (B:Nat) (W W':World):Prop where
 os:W'.os=W.os
 tape:W'.tape=W.tape
 output:W'.output=W.output
 size:W.heap.size≤W'.heap.size
 same:∀(g:Nat) (o:Obj),W.heap[g]?=some o→(g<B∨K o=false)→W'.heap[g]?=some o
 book:∀(g:Nat) (o o':Obj),W.heap[g]?=some o→W'.heap[g]?=some o'→o'=o∨(isBook o=true∧isBook o'=true)
theorem Turn.of_below{K:Obj→Bool}{B:Nat}{W W':World}(h:Below W.heap.size W W'):Turn K B W W':=
 ⟨h.os,h.tape,h.output,h.size,fun g o hg _=>(h.block g (Array.getElem?_eq_some_iff.1 hg).1).trans hg,fun g o o' hg hg'=>by
  rw [h.block g (Array.getElem?_eq_some_iff.1 hg).1,hg] at hg';cases hg';exact .inl rfl⟩
theorem Turn.alloc(K:Obj→Bool)(B:Nat)(W:World)(o:Obj):Turn K B W (W.alloc o):=Turn.of_below ((Below.refl _ _).alloc (Nat.le_refl _) o)
theorem Turn.put{K:Obj→Bool}{B:Nat}{W:World}{r:Nat}{o o':Obj}(h:W.heap[r]?=some o)(hB:B≤r)(hK:K o=true)(ho:isBook o=true)(ho':isBook o'=true):Turn K B W (W.putObj r o'):=by
 have hlt:=(Array.getElem?_eq_some_iff.1 h).1
 refine ⟨rfl,rfl,rfl,by rw [World.putObj_size];exact Nat.le_refl _,fun g x hg hx=>?_,fun g x x' hg hg'=>?_⟩
 ·by_cases e:g=r
  ·subst e
   rw [h] at hg;cases hg
   rcases hx with hx|hx
   ·omega
   ·rw [hK] at hx;cases hx
  ·rw [World.putObj_heap_other e];exact hg
 ·by_cases e:g=r
  ·subst e
   rw [h] at hg;cases hg
   rw [World.putObj_heap_same hlt] at hg';cases hg'
   exact .inr ⟨ho,ho'⟩
  ·rw [World.putObj_heap_other e,hg] at hg';cases hg';exact .inl rfl
theorem cell_obj{W:World}{g o:Nat}{v:Value}(h:W.cell? ⟨g,o,none⟩=some v):∃x,W.heap[g]?=some x∧isBook x=false:=by
 unfold World.cell? at h
 cases hx:W.heap[g]? with
 | none=>simp [hx] at h
 | some x=>exact ⟨x,rfl,by cases x <;>first|rfl|simp_all⟩
theorem Turn.cell{K:Obj→Bool}(hK:∀o,isBook o=false→K o=false){B:Nat}{W W':World}(h:Turn K B W W'){g o:Nat}{v:Value}(hv:W.cell? ⟨g,o,none⟩=some v):W'.cell? ⟨g,o,none⟩=some v:=by
 obtain ⟨x,hx,hb⟩:=cell_obj hv
 rw [World.cell?_of_block ((h.same g x hx (.inr (hK _ hb))).trans hx.symm)];exact hv
theorem Turn.back{K:Obj→Bool}{B:Nat}{W W':World}(h:Turn K B W W'){g o:Nat}{v:Value}(hg:g<W.heap.size)(hv:W'.cell? ⟨g,o,none⟩=some v):W.cell? ⟨g,o,none⟩=some v:=by
 obtain ⟨x,hx,hb⟩:=cell_obj hv
 obtain ⟨y,hy⟩:∃y,W.heap[g]?=some y:=⟨_,Array.getElem?_eq_getElem hg⟩
 rcases h.book g y x hy hx with e|⟨_,e⟩
 ·subst e
  rw [←World.cell?_of_block (hx.trans hy.symm)];exact hv
 ·rw [hb] at e;cases e
theorem Turn.shape{K:Obj→Bool}{B:Nat}{W W':World}(h:Turn K B W W'){g:Nat}(hg:g<W.heap.size):W'.shape? g=W.shape? g:=by
 obtain ⟨y,hy⟩:∃y,W.heap[g]?=some y:=⟨_,Array.getElem?_eq_getElem hg⟩
 obtain ⟨x,hx⟩:∃x,W'.heap[g]?=some x:=⟨_,Array.getElem?_eq_getElem (Nat.lt_of_lt_of_le hg h.size)⟩
 unfold World.shape?
 rw [hy,hx]
 rcases h.book g y x hy hx with e|⟨e1,e2⟩
 ·rw [e]
 ·cases y <;>cases x <;>first|rfl|(simp [isBook] at e1;done)|(simp [isBook] at e2;done)
theorem Turn.trans{K:Obj→Bool}{B:Nat}{X Y Z:World}(h:Turn K B X Y)(k:Turn K B Y Z):Turn K B X Z:=
 ⟨k.os.trans h.os,k.tape.trans h.tape,k.output.trans h.output,Nat.le_trans h.size k.size,fun g o hg hx=>k.same g o (h.same g o hg hx) hx,fun g o o' hg hg'=>by
  obtain ⟨x,hx⟩:∃x,Y.heap[g]?=some x:=⟨_,Array.getElem?_eq_getElem (Nat.lt_of_lt_of_le (Array.getElem?_eq_some_iff.1 hg).1 h.size)⟩
  rcases h.book g o x hg hx with e|⟨e1,e2⟩
  ·subst e;exact k.book g _ _ hx hg'
  ·rcases k.book g x o' hx hg' with e|⟨_,e3⟩
   ·subst e;exact .inr ⟨e1,e2⟩
   ·exact .inr ⟨e1,e3⟩⟩
theorem Turn.refl(K:Obj→Bool)(B:Nat)(W:World):Turn K B W W:=⟨rfl,rfl,rfl,Nat.le_refl _,fun _ _ h _=>h,fun g o o' h h'=>.inl (Option.some.inj (h'.symm.trans h))⟩
section
variable {K : Obj → Bool} {P : Program} {E : Nat → Nat → Prop} {w w' W W' : World} {N D : Nat} {T : Nat → AV} {B B' : Nat → Option AB} {L L' : Nat → Option Value} {a : Act}
theorem BRel.not_book{ok:Nat→Nat→Prop}{id:Nat}{blk:AB}(h:BRel w ok L id blk){v:Value}{g:Nat}(hv:L id=some v)(hg:gOf v=some g){x:Obj}(hx:w.heap[g]?=some x):isBook x=false:=by
 rcases h.kind hv hg with ⟨cs,t,p,e⟩|⟨es,c,e⟩ <;>(rw [hx] at e;cases e;rfl)
theorem BsRel.turn(hK:∀o,isBook o=false→K o=false)(h:BsRel E B L W)(ht:Turn K D W W'):BsRel E B L W':=by
 refine ⟨fun id blk hb=>?_,h.ext,fun g o hg=>h.fresh g o (Nat.le_trans ht.size hg),fun b o z hz=>?_,h.inj,h.glob.mono (fun b o v _ hc=>ht.cell hK hc) (fun _ _ _ h _=>h) (fun g hg=>ht.shape hg)⟩
 ·refine (h.blk id blk hb).keep (fun v g hv hg=>?_) (fun b o v _ hc=>ht.cell hK hc) (fun _ _ _ h _=>h) (fun _ _ h=>h)
  obtain ⟨x,hx⟩:∃x,W.heap[g]?=some x:=⟨_,Array.getElem?_eq_getElem ((h.blk id blk hb).g_lt hv hg)⟩
  exact (ht.same g x hx (.inr (hK _ ((h.blk id blk hb).not_book hv hg hx)))).trans hx.symm
 ·rcases Nat.lt_or_ge b W.heap.size with hb|hb
  ·exact h.limb b o z (ht.back hb hz)
  ·exact h.fresh b o hb
theorem SRel.turn(hK:∀o,isBook o=false→K o=false)(h:SRel E N T B L a W)(ht:Turn K D W W'){ds:List Deferred}(hd:DfOk ds W'):SRel E N T B L {a with defers:=ds} W':=
 ⟨fun t=>(h.slots t).mono (fun b o v _ hc=>ht.cell hK hc) (fun _ _ _ h _=>h) (fun _ _ h=>h),h.bs.turn hK ht,h.size,hd⟩
theorem Mod.turn{M:Nat→Nat→Prop}(hK:∀o,isBook o=false→K o=false)(h:Mod M w W)(ht:Turn K w.heap.size W W'):Mod M w W':=by
 have same:∀g,g<w.heap.size→W'.heap[g]?=W.heap[g]?:=fun g hg=>by
  obtain ⟨x,hx⟩:∃x,W.heap[g]?=some x:=⟨_,Array.getElem?_eq_getElem (Nat.lt_of_lt_of_le hg h.size)⟩
  exact (ht.same g x hx (.inl hg)).trans hx.symm
 exact ⟨ht.os.trans h.os,ht.tape.trans h.tape,ht.output.trans h.output,Nat.le_trans h.size ht.size,fun g hg hn=>(same g hg).trans (h.block g hg hn),
  fun g o v hn hv=>ht.cell hK (h.cell g o v hn hv),fun g hg=>(ht.shape (Nat.lt_of_lt_of_le hg h.size)).trans (h.shape g hg)⟩
theorem Run.turn(hK:∀o,isBook o=false→K o=false)(h:Run B L B' L' w W)(ht:Turn K w.heap.size W W'):Run B L B' L' w W':=⟨h.mod.turn hK ht,h.own⟩
theorem DfOk.turn{ds:List Deferred}(h:DfOk ds W)(ht:Turn isLoop D W W'):DfOk ds W':=h.to fun D' hD=>ht.same D' _ hD (.inr rfl)
theorem Run.oks(h:Run B L B' L' w W):∀b o,okS E B L b o→b<w.heap.size→okS E B' L' b o:=fun b o hok hc=>⟨hok.1,fun id blk v' h1 h2 h3=>by
 obtain ⟨id0,blk0,v0,h4,h5,h6,h7⟩:=h.own id blk v' b h1 h2 h3 hc
 exact h7 o (hok.2 id0 blk0 v0 h4 h5 h6)⟩
theorem Run.cells(h:Run B L B' L' w W):∀b o v,okS E B L b o→w.cell? ⟨b,o,none⟩=some v→W.cell? ⟨b,o,none⟩=some v:=fun b o v hok hc=>
 h.mod.cell b o v (fun ⟨id,blk,v0,h1,h2,h3,h4⟩=>h4 (hok.2 id blk v0 h1 h2 h3)) hc
theorem Run.rep(h:Run B L B' L' w W)(hL:∀b v,L b=some v→L' b=some v){d:AV}{v:Value}(hr:Rep w (okS E B L) L d v):Rep W (okS E B' L') L' d v:=
 hr.mono (fun b o v hok hc=>h.cells b o v hok hc) (fun b o v hok hc=>h.oks b o hok (cell_lt hc)) hL
def KB(W W':World):Prop:=∀(g:Nat) (o:Obj),W.heap[g]?=some o→isBook o=true→W'.heap[g]?=some o
theorem Run.kb(h:Run B L B' L' w W)(hb:BsRel E B L w):KB w W:=fun g o hg ho=>by
 rw [h.mod.block g (Array.getElem?_eq_some_iff.1 hg).1 (fun o' ⟨id,blk,v,h1,h2,h3,_⟩=>?_)];exact hg
 have:=(hb.blk id blk h1).not_book h2 h3 hg
 rw [ho] at this;cases this
theorem DfOk.kb{ds:List Deferred}(h:DfOk ds W)(hk:KB W W'):DfOk ds W':=h.to fun D hD=>hk D _ hD rfl
end
section
variable {P : Program} {n l : Nat}
theorem op_in{o:Oper}{a:Act}{w:World}{K:Act→World→Prop}{Q:Exit→Act→World→Prop}(hd:noDefer o=true)(h:o.wp P a w K Q):o.wpIn (Fence.wide.inRound l) n P a w K Q:=by
 refine ⟨fun _ _=>trivial,?_⟩
 have e:o.semAt (Fence.wide.inRound l).round a.eval=execOp a.eval o:=Oper.semAt_some l a.eval o fun c hc=>by unfold noDefer at hd;rw [hc] at hd;cases hd
 rw [e]
 unfold Oper.wp at h
 revert h
 generalize (execOp a.eval o).run P w=r
 intro h
 cases r with
 | ok x w'=>
   cases x with
   | value v=>exact h
   | skip=>exact h
   | defer d=>exact h
   | enter f args=>exact ⟨(fun h=>by cases h),CallsIn.inRound l (callsIn_wide.2 h)⟩
   | row r args=>
     refine ⟨(fun h=>by cases h),fun c cs _=>?_⟩
     obtain ⟨v,w2,h1,h2⟩:=h c cs
     exact ⟨v,w2,h1,stepsIn_wide.2 h2⟩
   | _=>exact h.elim
 | _=>first|exact h|(rename_i x w';cases x <;>exact h)
theorem opsS_in{E:Nat→Nat→Prop}{m N:Nat}{O:FuncId→Option Orc}(hO:OrcOk P O){ops:Array Oper}{B0:Nat→Option AB}{L0:Nat→Option Value}{w0:World}{ds:List Deferred}{Q:Exit→Act→World→Prop}:∀(os:List Oper) (s s':St),opsS P O N ops os s=some s'→os.all noDefer=true→
  (∀a' w',Fits E m N B0 L0 w0 s' a' w'→a'.defers=ds→Q .normal a' w')→∀a w,Fits E m N B0 L0 w0 s a w→a.defers=ds→wpListIn (Fence.wide.inRound l) n P ops Q os a w
 | [],s,s',hs,_,hQ,a,w,h,hda=>by
   simp only [opsS,Option.some.injEq] at hs
   subst hs
   exact hQ a w h hda
 | o::os,s,s',hs,hd,hQ,a,w,h,hda=>by
   rw [List.all_cons,Bool.and_eq_true] at hd
   simp only [opsS] at hs
   split at hs
   ·rename_i s1 h1
    have:=opS_sound (P:=P) (K:=wpListIn (Fence.wide.inRound l) n P ops Q os) (Q:=Q) hO h1 h fun v w' hf=>opsS_in hO os s1 s' hs hd.2 hQ _ w' hf ((put_defers _ _ _).trans hda)
    unfold wpListIn
    split
    ·rename_i hw
     rw [if_pos hw] at this
     exact op_in hd.1 this
    ·rename_i hw
     rw [if_neg hw] at this
     exact ⟨fun _ _=>trivial,this⟩
   ·cases hs
end
def Keeps(ok:Nat→Nat→Prop)(W W':World):Prop:=∀b o v,ok b o→W.cell? ⟨b,o,none⟩=some v→W'.cell? ⟨b,o,none⟩=some v
theorem Keeps.trans{ok:Nat→Nat→Prop}{A B C:World}(h:Keeps ok A B)(k:Keeps ok B C):Keeps ok A C:=fun b o v h1 h2=>k b o v h1 (h b o v h1 h2)
theorem isLoop_k(o:Obj)(h:isBook o=false):isLoop o=false:=not_loop h
theorem Turn.keeps{D:Nat}{W W':World}(h:Turn isLoop D W W')(ok:Nat→Nat→Prop):Keeps ok W W':=fun _ _ _ _ hc=>h.cell isLoop_k hc
def BackCon(P:Program)(f:FuncId)(t:TypeId):Prop:=
 (∀args w,(callFunc f args).run P w=.ok (.enter f args) w)∧
 ∀(e:TypeId) (ag:Bool) (k y:Nat) (z:List Value),elOf P t=some (e,ag,k,y,z)→
 ∀(ok:Nat→Nat→Prop) (es:List (List AV)) (v1:Value) (l:Nat) (W:World) (J:Nat→World→Prop),es.length≤1000000→RepT W ok (.mem [.sl k es]) v1→
  (∀i W1 W2,J i W1→Below W1.heap.size W1 W2→J i W2)→
  (∀i el d v W1,es[i]?=some el→grab ag k el=some d→J (i+1) W1→RepT W1 ok d v→YieldAt Fence.wide 0 P l #[.int .i64 (i:Int),v] W1 fun e W'=>e=.returned (.bool true)∧J i W'∧Keeps ok W1 W')→
  J es.length W→CallsIn Fence.wide 0 P f #[.func (.yield l) #[] #[],v1] W fun e W'=>(∃v,e=.returned v)∧J 0 W'
theorem range_wp {P:Program} {f:FuncId} {t e:TypeId} {ag:Bool} {k y:Nat} {z:List Value} (hB:BackCon P f t) (hel:elOf P t=some (e,ag,k,y,z)) {g:Operand} {p q:Tmp} {asg body:Code} {Q:Exit→Act→World→Prop} {a:Act} {w:World} {ok:Nat→Nat→Prop} {es:List (List AV)} {v1:Value} (hg:a.eval g=.func (.func f) #[] #[v1]) (hlen:es.length≤1000000) (hrep:RepT w ok (.mem [.sl k es]) v1) (I:Nat→World→Prop) (hI:∀i W W',I i W→Turn isLoop w.heap.size W W'→I i W') (h0:I es.length w) (hround:∀i el d v l W,es[i]?=some el→grab ag k el=some d→RepT W ok d v→I (i+1) W→w.heap.size≤l→
   asg.wpIn (Fence.wide.inRound l) 0 P (Exit.then (fun a1 W1=>KB W W1∧Keeps ok W W1∧∀W2,Turn isLoop w.heap.size W1 W2→body.wpIn (Fence.wide.inRound l) 0 P (fun e _ W'=>e=.normal∧KB W2 W'∧Keeps ok W2 W'∧I i W') a1 W2) (fun _ _ _=>False))
    {tmps:=(a.tmps.setIfInBounds p (.int .i64 (i:Int))).setIfInBounds q v,defers:=[]} W) (hdone:∀D W,w.heap.size≤D→I 0 W→W.heap[D]?=some (.deferred (some []))→Q .normal {a with defers:={target:=.collected D,args:=#[]}::a.defers} W):
  (Code.rangeFunc g #[p,q] asg body).wpIn Fence.wide 0 P Q a w:=by
 refine wpIn_rangeFunc ?_
 intro fn hfn
 obtain ⟨rec,hrec⟩:∃rec:LoopState→Option Code→Loop,rec=fun st pe=>{state:=st,pending:=pe,fn,tmps:=a.tmps,params:=#[p,q],assign:=asg,body,defers:=w.heap.size}:=⟨_,rfl⟩
 obtain ⟨W1,hW1⟩:∃W1,(w.alloc (.deferred (some []))).alloc (.loop (rec .ready none))=W1:=⟨_,rfl⟩
 have hL1:W1.heap[w.heap.size+1]?=some (.loop (rec .ready none)):=by
  rw [←hW1];have:=World.alloc_heap_new (w.alloc (.deferred (some []))) (.loop (rec .ready none));rwa [World.size_alloc] at this
 have hK1:W1.heap[w.heap.size]?=some (.deferred (some [])):=by
  rw [←hW1];exact (Below.heap_alloc _ _ _ (by simp)).trans (World.alloc_heap_new w _)
 have hT1:Turn isLoop w.heap.size w W1:=by
  rw [←hW1]
  exact Turn.of_below (((Below.refl _ w).alloc (Nat.le_refl _) _).alloc (by simp) _)
 have hI1:I es.length W1:=hI _ _ _ h0 hT1
 refine ⟨w.heap.size+1,[{target:=.collected w.heap.size,args:=#[]}],W1,{target:=.fn (.func f) #[v1],args:=#[.func (.yield (w.heap.size+1)) #[] #[]]},W1,f,
  #[.func (.yield (w.heap.size+1)) #[] #[],v1],W1,?_,?_,?_,?_,(fun h=>by cases h),?_⟩
 ·rw [←hW1,hrec];exact run_enterLoop_outer _ _ _ _ _
 ·simp only [resolve,hg]
  simp [go_sem]
 ·intro f' _;trivial
 ·simp [invoke,go_sem,hB.1]
 ·refine (hB.2 e ag k y z hel ok es v1 (w.heap.size+1) W1 (fun i W=>I i W∧W.heap[w.heap.size+1]?=some (.loop (rec .ready none))∧W.heap[w.heap.size]?=some (.deferred (some []))) hlen
   (hrep.mono (fun b o v _ hc=>hT1.cell isLoop_k hc) (fun _ _ _ h _=>h)) ?_ ?_ ⟨hI1,hL1,hK1⟩).mono ?_
  ·rintro i X Y ⟨h1,h2,h3⟩ hb
   have ht:Turn isLoop w.heap.size X Y:=Turn.of_below hb
   exact ⟨hI _ _ _ h1 ht,(hb.block _ (Array.getElem?_eq_some_iff.1 h2).1).trans h2,(hb.block _ (Array.getElem?_eq_some_iff.1 h3).1).trans h3⟩
  ·rintro i el d v W hel' hd ⟨hi,hl,hk⟩ hv
   have hy:=run_yield (P:=P) (args:=#[.int .i64 (i:Int),v]) hl (by rw [hrec];rfl)
   rw [hrec] at hy
   refine ⟨fn,(a.tmps.setIfInBounds p (.int .i64 (i:Int))).setIfInBounds q v,asg,body,hy.trans (by simp),roundIn_of_wpIn hfn ?_⟩
   clear hy
   refine wpIn_mono (hround i el d v (w.heap.size+1) W hel' hd hv hi (by omega)) ?_
   intro ex a1 Wa hp
   cases ex with
   | normal=>
     obtain ⟨kb1,kp1,hbody⟩:=hp
     have hl1:=kb1 _ _ hl rfl
     have hk1:=kb1 _ _ hk rfl
     have ht2:Turn isLoop w.heap.size Wa (Wa.putObj (w.heap.size+1) (.loop {rec .ready none with state:=.busy})):=Turn.put hl1 (by omega) rfl rfl rfl
     refine ⟨_,run_beginRound hl1 (by rw [hrec]),wpIn_mono (hbody _ ht2) ?_⟩
     rintro ex2 a2 W3 ⟨rfl,kb2,kp2,hi3⟩
     have hl2:(Wa.putObj (w.heap.size+1) (.loop {rec .ready none with state:=.busy})).heap[w.heap.size+1]?=some (.loop {rec .ready none with state:=.busy}):=World.putObj_heap_same (Array.getElem?_eq_some_iff.1 hl1).1
     have hl3:=kb2 _ _ hl2 rfl
     have hk3:=kb2 _ _ ((World.putObj_heap_other (by omega)).trans hk1) rfl
     have hend:=run_endRound (P:=P) none hl3
     have ht4:Turn isLoop w.heap.size W3 (W3.putObj (w.heap.size+1) (.loop (rec .ready none))):=Turn.put hl3 (by omega) rfl rfl rfl
     have e4:({({rec .ready none with state:=.busy}:Loop) with state:=if (none:Option Code).isNone=true then .ready else .done,pending:=none}:Loop)=rec .ready none:=by rw [hrec];rfl
     rw [e4] at hend
     refine ⟨_,_,hend,rfl,⟨hI _ _ _ hi3 ht4,World.putObj_heap_same (Array.getElem?_eq_some_iff.1 hl3).1,(World.putObj_heap_other (by omega)).trans hk3⟩,?_⟩
     exact (kp1.trans (ht2.keeps ok)).trans (kp2.trans (ht4.keeps ok))
   | _=>exact hp.elim
  ·rintro ex W2 ⟨⟨v,rfl⟩,hi,hl,hk⟩
   have hend:=run_endLoop (P:=P) hl (by rw [hrec];simp)
   rw [hrec] at hend
   refine ⟨none,_,hend,hdone w.heap.size _ (Nat.le_refl _) (hI _ _ _ hi (Turn.put hl (by omega) rfl rfl rfl)) ((World.putObj_heap_other (by omega)).trans hk)⟩
theorem leaves_marks{P:Program}{fn:Func}{tmps:Array Value}{R:Ending→World→Prop}{B:Nat}:∀(ds:List Deferred) (W:World),DfOk ds W→(∀d∈ds,∀D,d.target=.collected D→B≤D)→(∀W',Turn isBook B W W'→∃v,(results fn tmps).run P W'=.ok v W'∧R (.returned v) W')→LeavesInM Fence.wide 0 P fn tmps R ds .returning W
 | [],W,_,_,h=>h W (Turn.refl _ _ _)
 | d::ds,W,hd,hb,h=>by
   obtain ⟨D,e,hD⟩:=hd.mark d (by simp)
   have hBD:=hb d (by simp) D (by rw [e])
   have ht:Turn isBook B W (W.putObj D (.deferred none)):=Turn.put hD hBD rfl rfl rfl
   refine ⟨by simp,.inl ⟨D,_,by rw [e],run_takeDeferred hD,leaves_marks ds _ ⟨fun d' hd'=>?_,(List.pairwise_cons.1 hd.nodup).2⟩ (fun d' hd'=>hb d' (by simp [hd'])) fun W' h'=>h W' (ht.trans h')⟩⟩
   obtain ⟨D',e',hD'⟩:=hd.mark d' (by simp [hd'])
   refine ⟨D',e',?_⟩
   rw [World.putObj_heap_other]
   ·exact hD'
   ·intro e2
    exact (List.pairwise_cons.1 hd.nodup).1 d' hd' (by rw [e,e',e2])
structure MixOk (P:Program):Prop where
 ord:P.follows .mixedOrders=true
 back:∀f t,backL.lookup f=some t→BackCon P f t
def EM:Ex→Exit→Prop
 | .nrm,.normal=>True
 | .exit i,.exit j=>i=j
 | .ret,.ret=>True
 | _,_=>False
section
variable{P:Program}{E:Nat→Nat→Prop}{w w' w1:World}{m N:Nat}{T:Nat→AV}{B B' B1:Nat→Option AB}{L L' L1:Nat→Option Value}{a:Act}{up:List (Nat × Option AB)}{ok:Nat→Nat→Prop}
theorem opnd_sound(h:SRel E N T B L a w)(x:Operand):Rep w (okS E B L) L (opnd x T) (a.eval x):=by
 cases x with
 | tmp t=>exact h.slots t
 | const v=>exact .t (rep_ofV _ v)
 | global g=>exact .t (.any _)
 | func f=>exact .t (.any _)
theorem loopS_sound{O:FuncId→Option Orc}{lives:List Nat}{c:Code}{step:St→Option (Ex × St)}{B0:Nat→Option AB}{L0:Nat→Option Value}{w0:World}(hstep:∀(s:St) (ex:Ex) (s':St),step s=some (ex,s')→∀a w,Fits E m N B0 L0 w0 s a w→c.wp P (fun e a' w'=>EM ex e∧Fits E m N B0 L0 w0 s' a' w') a w):
  ∀(n:Nat) (s:St) (ex:Ex) (s':St),loopS m step lives n s=some (ex,s')→ex≠.nrm∧∀a w,Fits E m N B0 L0 w0 s a w→Code.rounds P c (fun e a' w'=>EM ex e∧Fits E m N B0 L0 w0 s' a' w') n a w
 | 0,s,ex,s',h=>by simp [loopS] at h
 | n+1,s,ex,s',h=>by
   simp only [loopS] at h
   split at h
   ·rename_i s1 hg
    split at h
    ·rename_i s2 h2
     obtain ⟨h3,h4⟩:=loopS_sound (O:=O) hstep n s2 ex s' h
     refine ⟨h3,fun a w hf=>?_⟩
     rw [rounds_succ]
     refine wp_mono (hstep s1 _ s2 h2 a w (gc_sound hg hf)) fun e a' w' ⟨he,hf'⟩=>?_
     cases e with
     | normal=>exact h4 a' w' hf'
     | _=>exact he.elim
    ·rename_i hne
     have h5:ex≠.nrm:=fun e=>by subst e;exact hne s' h
     refine ⟨h5,fun a w hf=>?_⟩
     rw [rounds_succ]
     refine wp_mono (hstep s1 ex s' h a w (gc_sound hg hf)) fun e a' w' ⟨he,hf'⟩=>?_
     cases e with
     | normal=>cases ex <;>first|exact absurd rfl h5|exact he.elim
     | _=>exact ⟨he,hf'⟩
   ·cases h
theorem exec_in{O:FuncId→Option Orc}(hO:OrcOk P O)(lives:Nat→List Nat)(fuel:Nat){l n m0:Nat}{B0:Nat→Option AB}{L0:Nat→Option Value}{w0:World}{ds:List Deferred}:
  ∀(c:Code) (s:St) (ex:Ex) (s':St),simpleC c=true→exec P O m0 N lives fuel c s=some (ex,s')→∀a w,Fits E m N B0 L0 w0 s a w→a.defers=ds→c.wpIn (Fence.wide.inRound l) n P (fun e a' w'=>EM ex e∧Fits E m N B0 L0 w0 s' a' w'∧a'.defers=ds) a w:=by
 intro c
 induction c with
 | skip=>
   intro s ex s' _ h a w hf hda
   simp only [exec,Option.some.injEq,Prod.mk.injEq] at h
   obtain ⟨rfl,rfl⟩:=h
   exact wpIn_skip ⟨trivial,hf,hda⟩
 | exit id=>
   intro s ex s' _ h a w hf hda
   simp only [exec,Option.some.injEq,Prod.mk.injEq] at h
   obtain ⟨rfl,rfl⟩:=h
   exact wpIn_exit ⟨rfl,hf,hda⟩
 | region id ops d=>
   intro s ex s' hc h a w hf hda
   rw [simpleC,Bool.and_eq_true] at hc
   cases d with
   | true=>cases hc.1
   | false=>
     simp only [exec] at h
     split at h
     ·rename_i s1 h1
      simp only [Option.some.injEq,Prod.mk.injEq] at h
      obtain ⟨rfl,rfl⟩:=h
      exact wpIn_region_list (opsS_in hO _ s s1 h1 hc.2 (fun a' w' hf' hd'=>⟨trivial,hf',hd'⟩) a w hf hda)
     ·cases h
 | seq x y ihx ihy=>
   intro s ex s' hc h a w hf hda
   rw [simpleC,Bool.and_eq_true] at hc
   simp only [exec] at h
   split at h
   ·rename_i s1 h1
    refine wpIn_seq (wpIn_mono (ihx s _ s1 hc.1 h1 a w hf hda) fun e a' w' ⟨he,hf',hd'⟩=>?_)
    cases e with
    | normal=>exact ihy s1 ex s' hc.2 h a' w' hf' hd'
    | _=>exact he.elim
   ·rename_i hne
    refine wpIn_seq (wpIn_mono (ihx s ex s' hc.1 h a w hf hda) fun e a' w' ⟨he,hf',hd'⟩=>?_)
    cases e with
    | normal=>
      cases ex with
      | nrm=>exact absurd h (hne s')
      | _=>exact he.elim
    | _=>exact ⟨he,hf',hd'⟩
 | cond c x y ihx ihy=>
   intro s ex s' hc h a w hf hda
   rw [simpleC,Bool.and_eq_true] at hc
   obtain ⟨ok,L,hr⟩:∃ok L,Rep w ok L (opnd c s.t) (a.eval c):=by obtain ⟨L,h1,_⟩:=hf;exact ⟨_,_,opnd_sound h1 c⟩
   simp only [exec] at h
   split at h
   ·rename_i e
    rw [e] at hr
    exact wpIn_cond_true (rep_lit hr) (ihx s ex s' hc.1 h a w hf hda)
   ·rename_i e
    rw [e] at hr
    exact wpIn_cond_false (rep_lit hr) (ihy s ex s' hc.2 h a w hf hda)
   ·cases h
 | block id c ih=>
   intro s ex s' hc h a w hf hda
   rw [simpleC] at hc
   simp only [exec] at h
   split at h
   ·rename_i i s1 h1
    refine wpIn_block (wpIn_mono (ih s _ s1 hc h1 a w hf hda) fun e a' w' ⟨he,hf',hd'⟩=>?_)
    cases e with
    | exit j=>
      cases he
      simp only [Exit.inBlock]
      split at h
      ·rename_i e
       cases h
       rw [if_pos e]
       exact ⟨trivial,hf',hd'⟩
      ·rename_i e
       cases h
       rw [if_neg e]
       exact ⟨rfl,hf',hd'⟩
    | _=>exact he.elim
   ·rename_i hne
    refine wpIn_block (wpIn_mono (ih s ex s' hc h a w hf hda) fun e a' w' ⟨he,hf',hd'⟩=>?_)
    cases e with
    | exit j=>
      cases ex with
      | exit i=>exact absurd h (hne i s')
      | _=>exact he.elim
    | _=>exact ⟨he,hf',hd'⟩
 | label l=>intro s ex s' hc;cases hc
 | ret=>intro s ex s' hc;cases hc
 | loop c ih=>intro s ex s' hc;cases hc
 | rangeFunc f ps x y ihx ihy=>intro s ex s' hc;cases hc
 | scope c ih=>intro s ex s' hc;cases hc
 | goto l=>intro s ex s' hc;cases hc
 | refuse y=>intro s ex s' hc;cases hc
theorem range_sound{O:FuncId→Option Orc}(hO:OrcOk P O)(hm:MixOk P)(lives:Nat→List Nat)(fuel:Nat){live:List Nat}{B0:Nat→Option AB}{L0:Nat→Option Value}{w0:World}{g:Operand}{ps:Array Tmp}{x y:Code}{s s':St}{ex:Ex}(h:rangeE P m N live (exec P O m N lives fuel x) (exec P O m N lives fuel y) (simpleC x && simpleC y) g ps s=some (ex,s')){a:Act}{w:World}(hf:Fits E m N B0 L0 w0 s a w):
  (Code.rangeFunc g ps x y).wp P (fun e a' w'=>EM ex e∧Fits E m N B0 L0 w0 s' a' w') a w:=by
 unfold rangeE at h
 split at h
 ·rename_i f k es p q hs hg hp
  rw [Bool.and_eq_true] at hs
  obtain ⟨ps⟩:=ps
  obtain rfl:ps=[p,q]:=hp
  split at h
  ·rename_i t hbk
   split at h
   ·rename_i e ag k' yb z hel
    split at h
    ·rename_i hc
     obtain ⟨rfl,hlen,hp1,hq1⟩:=hc
     split at h
     ·rename_i sf hR
      simp only [Option.some.injEq,Prod.mk.injEq] at h
      obtain ⟨rfl,rfl⟩:=h
      obtain ⟨Lc,h1,h2,h3,hlo⟩:=hf
      have hgr:=opnd_sound h1 g
      rw [hg] at hgr
      obtain ⟨v1,hgv,hv1⟩:∃v1,a.eval g=.func (.func f) #[] #[v1]∧RepT w (okS E s.b Lc) (.mem [.sl k es]) v1:=by
       have key:∀(vs:Array Value),vs.size=1→(∀(i:Nat) (d:AV),([AV.mem [.sl k es]]:List AV)[i]?=some d→Rep w (okS E s.b Lc) Lc d (vs.getD i undef))→∃v1,vs=#[v1]∧RepT w (okS E s.b Lc) (.mem [.sl k es]) v1:=fun vs hn hh=>by
        refine ⟨vs.getD 0 undef,?_,(hh 0 _ rfl).toT rfl⟩
        apply Array.ext
        ·simpa using hn
        ·intro i h9 _
         have:i=0:=by omega
         subst this
         simp [Array.getD,h9]
       generalize a.eval g=v at hgr
       cases hgr with
       | t hgr=>cases hgr with
         | clo hn hh=>obtain ⟨v1,rfl,h9⟩:=key _ hn fun i d hi=>.t (hh i d hi);exact ⟨v1,rfl,h9⟩
       | clo hn hh=>obtain ⟨v1,rfl,h9⟩:=key _ hn hh;exact ⟨v1,rfl,h9⟩
      have hv2:RepT w (fun b o=>okS E s.b Lc b o∧b<w.heap.size) (.mem [.sl k es]) v1:=hv1.mono (fun _ _ _ _ h=>h) fun b o v h9 hc=>⟨h9,cell_lt hc⟩
      refine (wpIn_wide (n:=0)).1 (range_wp (hm.back f t hbk) hel hgv hlen hv2 (fun i W=>∃si,rangeS m (rangeR (exec P O m N lives fuel x) (exec P O m N lives fuel y) ag k p q) live es i si=some sf∧Fits E m N s.b Lc w si {a with defers:=[]} W∧DfOk a.defers W) ?_ ?_ ?_ ?_)
      ·rintro i W W' ⟨si,hs1,⟨Li,f1,f2,f3,f4⟩,hd⟩ ht
       exact ⟨si,hs1,⟨Li,f1.turn isLoop_k ht (DfOk.nil _),f2,f3.turn isLoop_k ht,f4⟩,hd.turn ht⟩
      ·exact ⟨s,hR,⟨Lc,⟨h1.slots,h1.bs,h1.size,DfOk.nil _⟩,h2,Run.refl,⟨fun _ _ _ h=>h,fun d hd=>by cases hd⟩⟩,h1.defers⟩
      ·rintro i el d v l W hel' hd hv ⟨si,hs1,hfi,hdf⟩ hl
       rw [rangeS] at hs1
       split at hs1
       ·rename_i s1 el2 hg1 he2
        rw [hel'] at he2
        cases he2
        split at hs1
        ·rename_i s2 hstep
         unfold rangeR at hstep
         rw [hd] at hstep
         dsimp only at hstep
         split at hstep
         ·rename_i sa hra
          split at hstep
          ·rename_i sb hrb
           have e9:=Option.some.inj hstep
           subst e9
           obtain ⟨L1,g1,g2,g3,g4⟩:=gc_sound hg1 hfi
           have hvr:Rep W (okS E s1.b L1) L1 d v:=.t (hv.mono (fun _ _ _ _ h=>h) fun b o u hb hc=>g3.oks b o hb.1 hb.2)
           have r1:SRel E N (⟨(q,d)::(p,.lit (.int .i64 (i:Int)))::s1.T,s1.B,s1.nx⟩:St).t s1.b L1 {tmps:=(a.tmps.setIfInBounds p (.int .i64 (i:Int))).setIfInBounds q v,defers:=[]} W:=by
            have a1:=g1.aft (Aft.refl g1.bs) (dst:=some p) (d:=.lit (.int .i64 (i:Int))) (v:=.int .i64 (i:Int)) (.t (.lit _)) (fun t ht=>by cases ht;exact hp1)
            have a2:=a1.aft (Aft.refl a1.bs) (dst:=some q) (d:=d) (v:=v) hvr (fun t ht=>by cases ht;exact hq1)
            exact ⟨a2.slots,a2.bs,a2.size,DfOk.nil _⟩
           have k1:=exec_in hO lives fuel (l:=l) (n:=0) (m:=s1.nx) (B0:=s1.b) (L0:=L1) (w0:=W) (ds:=[]) x _ _ sa hs.1 hra _ W ⟨L1,r1,g2,Run.refl,⟨fun _ _ _ h=>h,fun d hd=>by cases hd⟩⟩ rfl
           refine wpIn_mono k1 ?_
           rintro ex1 ⟨tm1,df1⟩ W1 ⟨he1,⟨La,p1,p2,p3,p4⟩,hdf1⟩
           cases ex1 with
           | normal=>
             obtain rfl:df1=[]:=hdf1
             refine ⟨p3.kb g1.bs,fun b o u hb hc=>p3.cells b o u (g3.oks b o hb.1 hb.2) hc,fun W2 ht2=>?_⟩
             have q1:=p1.turn isLoop_k ht2 (DfOk.nil _)
             have k2:=exec_in hO lives fuel (l:=l) (n:=0) (m:=sa.nx) (B0:=sa.b) (L0:=La) (w0:=W2) (ds:=[]) y _ _ sb hs.2 hrb _ W2 ⟨La,q1,p2,Run.refl,⟨fun _ _ _ h=>h,fun d hd=>by cases hd⟩⟩ rfl
             refine wpIn_mono k2 ?_
             rintro ex2 a3 W3 ⟨he2,⟨Lb,u1,u2,u3,u4⟩,hdf3⟩
             cases ex2 with
             | normal=>
               have hLa:∀b v,L1 b=some v→La b=some v:=fun b v hb=>p4.lk b v (by
                rcases Nat.lt_or_ge b s1.nx with h9|h9
                ·exact h9
                ·rw [g2 b h9] at hb;cases hb) hb
               have hLb:∀b v,La b=some v→Lb b=some v:=fun b v hb=>u4.lk b v (by
                rcases Nat.lt_or_ge b sa.nx with h9|h9
                ·exact h9
                ·rw [p2 b h9] at hb;cases hb) hb
               have g13:Run s.b Lc sa.b La w W1:=g3.trans p3
               have kbW:KB W W1:=p3.kb g1.bs
               have kb3:KB W2 W3:=u3.kb q1.bs
               refine ⟨rfl,kb3,fun b o u hb hc=>u3.cells b o u (g13.oks b o hb.1 hb.2) hc,⟨s1.T,sb.B,sb.nx⟩,hs1,⟨Lb,⟨fun t=>?_,u1.bs,g1.size,DfOk.nil _⟩,u2,(g13.turn isLoop_k ht2).trans u3,⟨fun i u hi hu=>hLb _ _ (hLa _ _ (g4.lk i u hi hu)),fun d hd=>by cases hd⟩⟩,((hdf.kb kbW).turn ht2).kb kb3⟩
               have z1:=p3.rep hLa (g1.slots t)
               have z2:Rep W2 (okS E sa.b La) La (s1.t t) (a.tmps.getD t undef):=z1.mono (fun b o v _ hc=>ht2.cell isLoop_k hc) (fun _ _ _ h _=>h) (fun _ _ h=>h)
               exact u3.rep hLb z2
             | _=>exact he2.elim
           | _=>exact he1.elim
          ·cases hstep
         ·cases hstep
        ·cases hs1
       ·cases hs1
      ·rintro D W hD ⟨si,hs1,hfi,hdf⟩ hK
       rw [rangeS] at hs1
       obtain ⟨L1,g1,g2,g3,g4⟩:=gc_sound hs1 hfi
       refine ⟨trivial,L1,⟨g1.slots,g1.bs,g1.size,⟨fun d hd=>?_,List.pairwise_cons.2 ⟨fun d hd e=>?_,h1.defers.nodup⟩⟩⟩,g2,h3.trans g3,⟨fun i u hi hu=>g4.lk i u hi (hlo.lk i u hi hu),fun d hd D' hD'=>?_⟩⟩
       ·rcases List.mem_cons.1 hd with rfl|hd
        ·exact ⟨D,rfl,hK⟩
        ·exact hdf.mark d hd
       ·obtain ⟨D',e',hD'⟩:=h1.defers.mark d hd
        have hlt:=(Array.getElem?_eq_some_iff.1 hD').1
        rw [←e] at e'
        cases e'
        omega
       ·rcases List.mem_cons.1 hd with rfl|hd
        ·cases hD'
         exact Nat.le_trans h3.mod.size hD
        ·exact hlo.df d hd D' hD'
     ·cases h
    ·cases h
   ·cases h
  ·cases h
 ·cases h
theorem exec_sound{O:FuncId→Option Orc}(hO:OrcOk P O)(hm:MixOk P)(lives:Nat→List Nat)(fuel:Nat){B0:Nat→Option AB}{L0:Nat→Option Value}{w0:World}:
  ∀(c:Code) (s:St) (ex:Ex) (s':St),exec P O m N lives fuel c s=some (ex,s')→∀a w,Fits E m N B0 L0 w0 s a w→c.wp P (fun e a' w'=>EM ex e∧Fits E m N B0 L0 w0 s' a' w') a w:=by
 intro c
 induction c with
 | skip=>
   intro s ex s' h a w hf
   simp only [exec,Option.some.injEq,Prod.mk.injEq] at h
   obtain ⟨rfl,rfl⟩:=h
   exact wp_skip ⟨trivial,hf⟩
 | label l=>
   intro s ex s' h a w hf
   simp only [exec,Option.some.injEq,Prod.mk.injEq] at h
   obtain ⟨rfl,rfl⟩:=h
   exact wp_label ⟨trivial,hf⟩
 | exit id=>
   intro s ex s' h a w hf
   simp only [exec,Option.some.injEq,Prod.mk.injEq] at h
   obtain ⟨rfl,rfl⟩:=h
   exact wp_exit ⟨rfl,hf⟩
 | ret=>
   intro s ex s' h a w hf
   simp only [exec,Option.some.injEq,Prod.mk.injEq] at h
   obtain ⟨rfl,rfl⟩:=h
   exact wp_ret ⟨trivial,hf⟩
 | region id ops d=>
   intro s ex s' h a w hf
   cases d with
   | true=>
     simp only [exec] at h
     split at h
     ·rename_i s1 h1
      simp only [Option.some.injEq,Prod.mk.injEq] at h
      obtain ⟨rfl,rfl⟩:=h
      exact draw_sound hO hm.ord h1 hf fun a' w' hf'=>⟨trivial,hf'⟩
     ·cases h
   | false=>
     simp only [exec] at h
     split at h
     ·rename_i s1 h1
      simp only [Option.some.injEq,Prod.mk.injEq] at h
      obtain ⟨rfl,rfl⟩:=h
      exact wp_region_list (opsS_sound hO _ s s1 h1 (fun a' w' hf'=>⟨trivial,hf'⟩) a w hf)
     ·cases h
 | seq x y ihx ihy=>
   intro s ex s' h a w hf
   simp only [exec] at h
   split at h
   ·rename_i s1 h1
    refine wp_seq (wp_mono (ihx s _ s1 h1 a w hf) fun e a' w' ⟨he,hf'⟩=>?_)
    cases e with
    | normal=>exact ihy s1 ex s' h a' w' hf'
    | _=>exact he.elim
   ·rename_i hne
    refine wp_seq (wp_mono (ihx s ex s' h a w hf) fun e a' w' ⟨he,hf'⟩=>?_)
    cases e with
    | normal=>
      cases ex with
      | nrm=>exact absurd h (hne s')
      | _=>exact he.elim
    | _=>exact ⟨he,hf'⟩
 | cond c x y ihx ihy=>
   intro s ex s' h a w hf
   obtain ⟨ok,L,hc⟩:∃ok L,Rep w ok L (opnd c s.t) (a.eval c):=by obtain ⟨L,h1,_⟩:=hf;exact ⟨_,_,opnd_sound h1 c⟩
   simp only [exec] at h
   split at h
   ·rename_i e
    rw [e] at hc
    exact wp_cond_true (rep_lit hc) (ihx s ex s' h a w hf)
   ·rename_i e
    rw [e] at hc
    exact wp_cond_false (rep_lit hc) (ihy s ex s' h a w hf)
   ·cases h
 | block id c ih=>
   intro s ex s' h a w hf
   simp only [exec] at h
   split at h
   ·rename_i i s1 h1
    refine wp_block (wp_mono (ih s _ s1 h1 a w hf) fun e a' w' ⟨he,hf'⟩=>?_)
    cases e with
    | exit j=>
      cases he
      simp only [Exit.inBlock]
      split at h
      ·rename_i e
       cases h
       rw [if_pos e]
       exact ⟨trivial,hf'⟩
      ·rename_i e
       cases h
       rw [if_neg e]
       exact ⟨rfl,hf'⟩
    | _=>exact he.elim
   ·rename_i hne
    refine wp_block (wp_mono (ih s ex s' h a w hf) fun e a' w' ⟨he,hf'⟩=>?_)
    cases e with
    | exit j=>
      cases ex with
      | exit i=>exact absurd h (hne i s')
      | _=>exact he.elim
    | _=>exact ⟨he,hf'⟩
 | loop c ih=>
   intro s ex s' h a w hf
   simp only [exec] at h
   split at h
   ·rename_i ex1 s1 h1
    split at h
    ·rename_i s2 h2
     simp only [Option.some.injEq,Prod.mk.injEq] at h
     obtain ⟨rfl,rfl⟩:=h
     exact wp_mono (wp_loop_rounds fuel ((loopS_sound (O:=O) ih fuel s _ s1 h1).2 a w hf)) fun e a' w' ⟨he,hf'⟩=>⟨he,gc_sound h2 hf'⟩
    ·cases h
   ·cases h
 | rangeFunc f ps x y ihx ihy=>
   intro s ex s' h a w hf
   rw [exec] at h
   exact range_sound hO hm lives fuel h hf
 | scope c ih=>
   intro s ex s' h a w hf
   simp only [exec] at h
   refine wp_scope_straight (wp_mono (ih s ex s' h a w hf) fun e a' w' ⟨he,hf'⟩=>?_)
   cases e with
   | goto l=>cases ex <;>exact he.elim
   | _=>exact ⟨he,hf'⟩
 | goto l=>intro s ex s' h;simp [exec] at h
 | refuse y=>intro s ex s' h;simp [exec] at h
def rvSem(tmps:Array Value):ResultVar→Sem Value
 | .tmp t=>pure (tmps.getD t undef)
 | .cell b t=>do loadVar t (←asAddr (tmps.getD b undef))
theorem results_eq(fn:Func)(tmps:Array Value):results fn tmps=(do let vs ←fn.results.mapM (rvSem tmps);pure (if h:vs.size=1 then vs[0] else .tuple vs)):=by
 have e:(fun (r:ResultVar)=>(match r with|.tmp t=>pure (tmps.getD t undef)|.cell b t=>(do loadVar t (←asAddr (tmps.getD b undef))):Sem Value))=rvSem tmps:=by
  funext r;cases r <;>rfl
 rw [←e]
 rfl
theorem rvA_sound{s:St}(h:SRel E N s.t s.b L a w){r:ResultVar}{d:AV}(hd:rvA P s r=some d):
  ∃v,(rvSem a.tmps r).run P w=.ok v w∧Rep w (okS E s.b L) L d v:=by
 cases r with
 | tmp t=>
   simp only [rvA,Option.some.injEq] at hd
   subst hd
   exact ⟨_,by simp [rvSem],h.slots t⟩
 | cell b t=>
   simp only [rvA] at hd
   split at hd
   ·rename_i g n ht
    split at hd
    ·rename_i v up nx hr
     cases hd
     obtain ⟨_,_,u,h1,h2⟩:=ld_sound h.bs ht (h.slots b) hr
     refine ⟨u,?_,h2⟩
     have h3:∃A,a.tmps.getD b undef=.pointer (some A):=by
      have h4:=h.slots b
      generalize a.tmps.getD b undef=x at h1 h4
      unfold ldT at hr
      split at hr
      ·rename_i e
       rw [e] at h4
       obtain ⟨b',o',rfl,_⟩:=(rep_memA h4).mem_inv
       exact ⟨_,rfl⟩
      ·rename_i e
       rw [e] at h4
       cases h4 with
       | t h4=>cases h4
       | ptr _=>exact ⟨_,rfl⟩
      ·rename_i e
       rw [e] at h4
       cases h4 with
       | t h4=>cases h4
       | rptr _=>exact ⟨_,rfl⟩
      ·simp [Tr.run] at hr
     obtain ⟨A,hA⟩:=h3
     rw [hA] at h1
     simp only [rvSem,hA,asAddr,Sem.run_bind,Sem.run_pure,Result.andThen_ok]
     simpa [Instr.loadAt,Instr.sureAddr] using h1
    ·cases hd
   ·cases hd
theorem rvL_sound{s:St}(h:SRel E N s.t s.b L a w):∀{rs:List ResultVar} {ds:List AV},rvL P s rs=some ds→
  ∃vs,(rs.mapM (rvSem a.tmps)).run P w=.ok vs w∧RV (Rep w (okS E s.b L) L) ds vs
 | [],ds,hd=>by
   simp only [rvL,Option.some.injEq] at hd
   subst hd
   exact ⟨[],by simp,rfl,fun i d hi=>by simp at hi⟩
 | r::rs,ds,hd=>by
   simp only [rvL] at hd
   split at hd
   ·rename_i d ds' h1 h2
    cases hd
    obtain ⟨v,h3,h4⟩:=rvA_sound h h1
    obtain ⟨vs,h5,h6,h7⟩:=rvL_sound h h2
    refine ⟨v::vs,by rw [List.mapM_cons];simp only [Sem.run_bind,h3,Result.andThen_ok,h5,Sem.run_pure],by simp [h6],fun i d hi=>?_⟩
    cases i with
    | zero=>simp at hi;subst hi;exact ⟨v,rfl,h4⟩
    | succ i=>exact h7 i d (by simpa using hi)
   ·cases hd
theorem res_run(h:BsRel E B L w){d r:AV}{up:List (Nat × Option AB)}{nx:Nat}(hr:(res 3 d fun d _=>.done d [] 0).run T B=some (r,up,nx)){v:Value}(hv:Rep w (okS E B L) L d v):RepT w E r v:=by
 obtain ⟨d',fs,h1,h2⟩:=res_sound h 3 d _ _ hr
 simp only [Tr.run,Option.some.injEq,Prod.mk.injEq] at h1
 obtain ⟨rfl,_,_⟩:=h1
 exact (h2 v hv _ (FrzOk.of h fs)).mono (fun _ _ _ _ h=>h) fun b o _ h3 _=>h3.1
theorem resultA_sound{s:St}(h:SRel E N s.t s.b L a w){fn:Func}{r:AV}(hr:resultA P s fn.results.toList=some r):∃v,(results fn a.tmps).run P w=.ok v w∧RepT w E r v:=by
 unfold resultA at hr
 split at hr
 ·rename_i d hd
  obtain ⟨vs,h1,h2,h3⟩:=rvL_sound h hd
  split at hr
  ·rename_i v up nx hres
   cases hr
   match vs,h2 with
   | [u],_=>
     obtain ⟨u',h4,h5⟩:=h3 0 d rfl
     simp at h4
     subst h4
     refine ⟨u,?_,res_run h.bs hres h5⟩
     rw [results_eq,Array.mapM_eq_mapM_toList]
     simp only [Sem.run_bind,Sem.run_map,h1,Result.andThen_ok,Sem.run_pure]
     rfl
  ·cases hr
 ·rename_i ds hne hd
  obtain ⟨vs,h1,h2⟩:=rvL_sound h hd
  split at hr
  ·rename_i v up nx hres
   cases hr
   obtain ⟨h3,h4⟩:=RV.getD h2
   refine ⟨.tuple vs.toArray,?_,res_run h.bs hres (.tup h3 h4)⟩
   rw [results_eq,Array.mapM_eq_mapM_toList]
   have hl:¬vs.toArray.size=1:=fun e=>by
    have e1:ds.length=1:=by rw [←h3];exact e
    match ds,e1 with
    | [d],_=>exact hne d rfl
   simp only [Sem.run_bind,Sem.run_map,h1,Result.andThen_ok,Sem.run_pure,dif_neg hl]
  ·cases hr
 ·cases hr
theorem initT_get:∀(l:List AV) (i x:Nat),findT (initT l i) x=if i≤x then (l[x-i]?).getD .any else .any
 | [],i,x=>by simp [initT,findT]
 | d::l,i,x=>by
   simp only [initT,findT]
   split
   ·rename_i e;subst e;simp
   ·rename_i e
    rw [initT_get l (i+1) x]
    by_cases h:i+1≤x
    ·rw [if_pos h,if_pos (by omega),show x-i=(x-(i+1))+1 by omega,List.getElem?_cons_succ]
    ·rw [if_neg h,if_neg (by omega)]
theorem con_of{O:FuncId→Option Orc}(hO:OrcOk P O)(hm:MixOk P){f:FuncId}{fn:Func}{c:Code}(hf:P.funcs[f]?=some fn)(hb:fn.body=some c){lives:Nat→List Nat}{fuel:Nat}{args:List AV}{r:AV}(h:absFn P O lives fuel fn.ntmps fn.results.toList c args=some r):Con P f args r:=by
 intro w ok vs hgl hvs
 unfold absFn at h
 split at h
 ·rename_i hN
  have hle:=Nat.le_of_ble_eq_true hN
  have hsz:vs.size=args.length:=by have:=hvs.1;simpa using this
  -- the cells that the run may speak of
  let E:Nat→Nat→Prop:=fun b o=>ok b o∨w.heap.size≤b∨∃z,w.cell? ⟨b,o,none⟩=some (.int .u32 z)
  have hfit:Fits E 0 fn.ntmps (fun _=>none) (fun _=>none) w ⟨initT args 0,[],0⟩ {tmps:=vs++Array.replicate (fn.ntmps-vs.size) undef,defers:=[]} w:=by
   refine ⟨fun _=>none,⟨fun t=>?_,⟨fun id blk h=>(by simp [St.b,getU] at h),fun id blk v g h=>(by simp [St.b,getU] at h),fun g o hg=>.inr (.inl hg),fun b o z hz=>.inr (.inr ⟨z,hz⟩),fun id id' blk blk' v v' g h=>(by simp [St.b,getU] at h),hgl.mono (fun _ _ _ _ h=>h) (fun b o _ h3 _=>⟨.inl h3,fun id blk v h=>by simp [St.b,getU] at h⟩) fun _ _=>rfl⟩,by simp;omega,DfOk.nil _⟩,fun _ _=>rfl,?_,⟨fun i u hi=>by omega,fun d hd=>by cases hd⟩⟩
   ·have e:(⟨initT args 0,[],0⟩:St).t t=(args[t]?).getD .any:=by
     simp only [St.t]
     rw [initT_get]
     simp
    rw [e]
    cases ht:args[t]? with
    | none=>exact .t (.any _)
    | some d=>
      obtain ⟨u,h1,h2⟩:=hvs.2 t d ht
      have hlt:=(List.getElem?_eq_some_iff.1 h1).1
      have e2:(vs++Array.replicate (fn.ntmps-vs.size) undef).getD t undef=u:=by
       rw [Array.getD_eq_getD_getElem?,Array.getElem?_append_left (by simpa using hlt),←Array.getElem?_toList,h1];rfl
      rw [e2]
      exact .t (h2.mono (fun _ _ _ _ h=>h) fun b o _ h3 _=>⟨.inl h3,fun id blk v h=>by simp [St.b,getU] at h⟩)
   ·have:(⟨initT args 0,[],0⟩:St).b=fun _=>none:=by funext x;rfl
    rw [this]
    exact Run.refl
  have key:∀(ex:Ex) (s:St),exec P O 0 fn.ntmps lives fuel c ⟨initT args 0,[],0⟩=some (ex,s)→(ex=.nrm∨ex=.ret)→resultA P s fn.results.toList=some r→Calls P f vs w (fun e w'=>∃v,e=.returned v∧RepT w' (okN ok w w') r v∧Below w.heap.size w w'):=fun ex s hex hx hres=>by
   refine callsIn_wide.1 (callsIn_of_wp_marks (F:=Fence.wide) (n:=0) hf hb trivial (wpIn_wide.2 (wp_mono (exec_sound hO hm lives fuel c _ ex s hex _ w hfit) fun e a' w' ⟨he,hf'⟩=>?_)))
   obtain ⟨L,h1,_,hrun,hlow⟩:=hf'
   have fin:LeavesInM Fence.wide 0 P fn a'.tmps (fun e w'=>∃v,e=.returned v∧RepT w' (okN ok w w') r v∧Below w.heap.size w w') a'.defers .returning w':=leaves_marks a'.defers w' h1.defers hlow.df fun W ht=>by
    have hK:∀o,isBook o=false→isBook o=false:=fun _ h=>h
    obtain ⟨v,h2,h3⟩:=resultA_sound (h1.turn hK ht (DfOk.nil _)) hres
    have hrun':=hrun.turn hK ht
    have hbel:Below w.heap.size w W:=by
     have hm:=hrun'.mod
     refine ⟨hm.os,hm.tape,hm.output,hm.size,fun k hk=>hm.block k hk fun o ⟨id,blk,v,h,_⟩=>by cases h⟩
    refine ⟨v,h2,v,rfl,h3.mono (fun _ _ _ _ h=>h) fun b o u h4 h5=>?_,hbel⟩
    rcases h4 with h4|h4|⟨z,h4⟩
    ·exact .inl h4
    ·exact .inr (.inl h4)
    ·refine .inr (.inr ⟨z,?_⟩)
     rw [hbel.cell (p:=⟨b,o,none⟩) (cell_lt h4)]
     exact h4
   rcases hx with rfl|rfl
   ·cases e with
    | normal=>exact fin
    | _=>exact he.elim
   ·cases e with
    | ret=>exact fin
    | _=>exact he.elim
  split at h
  ·rename_i s hex;exact key _ s hex (.inl rfl) h
  ·rename_i s hex;exact key _ s hex (.inr rfl) h
  ·cases h
 ·cases h
theorem initB_get:∀(l:List AB) (i x:Nat),(getU (initB l i) x).getD none=if i≤x then l[x-i]? else none
 | [],i,x=>by simp [initB,getU]
 | d::l,i,x=>by
   simp only [initB,getU]
   split
   ·rename_i e;subst e;simp
   ·rename_i e
    rw [initB_get l (i+1) x]
    by_cases h:i+1≤x
    ·rw [if_pos h,if_pos (by omega),show x-i=(x-(i+1))+1 by omega,List.getElem?_cons_succ]
    ·rw [if_neg h,if_neg (by omega)]
theorem outsA_get{b:Nat→Option AB}:∀{l:List Nat} {o:List (Nat × AB)},outsA b l=some o→∀i blk,lookB o i=some blk→b i=some blk∧i∈l
 | [],o,h,i,blk,hl=>by simp [outsA] at h;subst h;simp [lookB] at hl
 | x::l,o,h,i,blk,hl=>by
   simp only [outsA] at h
   split at h
   ·rename_i r hr
    split at h
    ·rename_i y hy
     cases h
     simp only [lookB] at hl
     split at hl
     ·rename_i e;subst e;cases hl;exact ⟨hy,List.mem_cons_self ..⟩
     ·exact ⟨(outsA_get hr i blk hl).1,List.mem_cons_of_mem _ (outsA_get hr i blk hl).2⟩
    ·cases h
     exact ⟨(outsA_get hr i blk hl).1,List.mem_cons_of_mem _ (outsA_get hr i blk hl).2⟩
   ·cases h
theorem BsRel.sub(h:BsRel E B L w)(hs:∀id blk,B' id=some blk→B id=some blk):(∀b o,okS E B L b o→okS E B' L b o)∧BsRel E B' L w:=by
 have hok:∀b o,okS E B L b o→okS E B' L b o:=fun b o hk=>⟨hk.1,fun id blk v h1 h2 h3=>hk.2 id blk v (hs id blk h1) h2 h3⟩
 exact ⟨hok,fun id blk h1=>(h.blk id blk (hs id blk h1)).keep (fun _ _ _ _=>rfl) (fun _ _ _ _ h=>h) (fun b o _ hk _=>hok b o hk) (fun _ _ h=>h),fun id blk v g h1=>h.ext id blk v g (hs id blk h1),h.fresh,h.limb,
  fun id id' blk blk' v v' g h1 h2=>h.inj id id' blk blk' v v' g (hs id blk h1) (hs id' blk' h2),h.glob.mono (fun _ _ _ _ h=>h) (fun b o _ hk _=>hok b o hk) fun _ _=>rfl⟩
theorem rv_one{s:St}(h:SRel E N s.t s.b L a w){fn:Func}{ds:List AV}(hd:rvL P s fn.results.toList=some ds):∃v,(results fn a.tmps).run P w=.ok v w∧Rep w (okS E s.b L) L (oneOf ds) v:=by
 obtain ⟨vs,h1,h2,h3⟩:=rvL_sound h hd
 rw [results_eq,Array.mapM_eq_mapM_toList]
 match ds,vs,h2,h3 with
 | [d],[u],_,h3=>
   obtain ⟨u',h4,h5⟩:=h3 0 d rfl
   simp at h4
   subst h4
   refine ⟨u,?_,h5⟩
   simp only [Sem.run_bind,Sem.run_map,h1,Result.andThen_ok,Sem.run_pure]
   rfl
 | [],[],_,h3=>
   refine ⟨.tuple #[],?_,.tup rfl fun i d hi=>by simp at hi⟩
   simp only [Sem.run_bind,Sem.run_map,h1,Result.andThen_ok,Sem.run_pure]
   rfl
 | d::d'::ds,u::u'::vs,h2,h3=>
   obtain ⟨h4,h5⟩:=RV.getD (R:=Rep w (okS E s.b L) L) (cs:=d::d'::ds) (vs:=u::u'::vs) ⟨h2,h3⟩
   refine ⟨.tuple (u::u'::vs).toArray,?_,.tup h4 h5⟩
   have hl:¬(u::u'::vs).toArray.size=1:=by simp
   simp only [Sem.run_bind,Sem.run_map,h1,Result.andThen_ok,Sem.run_pure,dif_neg hl]
theorem resultL_sound{s:St}{m:Nat}(h:SRel E N s.t s.b L a w){fn:Func}{keep:Bool}{r:AV}{o:List (Nat × AB)}(hr:resultL P s m keep fn.results.toList=some (r,o)):∃v,(results fn a.tmps).run P w=.ok v w∧BsRel E (lookB o) L w∧Rep w (okS E (lookB o) L) L r v∧∀id blk,lookB o id=some blk→s.b id=some blk:=by
 unfold resultL at hr
 split at hr
 ·rename_i ds hds
  obtain ⟨v,hv,hrep⟩:=rv_one h hds
  split at hr
  ·split at hr
   ·rename_i o' ho
    cases hr
    have hsub:∀i blk,lookB o i=some blk→s.b i=some blk:=fun i blk hl=>(outsA_get ho i blk hl).1
    obtain ⟨hok,hbs⟩:=h.bs.sub hsub
    exact ⟨v,hv,hbs,hrep.mono (fun _ _ _ _ h=>h) (fun b o _ hk _=>hok b o hk) (fun _ _ h=>h),hsub⟩
   ·cases hr
  ·split at hr
   ·rename_i r' up nx hres
    split at hr
    ·rename_i hup
     split at hr
     ·rename_i o' ho
      cases hr
      obtain ⟨d',fs,h1,h2⟩:=res_sound h.bs 3 _ _ _ hres
      simp only [Tr.run,Option.some.injEq,Prod.mk.injEq] at h1
      obtain ⟨rfl,rfl,_⟩:=h1
      have hT:=h2 v hrep _ (FrzOk.of h.bs fs)
      have hsub:∀i blk,lookB o i=some blk→s.b i=some blk:=fun i blk hl=>(outsA_get ho i blk hl).1
      obtain ⟨_,hbs⟩:=h.bs.sub hsub
      refine ⟨v,hv,hbs,.t (hT.mono (fun _ _ _ _ h=>h) fun b o' _ hk _=>⟨hk.1,fun id blk u h3 h4 h5=>?_⟩),hsub⟩
      have h6:id ∉ fs:=fun hm=>by
       have h7:=List.all_eq_true.1 hup (id,none) (List.mem_map.2 ⟨id,hm,rfl⟩)
       have h8:=(outsA_get ho id blk h3).2
       have h9:(deep s.b (List.range m)).contains id=true:=List.contains_iff_mem.2 h8
       dsimp only at h7
       rw [h9] at h7
       cases h7
      exact hk.2 id blk u (by rw [updB_none (by rw [getU_frz,if_neg h6])];exact hsub id blk h3) h4 h5
     ·cases hr
    ·cases hr
   ·cases hr
 ·cases hr
theorem conL_of{O:FuncId→Option Orc}(hO:OrcOk P O)(hm:MixOk P){f:FuncId}{fn:Func}{c:Code}(hf:P.funcs[f]?=some fn)(hb:fn.body=some c){lives:Nat→List Nat}{fuel:Nat}{keep:Bool}{args:List AV}{bin:List AB}{r:AV}{outs:List (Nat × AB)}(h:absL P O lives fuel fn.ntmps fn.results.toList c keep args bin=some (r,outs)):ConL P f bin args r outs:=by
 intro w E L vs hbs hn hvs
 unfold absL at h
 split at h
 ·rename_i hN
  have hle:=Nat.le_of_ble_eq_true hN
  have hsz:vs.size=args.length:=by have:=hvs.1;simpa using this
  have eb:(⟨initT args 0,initB bin 0,bin.length⟩:St).b=fun i=>bin[i]?:=by
   funext x
   show (getU (initB bin 0) x).getD none=_
   rw [initB_get]
   simp
  have hfit:Fits E bin.length fn.ntmps (fun i=>bin[i]?) L w ⟨initT args 0,initB bin 0,bin.length⟩ {tmps:=vs++Array.replicate (fn.ntmps-vs.size) undef,defers:=[]} w:=by
   refine ⟨L,⟨fun t=>?_,by rw [eb];exact hbs,by simp;omega,DfOk.nil _⟩,hn,by rw [eb];exact Run.refl,⟨fun i u _ hu=>hu,fun d hd=>by cases hd⟩⟩
   have e:(⟨initT args 0,initB bin 0,bin.length⟩:St).t t=(args[t]?).getD .any:=by
    simp only [St.t]
    rw [initT_get]
    simp
   rw [e,eb]
   cases ht:args[t]? with
   | none=>exact .t (.any _)
   | some d=>
     obtain ⟨u,h1,h2⟩:=hvs.2 t d ht
     have hlt:=(List.getElem?_eq_some_iff.1 h1).1
     have e2:(vs++Array.replicate (fn.ntmps-vs.size) undef).getD t undef=u:=by
      rw [Array.getD_eq_getD_getElem?,Array.getElem?_append_left (by simpa using hlt),←Array.getElem?_toList,h1];rfl
     rw [e2]
     exact h2
  have key:∀(ex:Ex) (s:St),exec P O bin.length fn.ntmps lives fuel c ⟨initT args 0,initB bin 0,bin.length⟩=some (ex,s)→(ex=.nrm∨ex=.ret)→resultL P s bin.length keep fn.results.toList=some (r,outs)→
    Calls P f vs w (fun e w'=>∃v L',e=.returned v∧(∀i u,i<bin.length→L i=some u→L' i=some u)∧BsRel E (lookB outs) L' w'∧Rep w' (okS E (lookB outs) L') L' r v∧Run (fun i=>bin[i]?) L (lookB outs) L' w w'):=fun ex s hex hx hres=>by
   refine callsIn_wide.1 (callsIn_of_wp_marks (F:=Fence.wide) (n:=0) hf hb trivial (wpIn_wide.2 (wp_mono (exec_sound hO hm lives fuel c _ ex s hex _ w hfit) fun e a' w' ⟨he,hf'⟩=>?_)))
   obtain ⟨L',h1,_,hrun,hlow⟩:=hf'
   have fin:LeavesInM Fence.wide 0 P fn a'.tmps (fun e w'=>∃v L',e=.returned v∧(∀i u,i<bin.length→L i=some u→L' i=some u)∧BsRel E (lookB outs) L' w'∧Rep w' (okS E (lookB outs) L') L' r v∧Run (fun i=>bin[i]?) L (lookB outs) L' w w') a'.defers .returning w':=leaves_marks a'.defers w' h1.defers hlow.df fun W ht=>by
    have hK:∀o,isBook o=false→isBook o=false:=fun _ h=>h
    obtain ⟨v,h2,h3,h4,h5⟩:=resultL_sound (h1.turn hK ht (DfOk.nil _)) hres
    have hrun':=hrun.turn hK ht
    exact ⟨v,h2,v,L',rfl,hlow.lk,h3,h4,⟨hrun'.mod,fun id blk u g k1 k2 k3 k4=>hrun'.own id blk u g (h5 id blk k1) k2 k3 k4⟩⟩
   rcases hx with rfl|rfl
   ·cases e with
    | normal=>exact fin
    | _=>exact he.elim
   ·cases e with
    | ret=>exact fin
    | _=>exact he.elim
  split at h
  ·rename_i s hex;exact key _ s hex (.inl rfl) h
  ·rename_i s hex;exact key _ s hex (.inr rfl) h
  ·cases h
 ·cases h
end
@[simp] theorem cellsOf_bool(b:Bool):AV.cellsOf (.lit (.bool b))=some [.lit (.bool b)]:=rfl
@[simp] theorem cellsOf_str(s:ByteArray):AV.cellsOf (.lit (.string s))=some [.lit (.string s)]:=rfl
@[simp] theorem cellsOf_slc(a:Option Addr)(n c:Nat):AV.cellsOf (.lit (.slice a n c))=some [.lit (.slice a n c)]:=rfl
@[simp] theorem cellsOf_ptr(a:Option Addr):AV.cellsOf (.lit (.pointer a))=some [.lit (.pointer a)]:=rfl
@[simp] theorem cellsOf_int(k:IntKind)(z:Int):AV.cellsOf (.lit (.int k z))=some [.lit (.int k z)]:=rfl
@[simp] theorem cellsOf_sl(k:Nat)(es:List (List AV)):AV.cellsOf (.sl k es)=some [(.sl k es)]:=rfl
@[simp] theorem cellsOf_mem(cs:List AV):AV.cellsOf (.mem cs)=some [(.mem cs)]:=rfl
@[simp] theorem cellsOf_clo(f:FuncId)(cs:List AV):AV.cellsOf (.clo f cs)=some [(.clo f cs)]:=rfl
@[simp] theorem cellsOf_own(b n:Nat):AV.cellsOf (.own b n)=some [(.own b n)]:=rfl
@[simp] theorem cellsOf_pt(b o:Nat):AV.cellsOf (.ptr b o)=some [(.ptr b o)]:=rfl
@[simp] theorem cellsOf_rpt(b k i j:Nat):AV.cellsOf (.rptr b k i j)=some [(.rptr b k i j)]:=rfl
@[simp] theorem cellsOf_agg(cs:List AV):AV.cellsOf (.agg cs)=some cs:=rfl
@[simp] theorem notU_bool(b:Bool):AV.notU (.lit (.bool b))=true:=rfl
@[simp] theorem notU_str(s:ByteArray):AV.notU (.lit (.string s))=true:=rfl
@[simp] theorem notU_slc(a:Option Addr)(n c:Nat):AV.notU (.lit (.slice a n c))=true:=rfl
@[simp] theorem notU_ptr(a:Option Addr):AV.notU (.lit (.pointer a))=true:=rfl
@[simp] theorem notU_i8(z:Int):AV.notU (.lit (.int .i8 z))=true:=rfl
@[simp] theorem notU_i16(z:Int):AV.notU (.lit (.int .i16 z))=true:=rfl
@[simp] theorem notU_i32(z:Int):AV.notU (.lit (.int .i32 z))=true:=rfl
@[simp] theorem notU_i64(z:Int):AV.notU (.lit (.int .i64 z))=true:=rfl
@[simp] theorem notU_u8(z:Int):AV.notU (.lit (.int .u8 z))=true:=rfl
@[simp] theorem notU_u16(z:Int):AV.notU (.lit (.int .u16 z))=true:=rfl
@[simp] theorem notU_u64(z:Int):AV.notU (.lit (.int .u64 z))=true:=rfl
@[simp] theorem notU_u32(z:Int):AV.notU (.lit (.int .u32 z))=false:=rfl
@[simp] theorem notU_sl(k:Nat)(es:List (List AV)):AV.notU (.sl k es)=true:=rfl
@[simp] theorem notU_mem(cs:List AV):AV.notU (.mem cs)=true:=rfl
@[simp] theorem notU_clo(f:FuncId)(cs:List AV):AV.notU (.clo f cs)=true:=rfl
@[simp] theorem notU_own(b n:Nat):AV.notU (.own b n)=true:=rfl
@[simp] theorem notU_pt(b o:Nat):AV.notU (.ptr b o)=true:=rfl
@[simp] theorem notU_rpt(b k i j:Nat):AV.notU (.rptr b k i j)=true:=rfl
@[simp] theorem bT_row(e:TypeId)(k:Nat)(es:List (List AV))(fz:Nat):AB.isT (.row e k es fz)=true:=rfl
@[simp] theorem bT_box(t:TypeId)(cs:List AV)(fz:Bool):AB.isT (.box t cs fz)=AV.allT cs:=rfl
@[simp] theorem bF_row(e:TypeId)(k:Nat)(es:List (List AV))(fz:Nat):AB.freeze (.row e k es fz)=.row e k es es.length:=rfl
@[simp] theorem bF_box(t:TypeId)(cs:List AV)(fz:Bool):AB.freeze (.box t cs fz)=.box t cs true:=rfl
@[simp] theorem bR_row(ρ:Nat→Option Nat)(e:TypeId)(k:Nat)(es:List (List AV))(fz:Nat):AB.ren ρ (.row e k es fz)=.row e k es fz:=rfl
@[simp] theorem bR_box(ρ:Nat→Option Nat)(t:TypeId)(cs:List AV)(fz:Bool):AB.ren ρ (.box t cs fz)=.box t (AV.renL ρ cs) fz:=rfl
@[simp] theorem cellsOf_mp(b:Nat):AV.cellsOf (.mp b)=some [.mp b]:=rfl
@[simp] theorem notU_mp(b:Nat):AV.notU (.mp b)=true:=rfl
@[simp] theorem bT_mp(es:List (ByteArray × Value)):AB.isT (.mp es)=true:=rfl
@[simp] theorem bF_mp(es:List (ByteArray × Value)):AB.freeze (.mp es)=.mp es:=rfl
@[simp] theorem bR_mp(ρ:Nat→Option Nat)(es:List (ByteArray × Value)):AB.ren ρ (.mp es)=.mp es:=rfl
@[simp] theorem resN_mp(n b:Nat)(k:AV→List Nat→Tr):resN n (.mp b) k=res n (.mp b) k:=rfl
@[simp] theorem nz_mp(b:Nat):AV.nz (.mp b)=(.mp b):=rfl
@[simp] theorem res_zero(d:AV)(k:AV→List Nat→Tr):res 0 d k=if d.isT then k d [] else .fail:=rfl
@[simp] theorem res_any(n:Nat)(k:AV→List Nat→Tr):res (n+1) .any k=k .any []:=rfl
@[simp] theorem res_lit(n:Nat)(v:Value)(k:AV→List Nat→Tr):res (n+1) (.lit v) k=k (.lit v) []:=rfl
@[simp] theorem res_sl(n:Nat)(kk:Nat)(es:List (List AV))(k:AV→List Nat→Tr):res (n+1) (.sl kk es) k=k (.sl kk es) []:=rfl
@[simp] theorem res_mem(n:Nat)(cs:List AV)(k:AV→List Nat→Tr):res (n+1) (.mem cs) k=k (.mem cs) []:=rfl
@[simp] theorem res_agg(n:Nat)(cs:List AV)(k:AV→List Nat→Tr):res (n+1) (.agg cs) k=resL (res n) cs fun cs' fs=>k (.agg cs') fs:=rfl
@[simp] theorem res_tup(n:Nat)(cs:List AV)(k:AV→List Nat→Tr):res (n+1) (.tup cs) k=resL (res n) cs fun cs' fs=>k (.tup cs') fs:=rfl
@[simp] theorem res_clo(n:Nat)(f:FuncId)(cs:List AV)(k:AV→List Nat→Tr):res (n+1) (.clo f cs) k=resL (res n) cs fun cs' fs=>k (.clo f cs') fs:=rfl
@[simp] theorem res_own(n b m:Nat)(k:AV→List Nat→Tr):res (n+1) (.own b m) k=.blk b fun x=>match x with
   | .row _ kk es _=>if es.length=m then k (.sl kk es) [b] else .fail
   | _=>.fail:=rfl
@[simp] theorem res_ptr(n b o:Nat)(k:AV→List Nat→Tr):res (n+1) (.ptr b o) k=.blk b fun x=>match x with
   | .box _ cs _=>resL (res n) cs fun cs' fs=>k (.mem (cs'.drop o)) (b::fs)
   | _=>.fail:=rfl
@[simp] theorem cellsOf_nl(k:Nat):AV.cellsOf (.nl k)=some [.nl k]:=rfl
@[simp] theorem notU_nl(k:Nat):AV.notU (.nl k)=true:=rfl
@[simp] theorem res_nl(n kk:Nat)(k:AV→List Nat→Tr):res (n+1) (.nl kk) k=k (.sl kk []) []:=rfl
@[simp] theorem resN_nl(n kk:Nat)(k:AV→List Nat→Tr):resN n (.nl kk) k=k (.nl kk) []:=rfl
@[simp] theorem nz_nl(k:Nat):AV.nz (.nl k)=.sl k []:=rfl
@[simp] theorem resN_lit(n:Nat)(v:Value)(k:AV→List Nat→Tr):resN n (.lit v) k=res n (.lit v) k:=rfl
@[simp] theorem nz_lit(v:Value):AV.nz (.lit v)=(.lit v):=rfl
@[simp] theorem resN_any(n:Nat)(k:AV→List Nat→Tr):resN n .any k=res n .any k:=rfl
@[simp] theorem nz_any:AV.nz .any=.any:=rfl
@[simp] theorem resN_agg(n:Nat)(cs:List AV)(k:AV→List Nat→Tr):resN n (.agg cs) k=res n (.agg cs) k:=rfl
@[simp] theorem nz_agg(cs:List AV):AV.nz (.agg cs)=(.agg cs):=rfl
@[simp] theorem resN_tup(n:Nat)(cs:List AV)(k:AV→List Nat→Tr):resN n (.tup cs) k=res n (.tup cs) k:=rfl
@[simp] theorem nz_tup(cs:List AV):AV.nz (.tup cs)=(.tup cs):=rfl
@[simp] theorem resN_sl(n:Nat)(kk:Nat)(es:List (List AV))(k:AV→List Nat→Tr):resN n (.sl kk es) k=res n (.sl kk es) k:=rfl
@[simp] theorem nz_sl(kk:Nat)(es:List (List AV)):AV.nz (.sl kk es)=(.sl kk es):=rfl
@[simp] theorem resN_mem(n:Nat)(cs:List AV)(k:AV→List Nat→Tr):resN n (.mem cs) k=res n (.mem cs) k:=rfl
@[simp] theorem nz_mem(cs:List AV):AV.nz (.mem cs)=(.mem cs):=rfl
@[simp] theorem resN_clo(n:Nat)(f:FuncId)(cs:List AV)(k:AV→List Nat→Tr):resN n (.clo f cs) k=res n (.clo f cs) k:=rfl
@[simp] theorem nz_clo(f:FuncId)(cs:List AV):AV.nz (.clo f cs)=(.clo f cs):=rfl
@[simp] theorem resN_own(n:Nat)(b m:Nat)(k:AV→List Nat→Tr):resN n (.own b m) k=res n (.own b m) k:=rfl
@[simp] theorem nz_own(b m:Nat):AV.nz (.own b m)=(.own b m):=rfl
@[simp] theorem resN_ptr(n:Nat)(b o:Nat)(k:AV→List Nat→Tr):resN n (.ptr b o) k=res n (.ptr b o) k:=rfl
@[simp] theorem nz_ptr(b o:Nat):AV.nz (.ptr b o)=(.ptr b o):=rfl
@[simp] theorem resN_rptr(n:Nat)(b kk i j:Nat)(k:AV→List Nat→Tr):resN n (.rptr b kk i j) k=res n (.rptr b kk i j) k:=rfl
@[simp] theorem nz_rptr(b kk i j:Nat):AV.nz (.rptr b kk i j)=(.rptr b kk i j):=rfl
def resA(r:AV→(AV→List Nat→Tr)→Tr):List AV→List AV→List Nat→(List AV→List Nat→Tr)→Tr
 | [],acc,fa,k=>k acc fa
 | c::cs,acc,fa,k=>r c fun c' f1=>resA r cs (acc++[c']) (fa++f1) k
theorem resA_eq(r:AV→(AV→List Nat→Tr)→Tr):∀(cs acc:List AV) (fa:List Nat) (k:List AV→List Nat→Tr),resA r cs acc fa k=resL r cs fun cs' fs=>k (acc++cs') (fa++fs)
 | [],acc,fa,k=>by simp [resA,resL]
 | c::cs,acc,fa,k=>by
   rw [resA,resL]
   congr 1
   funext c' f1
   rw [resA_eq r cs]
   simp [List.append_assoc]
@[simp] theorem resL_A(r:AV→(AV→List Nat→Tr)→Tr)(cs:List AV)(k:List AV→List Nat→Tr):resL r cs k=resA r cs [] [] k:=by rw [resA_eq];rfl
@[simp] theorem resA_nil(r:AV→(AV→List Nat→Tr)→Tr)(acc:List AV)(fa:List Nat)(k:List AV→List Nat→Tr):resA r [] acc fa k=k acc fa:=rfl
theorem resA_stay{r:AV→(AV→List Nat→Tr)→Tr}{c:AV}(h:∀k,r c k=k c [])(cs acc:List AV)(fa:List Nat)(k:List AV→List Nat→Tr):resA r (c::cs) acc fa k=resA r cs (acc++[c]) fa k:=by
 rw [resA,h,List.append_nil]
@[simp] theorem resA_lit(n:Nat)(v:Value)(cs acc:List AV)(fa:List Nat)(k:List AV→List Nat→Tr):resA (res n) ((.lit v)::cs) acc fa k=resA (res n) cs (acc++[(.lit v)]) fa k:=resA_stay (fun k=>by cases n <;>rfl) _ _ _ _
@[simp] theorem resAN_lit(n:Nat)(v:Value)(cs acc:List AV)(fa:List Nat)(k:List AV→List Nat→Tr):resA (resN n) ((.lit v)::cs) acc fa k=resA (resN n) cs (acc++[(.lit v)]) fa k:=resA_stay (fun k=>by cases n <;>rfl) _ _ _ _
@[simp] theorem resA_any(n:Nat)(cs acc:List AV)(fa:List Nat)(k:List AV→List Nat→Tr):resA (res n) (.any::cs) acc fa k=resA (res n) cs (acc++[.any]) fa k:=resA_stay (fun k=>by cases n <;>rfl) _ _ _ _
@[simp] theorem resAN_any(n:Nat)(cs acc:List AV)(fa:List Nat)(k:List AV→List Nat→Tr):resA (resN n) (.any::cs) acc fa k=resA (resN n) cs (acc++[.any]) fa k:=resA_stay (fun k=>by cases n <;>rfl) _ _ _ _
@[simp] theorem resA_sl(n:Nat)(kk:Nat)(es:List (List AV))(cs acc:List AV)(fa:List Nat)(k:List AV→List Nat→Tr):resA (res n) ((.sl kk es)::cs) acc fa k=resA (res n) cs (acc++[(.sl kk es)]) fa k:=resA_stay (fun k=>by cases n <;>rfl) _ _ _ _
@[simp] theorem resAN_sl(n:Nat)(kk:Nat)(es:List (List AV))(cs acc:List AV)(fa:List Nat)(k:List AV→List Nat→Tr):resA (resN n) ((.sl kk es)::cs) acc fa k=resA (resN n) cs (acc++[(.sl kk es)]) fa k:=resA_stay (fun k=>by cases n <;>rfl) _ _ _ _
@[simp] theorem resA_mem(n:Nat)(as:List AV)(cs acc:List AV)(fa:List Nat)(k:List AV→List Nat→Tr):resA (res n) ((.mem as)::cs) acc fa k=resA (res n) cs (acc++[(.mem as)]) fa k:=resA_stay (fun k=>by cases n <;>rfl) _ _ _ _
@[simp] theorem resAN_mem(n:Nat)(as:List AV)(cs acc:List AV)(fa:List Nat)(k:List AV→List Nat→Tr):resA (resN n) ((.mem as)::cs) acc fa k=resA (resN n) cs (acc++[(.mem as)]) fa k:=resA_stay (fun k=>by cases n <;>rfl) _ _ _ _
@[simp] theorem resA_nl(n kk:Nat)(cs acc:List AV)(fa:List Nat)(k:List AV→List Nat→Tr):resA (res (n+1)) (.nl kk::cs) acc fa k=resA (res (n+1)) cs (acc++[.sl kk []]) fa k:=by
  rw [resA,res_nl,List.append_nil]
@[simp] theorem resAN_nl(n kk:Nat)(cs acc:List AV)(fa:List Nat)(k:List AV→List Nat→Tr):resA (resN n) (.nl kk::cs) acc fa k=resA (resN n) cs (acc++[.nl kk]) fa k:=by
  rw [resA,resN_nl,List.append_nil]
@[simp] theorem resA_agg(n:Nat)(ds:List AV)(cs acc:List AV)(fa:List Nat)(k:List AV→List Nat→Tr):resA (res n) ((.agg ds)::cs) acc fa k=res n (.agg ds) fun c' f1=>resA (res n) cs (acc++[c']) (fa++f1) k:=rfl
@[simp] theorem resAN_agg(n:Nat)(ds:List AV)(cs acc:List AV)(fa:List Nat)(k:List AV→List Nat→Tr):resA (resN n) ((.agg ds)::cs) acc fa k=res n (.agg ds) fun c' f1=>resA (resN n) cs (acc++[c']) (fa++f1) k:=rfl
@[simp] theorem resA_tup(n:Nat)(ds:List AV)(cs acc:List AV)(fa:List Nat)(k:List AV→List Nat→Tr):resA (res n) ((.tup ds)::cs) acc fa k=res n (.tup ds) fun c' f1=>resA (res n) cs (acc++[c']) (fa++f1) k:=rfl
@[simp] theorem resAN_tup(n:Nat)(ds:List AV)(cs acc:List AV)(fa:List Nat)(k:List AV→List Nat→Tr):resA (resN n) ((.tup ds)::cs) acc fa k=res n (.tup ds) fun c' f1=>resA (resN n) cs (acc++[c']) (fa++f1) k:=rfl
@[simp] theorem resA_clo(n:Nat)(f:FuncId)(ds:List AV)(cs acc:List AV)(fa:List Nat)(k:List AV→List Nat→Tr):resA (res n) ((.clo f ds)::cs) acc fa k=res n (.clo f ds) fun c' f1=>resA (res n) cs (acc++[c']) (fa++f1) k:=rfl
@[simp] theorem resAN_clo(n:Nat)(f:FuncId)(ds:List AV)(cs acc:List AV)(fa:List Nat)(k:List AV→List Nat→Tr):resA (resN n) ((.clo f ds)::cs) acc fa k=res n (.clo f ds) fun c' f1=>resA (resN n) cs (acc++[c']) (fa++f1) k:=rfl
@[simp] theorem resA_own(n:Nat)(b m:Nat)(cs acc:List AV)(fa:List Nat)(k:List AV→List Nat→Tr):resA (res n) ((.own b m)::cs) acc fa k=res n (.own b m) fun c' f1=>resA (res n) cs (acc++[c']) (fa++f1) k:=rfl
@[simp] theorem resAN_own(n:Nat)(b m:Nat)(cs acc:List AV)(fa:List Nat)(k:List AV→List Nat→Tr):resA (resN n) ((.own b m)::cs) acc fa k=res n (.own b m) fun c' f1=>resA (resN n) cs (acc++[c']) (fa++f1) k:=rfl
@[simp] theorem resA_ptr(n:Nat)(b o:Nat)(cs acc:List AV)(fa:List Nat)(k:List AV→List Nat→Tr):resA (res n) ((.ptr b o)::cs) acc fa k=res n (.ptr b o) fun c' f1=>resA (res n) cs (acc++[c']) (fa++f1) k:=rfl
@[simp] theorem resAN_ptr(n:Nat)(b o:Nat)(cs acc:List AV)(fa:List Nat)(k:List AV→List Nat→Tr):resA (resN n) ((.ptr b o)::cs) acc fa k=res n (.ptr b o) fun c' f1=>resA (resN n) cs (acc++[c']) (fa++f1) k:=rfl
@[simp] theorem okEls_nil(k:Nat):okEls k []=true:=rfl
@[simp] theorem okEls_cons(k:Nat)(e:List AV)(es:List (List AV)):okEls k (e::es)=(decide (e.length=k) && AV.allT e && AV.allNotU e && okEls k es):=rfl
@[simp] theorem okEls_app(k:Nat)(es fs:List (List AV)):okEls k (es++fs)=(okEls k es && okEls k fs):=by simp [okEls]
theorem okEls_map{α:Type}{k:Nat}{f:α→List AV}(h:∀x,(decide ((f x).length=k) && AV.allT (f x) && AV.allNotU (f x))=true)(l:List α):okEls k (l.map f)=true:=by
 unfold okEls
 rw [List.all_map,List.all_eq_true]
 exact fun x _=>h x
theorem bytesL_els(s:ByteArray)(l:List (List AV)):bytesL (strEls s++l)=(bytesL l).map (s.data.toList++·):=by
 rw [strEls]
 induction s.data.toList with
 | nil=>simp
 | cons b bs ih=>
   have hb:0≤(b.toNat:Int)∧(b.toNat:Int)<256:=⟨by omega,by have:=b.toNat_lt;omega⟩
   have e:UInt8.ofNat (b.toNat:Int).toNat=b:=by rw [Int.toNat_natCast];exact UInt8.ofNat_toNat
   rw [List.map_cons,List.cons_append,bytesL,if_pos hb,ih,e,Option.map_map]
   rfl
@[simp] theorem strOf_els(s:ByteArray):strOf (strEls s)=some s:=by
  have h:=bytesL_els s []
  rw [List.append_nil,bytesL] at h
  rw [strOf,h]
  simp
@[simp] theorem strEls_app(a b:ByteArray):strEls a++strEls b=strEls (a++b):=by
  simp [strEls]
@[simp] theorem strEls_length(s:ByteArray):(strEls s).length=s.size:=strEls_len s
def loopsOf:Code→List Code
 | .loop c=>[c]
 | .seq a b=>loopsOf a++loopsOf b
 | .cond _ a b=>loopsOf a++loopsOf b
 | .block _ c=>loopsOf c
 | .scope c=>loopsOf c
 | _=>[]
def lv(l:List (Nat × List Nat))(r:Nat):List Nat:=(l.lookup r).getD []
def big:Nat:=4294967296
noncomputable def loopX(P:Program)(O:FuncId→Option Orc)(m N:Nat)(lives:Nat→List Nat)(fuel r:Nat)(C:Code)(s:St):Option (Ex × St):=
 match loopS m (exec P O m N lives fuel C) (lives r) fuel s with
 | some (ex,s')=>(match gc m (lives (outOf r)) s' with|some s2=>some (ex,s2)|none=>none)
 | none=>none
theorem exec_loop(P:Program)(O:FuncId→Option Orc)(m N:Nat)(lives:Nat→List Nat)(fuel:Nat)(C:Code)(s:St):exec P O m N lives fuel (.loop C) s=loopX P O m N lives fuel (regOf C) C s:=rfl
def Leave(m:Nat)(step:St→Option (Ex × St))(live:List Nat)(s:St)(ex:Ex)(t:St):Prop:=∃s',step s=some (ex,s')∧gc m live s'=some t
def Cont(m:Nat)(step:St→Option (Ex × St))(live:List Nat)(s t:St):Prop:=∃s',step s=some (.nrm,s')∧gc m live s'=some t
def foldE{α β γ:Type}(f:Nat→β→α→Except γ β):Nat→β→List α→Except γ β
 | _,b,[]=>.ok b
 | i,b,x::R=>match f i b x with
   | .ok b'=>foldE f (i+1) b' R
   | .error c=>.error c
def foldI{α β:Type}(f:Nat→β→α→β):Nat→β→List α→β
 | _,b,[]=>b
 | i,b,x::R=>foldI f (i+1) (f i b x) R
section
variable{α β γ:Type}{m:Nat}{live:List Nat}{step:St→Option (Ex × St)}{L:List α}{enc:Nat→β→St}
end
section
variable {α β γ : Type} {P : Program} {O : FuncId → Option Orc} {m N : Nat} {lives : Nat → List Nat} {fuel r : Nat} {C : Code} {s : St} {L : List α} {enc : Nat → β → St} {Inv : Nat → β → Prop} {exN : Ex} {out : β → St}
def endE(x:Except γ β)(exN:Ex)(out:β→St)(exE:Ex)(outE:γ→St):Ex × St:=
 match x with
 | .ok b=>(exN,out b)
 | .error c=>(exE,outE c)
@[simp] theorem endE_ok(b:β)(exN:Ex)(out:β→St)(exE:Ex)(outE:γ→St):endE (.ok b) exN out exE outE=(exN,out b):=rfl
@[simp] theorem endE_error(c:γ)(exN:Ex)(out:β→St)(exE:Ex)(outE:γ→St):endE (.error c) exN out exE outE=(exE,outE c):=rfl
end
def bodyOf(f:Func):Code:=f.body.getD .skip
attribute [simp] isC nilEq errEq frzClo flatNil ownLit slEq ownBox oneCell absL absFn resultL oneOf outsA initB opsS opS drawS opsF footS depsLt pairsOk masks maskOf clashAll Foot.clash optIn meet guardSlot Tr.asks dstOk guardA aop nilRow Tr.run rd gval gtab ofV initT findT St.t St.b putS getU AV.allNotU rdL ldT ret grab stT splice frzL callT linT linR linC closeB addL AB.refsL renOuts inner deep getBs upIn upNew lookB bump outN AV.ren AV.renL binV boolV unV opnd resultA rvL rvA AV.isT AV.allT Nat.blt Nat.ble ptrAdd Region.binds List.range List.range.loop List.range' Nat.testBit_eq_decide_div_mod_eq ixT ixV idx convT cvB cvS apT asSl slT luT muT optI mkT elems minmax buildT buildST cellsL fillA posIn nodupL gcB gcT AV.refs AV.refsL inRefs reach gc gcC promo promo1 slotsL isHint ph isNil outOf undef regOf
attribute [simp] exec.eq_1 exec.eq_2 exec.eq_3 exec.eq_4 exec.eq_5 exec.eq_6 exec.eq_8 exec.eq_9 exec.eq_10 exec.eq_11
attribute [simp] bodyOf exec_loop
@[simp] theorem lenT_str(P:Program)(t:TypeId)(s:ByteArray):lenT P t (.lit (.string s))=if strT P t=true then some s.size else none:=rfl
@[simp] theorem lenT_sl(P:Program)(t:TypeId)(k:Nat)(es:List (List AV)):lenT P t (.sl k es)=if (elOf P t).isSome=true then some es.length else none:=rfl
@[simp] theorem lenT_own(P:Program)(t:TypeId)(b n:Nat):lenT P t (.own b n)=if (elOf P t).isSome=true then some n else none:=rfl
@[simp] theorem lenT_nl(P:Program)(t:TypeId)(k:Nat):lenT P t (.nl k)=if (elOf P t).isSome=true then some 0 else none:=rfl
@[simp] theorem lenT_nil(P:Program)(t:TypeId):lenT P t (.lit (.slice none 0 0))=if (elOf P t).isSome=true then some 0 else none:=rfl
end Go.Proofs.YtefdjbknmfeooaaGreatDoor
