import Derived.Test.YtdaonnnlgfhlaaaGreatDoorGF12
import Derived.Orders
import Derived.Scope
import Derived.LoopN
set_option linter.all false
namespace Go.Proofs.YtdaonnnlgfhlaaaGreatDoor
section
open Go.RowKit
structure St where
 T:List (Nat × AV)
 B:List (Nat × Option AB)
 nx:Nat
def ZaL:List (Nat × AV)→Nat→AV
 | [],_=>.any
 | (y,v)::l,x=>if x=y then v else ZaL l x
def St.t(s:St)(x:Nat):AV:=ZaL s.T x
def St.b(s:St)(x:Nat):Option AB:=(Zy s.B x).getD none
def ZrT(T:List (Nat × AV))(dst:Option Tmp)(v:AV):List (Nat × AV):=
 match dst with
 | some d=>(d,v)::T
 | none=>T
def VO(ops:Array Oper)(g:Option (Nat × Bool))(T:Nat→AV):Option Bool:=
 match g with
 | none=>some true
 | some (j,want)=>match (ops[j]?).bind (·.dst) with
   | some t=>(match T t with
     | .lit v=>(match v with
       | .bool b=>some (b==want)
       | _=>some false)
     | _=>none)
   | none=>none
def ZjF(N:Nat):Option Tmp→Bool
 | some t=>Nat.blt t N
 | none=>true
def opS(P:Program)(O:FuncId→Option Orc)(N:Nat)(ops:Array Oper)(o:Oper)(s:St):Option St:=
 match ZjF N o.dst with
 | true=>(match VO ops o.guard s.t with
   | some true=>(match (aop P O o s.nx).run s.t s.b with
     | some (v,up,nx)=>(match Nat.ble s.nx nx with
       | true=>some ⟨ZrT s.T o.dst v,up++s.B,nx⟩
       | false=>none)
     | none=>none)
   | some false=>some ⟨ZrT s.T o.dst (.lit undef),s.B,s.nx⟩
   | none=>none)
 | false=>none
def Zkx(P:Program)(O:FuncId→Option Orc)(N:Nat)(ops:Array Oper):List Oper→St→Option St
 | [],s=>some s
 | o::l,s=>match opS P O N ops o s with
   | some s'=>Zkx P O N ops l s'
   | none=>none
structure Foot where
 rs:List Nat
 rb:List Nat
 wb:List Nat
 dst:Option Nat
def XC(ops:Array Oper)(g:Option (Nat × Bool)):List Nat:=
 match g with
 | none=>[]
 | some (j,_)=>match (ops[j]?).bind (·.dst) with
   | some t=>[t]
   | none=>[]
def Zc8(P:Program)(O:FuncId→Option Orc)(ops:Array Oper)(o:Oper)(s:St):Foot:=
 match VO ops o.guard s.t with
 | some true=>(match (aop P O o s.nx).run s.t s.b with
   | some (_,up,_)=>⟨XC ops o.guard++((aop P O o s.nx).asks s.t s.b).1,((aop P O o s.nx).asks s.t s.b).2,up.map (·.1),o.dst⟩
   | none=>⟨[],[],[],none⟩)
 | _=>⟨XC ops o.guard,[],[],o.dst⟩
def Zka(P:Program)(O:FuncId→Option Orc)(N:Nat)(ops:Array Oper):List Oper→St→Option (St × List Foot)
 | [],s=>some (s,[])
 | o::l,s=>match opS P O N ops o s with
   | some s'=>(match Zka P O N ops l s' with
     | some (s2,fs)=>some (s2,Zc8 P O ops o s::fs)
     | none=>none)
   | none=>none
def U3(acc:List Nat):List Edge→Nat
 | []=>0
 | e::l=>if Region.binds .any e=true then (2 ^ e.on ||| acc.getD e.on 0) ||| U3 acc l else U3 acc l
def Zd0:List Oper→List Nat→List Nat
 | [],acc=>acc
 | o::l,acc=>Zd0 l (acc++[U3 acc o.after.toList])
def Zda:List Oper→Nat→Bool
 | [],_=>true
 | o::l,i=>(o.after.toList.all fun e=>!Region.binds .any e || Nat.blt e.on i) && Zda l (i+1)
def ZeO(a b:List Nat):Bool:=a.any fun x=>b.contains x
def ZbL(d:Option Nat)(l:List Nat):Bool:=match d with|some t=>l.contains t|none=>false
def Foot.clash(a b:Foot):Bool:=
 ZbL a.dst b.rs || ZbL b.dst a.rs || ZbL a.dst b.dst.toList || ZeO a.wb b.rb || ZeO a.wb b.wb || ZeO b.wb a.rb
def KA(f:Foot)(m:Nat):List Foot→Nat→Bool
 | [],_=>true
 | g::l,i=>(!(g.clash f) || m.testBit i) && KA f m l (i+1)
def ZaT:List Foot→List Foot→List Nat→Bool
 | _,[],_=>true
 | pre,f::l,ms=>KA f (ms.getD pre.length 0) pre 0 && ZaT (pre++[f]) l ms
def ZiK(P:Program)(O:FuncId→Option Orc)(N:Nat)(ops:Array Oper)(s:St):Option St:=
 match Zka P O N ops ops.toList s with
 | some (s',fs)=>if Zda ops.toList 0=true∧ZaT [] fs (Zd0 ops.toList [])=true then some s' else none
 | none=>none
inductive Ex where
 | nrm
 | exit (id:Nat)
 | ret
def Ui(B:Nat→Option AB):Nat→List Nat→List Nat→List Nat
 | 0,_,acc=>acc
 | _+1,[],acc=>acc
 | f+1,x::l,acc=>if acc.contains x then Ui B f l acc else match B x with
   | some (.box _ cs _)=>Ui B f (AV.refsL cs++l) (acc++[x])
   | some (.row ..)=>Ui B f l (acc++[x])
   | some (.mp _)=>Ui B f l (acc++[x])
   | none=>Ui B f l acc
def gcB(b:Nat→Option AB)(ρ:Nat→Option Nat):List Nat→Nat→List (Nat × Option AB)
 | [],_=>[]
 | x::l,i=>(i,(b x).map (AB.ren ρ))::gcB b ρ l (i+1)
def gcT(t:Nat→AV)(ρ:Nat→Option Nat):List Nat→List (Nat × AV)
 | []=>[]
 | x::l=>(x,(t x).ren ρ)::gcT t ρ l
def ZcZ(b:Nat→Option AB):Nat→List Nat
 | 0=>[]
 | m+1=>(match b m with|some (.box _ cs _)=>AV.refsL cs|_=>[])++ZcZ b m
def gcC(m:Nat)(live:List Nat)(s:St):Option St:=
 let keep:=Ui s.b 64 (AV.refsL (live.map s.t)++ZcZ s.b m) (List.range m)
 match KF keep with
 | true=>some ⟨gcT s.t (Qe keep) live,gcB s.b (Qe keep) keep 0,keep.length⟩
 | false=>none
def ph(slot cell e k:Nat):Nat:=slot+4096*(1+cell+64*(k+64*e))
def Zh7(h:Nat):Bool:=Nat.ble 4096 h
def Zfi(h:Nat)(s:St):St:=
 match s.t (h % 4096) with
 | .ptr b o=>(match s.b b with
   | some (.box t cs false)=>(match cs[o+(h / 4096-1) % 64]? with
     | some (.nl kk)=>(match (h / 4096-1) / 64 % 64 with
       | 0=>⟨s.T,(b,some (.box t (cs.set (o+(h / 4096-1) % 64) (.sl kk [])) false))::s.B,s.nx⟩
       | k+1=>⟨s.T,(b,some (.box t (cs.set (o+(h / 4096-1) % 64) (.own s.nx 0)) false))::(s.nx,some (.row ((h / 4096-1) / 4096) (k+1) [] 0))::s.B,s.nx+1⟩)
     | _=>s)
   | _=>s)
 | _=>s
def ZdI:List Nat→St→St
 | [],s=>s
 | h::l,s=>match Zh7 h with
   | true=>ZdI l (Zfi h s)
   | false=>ZdI l s
def Zeu:List Nat→List Nat
 | []=>[]
 | h::l=>match Zh7 h with
   | true=>Zeu l
   | false=>h::Zeu l
def gc(m:Nat)(live:List Nat)(s:St):Option St:=gcC m (Zeu live) (ZdI live s)
def ZbJ:Code→Nat
 | .region id _ _=>id
 | .seq a _=>ZbJ a
 | .block _ c=>ZbJ c
 | .loop c=>ZbJ c
 | .scope c=>ZbJ c
 | _=>0
def Zo(r:Nat):Nat:=r+1000000
def Ztf(x:Operand)(T:Nat→AV):AV:=
 match x with
 | .tmp t=>T t
 | .const v=>ofV v
 | _=>.any
def UZ(m:Nat)(step:St→Option (Ex × St))(live:List Nat):Nat→St→Option (Ex × St)
 | 0,_=>none
 | n+1,s=>match gc m live s with
   | some s1=>(match step s1 with
     | some (.nrm,s')=>UZ m step live n s'
     | r=>r)
   | none=>none
def exec(P:Program)(O:FuncId→Option Orc)(m N:Nat)(lives:Nat→List Nat)(fuel:Nat):Code→St→Option (Ex × St)
 | .skip,s=>some (.nrm,s)
 | .region _ ops d,s=>match d with
   | false=>(match Zkx P O N ops ops.toList s with|some s'=>some (.nrm,s')|none=>none)
   | true=>(match ZiK P O N ops s with|some s'=>some (.nrm,s')|none=>none)
 | .seq x y,s=>match exec P O m N lives fuel x s with
   | some (.nrm,s')=>exec P O m N lives fuel y s'
   | r=>r
 | .cond c x y,s=>match Ztf c s.t with
   | .lit (.bool true)=>exec P O m N lives fuel x s
   | .lit (.bool false)=>exec P O m N lives fuel y s
   | _=>none
 | .block id c,s=>match exec P O m N lives fuel c s with
   | some (.exit i,s')=>if i=id then some (.nrm,s') else some (.exit i,s')
   | r=>r
 | .loop c,s=>match UZ m (exec P O m N lives fuel c) (lives (ZbJ c)) fuel s with
   | some (ex,s')=>(match gc m (lives (Zo (ZbJ c))) s' with|some s2=>some (ex,s2)|none=>none)
   | none=>none
 | .exit id,s=>some (.exit id,s)
 | .ret,s=>some (.ret,s)
 | .label _,s=>some (.nrm,s)
 | .scope c,s=>exec P O m N lives fuel c s
 | _,_=>none
def rvA(P:Program)(s:St):ResultVar→Option AV
 | .tmp t=>some (s.t t)
 | .cell a t=>match QE P t with
   | some (g,n)=>(match (ldT g n (s.t a) s.nx).run s.t s.b with|some (v,_,_)=>some v|none=>none)
   | none=>none
def rvL(P:Program)(s:St):List ResultVar→Option (List AV)
 | []=>some []
 | r::l=>match rvA P s r,rvL P s l with
   | some d,some ds=>some (d::ds)
   | _,_=>none
def KN(P:Program)(s:St)(rs:List ResultVar):Option AV:=
 match rvL P s rs with
 | some [d]=>(match (res 3 d fun d _=>.done d [] 0).run s.t s.b with|some (v,_,_)=>some v|none=>none)
 | some ds=>(match (res 3 (.tup ds) fun d _=>.done d [] 0).run s.t s.b with|some (v,_,_)=>some v|none=>none)
 | none=>none
def Vy:List AV→Nat→List (Nat × AV)
 | [],_=>[]
 | d::l,i=>(i,d)::Vy l (i+1)
def Ky:List AB→Nat→List (Nat × Option AB)
 | [],_=>[]
 | b::l,i=>(i,some b)::Ky l (i+1)
def ZiT(P:Program)(O:FuncId→Option Orc)(lives:Nat→List Nat)(fuel N:Nat)(rs:List ResultVar)(c:Code)(args:List AV):Option AV:=
 match Nat.ble args.length N with
 | true=>(match exec P O 0 N lives fuel c ⟨Vy args 0,[],0⟩ with
   | some (.nrm,s)=>KN P s rs
   | some (.ret,s)=>KN P s rs
   | _=>none)
 | false=>none
def Zdb(b:Nat→Option AB):List Nat→Option (List (Nat × AB))
 | []=>some []
 | i::l=>match Zdb b l with
   | some r=>(match b i with
     | some blk=>some ((i,blk)::r)
     | none=>some r)
   | none=>none
def Jr(b:Nat→Option AB):List Nat→List Nat
 | []=>[]
 | i::l=>match b i with
   | some (.box _ cs _)=>AV.refsL cs++Jr b l
   | some (.row ..)=>Jr b l
   | some (.mp _)=>Jr b l
   | none=>Jr b l
def ZnB(b:Nat→Option AB)(l:List Nat):List Nat:=Zgr [] (l++(Jr b l++Jr b (Jr b l)))
def ZfD:List AV→AV
 | [d]=>d
 | ds=>.tup ds
def Jd(P:Program)(s:St)(m:Nat)(keep:Bool)(rs:List ResultVar):Option (AV × List (Nat × AB)):=
 match rvL P s rs with
 | some ds=>(match keep with
   | true=>(match Zdb s.b (ZnB s.b (List.range m++AV.refs (ZfD ds))) with
     | some o=>some (ZfD ds,o)
     | none=>none)
   | false=>(match (res 3 (ZfD ds) fun d fs=>.done d (fs.map fun b=>(b,none)) 0).run s.t s.b with
     | some (r,up,_)=>(match up.all (fun p=>!(ZnB s.b (List.range m)).contains p.1) with
       | true=>(match Zdb s.b (ZnB s.b (List.range m)) with
         | some o=>some (r,o)
         | none=>none)
       | false=>none)
     | none=>none))
 | none=>none
def ZsT(P:Program)(O:FuncId→Option Orc)(lives:Nat→List Nat)(fuel N:Nat)(rs:List ResultVar)(c:Code)(keep:Bool)(args:List AV)(bin:List AB):Option (AV × List (Nat × AB)):=
 match Nat.ble args.length N with
 | true=>(match exec P O bin.length N lives fuel c ⟨Vy args 0,Ky bin 0,bin.length⟩ with
   | some (.nrm,s)=>Jd P s bin.length keep rs
   | some (.ret,s)=>Jd P s bin.length keep rs
   | _=>none)
 | false=>none
end
section
open Go.RowKit
section
variable{P:Program}{E:Nat→Nat→Prop}{w w' w1:World}{m N:Nat}{T:Nat→AV}{B B' B1:Nat→Option AB}{L L' L1:Nat→Option Value}{a:Act}{up:List (Nat × Option AB)}{ok:Nat→Nat→Prop}
theorem Vw(s:St)(up:List (Nat × Option AB))(T:List (Nat × AV))(nx:Nat):(⟨T,up++s.B,nx⟩:St).b=ZN s.b up:=by
 funext x
 simp only [St.b,ZN]
 rw [VG]
 cases Zy up x <;>rfl
theorem ZiZ(s:St)(dst:Option Tmp)(v:AV)(B:List (Nat × Option AB))(nx:Nat):(⟨ZrT s.T dst v,B,nx⟩:St).t=VB s.t dst v:=by
 funext x
 cases dst <;>rfl
theorem Run.refl:Run B L B L w w:=⟨Mod.refl _ _,fun id blk v g h1 h2 h3 _=>⟨id,blk,v,h1,h2,h3,fun _ h=>h⟩⟩
theorem Run.trans(h:Run B L B1 L1 w w1)(k:Run B1 L1 B' L' w1 w'):Run B L B' L' w w':=by
 refine ⟨?_,fun id blk v g h1 h2 h3 h4=>?_⟩
 ·refine (h.mod.trans k.mod).mono fun g o hg hm=>?_
  rcases hm with hm|⟨id,blk,v,h1,h2,h3,h4⟩
  ·exact hm
  ·obtain ⟨id0,blk0,v0,h5,h6,h7,h8⟩:=h.own id blk v g h1 h2 h3 hg
   exact ⟨id0,blk0,v0,h5,h6,h7,fun h9=>h4 (h8 o h9)⟩
 ·obtain ⟨id1,blk1,v1,h5,h6,h7,h8⟩:=k.own id blk v g h1 h2 h3 (Nat.lt_of_lt_of_le h4 h.mod.size)
  obtain ⟨id0,blk0,v0,h9,h10,h11,h12⟩:=h.own id1 blk1 v1 g h5 h6 h7 h4
  exact ⟨id0,blk0,v0,h9,h10,h11,fun o h=>h8 o (h12 o h)⟩
theorem Aft.run(h:Aft E B L B' L' w w'):Run B L B' L' w w':=⟨h.mod,h.own⟩
def VD(E:Nat→Nat→Prop)(m N:Nat)(B0:Nat→Option AB)(L0:Nat→Option Value)(w0:World)(s:St)(a:Act)(w:World):Prop:=
 ∃L,SRel E N s.t s.b L a w∧(∀id,s.nx≤id→L id=none)∧Run B0 L0 s.b L w0 w∧∀i u,i<m→L0 i=some u→L i=some u
theorem UR(h:SRel E N T B L a w){ops:Array Oper}{o:Oper}{b:Bool}(hg:VO ops o.guard T=some b):Region.wanted o (yielded ops a.tmps)=b:=by
 unfold VO at hg
 unfold Region.wanted
 split at hg
 ·rename_i hn
  cases hg
  rw [hn]
 ·rename_i j want hn
  rw [hn]
  dsimp only
  split at hg
  ·rename_i t ht
   split at hg
   ·rename_i v hc
    have h1:=h.slots t
    rw [hc] at h1
    have h2:=ZU h1
    split at hg
    ·rename_i c
     cases hg
     have h3:a.tmps[t]?=some (.bool c):=by
      rw [Array.getD_eq_getD_getElem?] at h2
      cases hx:a.tmps[t]? with
      | none=>rw [hx] at h2;cases h2
      | some u=>rw [hx] at h2;simp at h2;rw [h2]
     have h4:yielded ops a.tmps j=some c:=by
      unfold yielded
      rw [ht,Option.bind_some,h3]
     rw [h4]
     cases c <;>cases want <;>rfl
    ·rename_i hnb
     cases hg
     have h4:yielded ops a.tmps j=none:=by
      unfold yielded
      rw [ht,Option.bind_some]
      rw [Array.getD_eq_getD_getElem?] at h2
      cases hx:a.tmps[t]? with
      | none=>rfl
      | some u=>
        rw [hx] at h2
        have h2':u=v:=h2
        subst h2'
        cases u with
        | bool c=>exact absurd rfl (hnb c)
        | _=>rfl
     rw [h4]
     cases want <;>rfl
   ·cases hg
  ·cases hg
theorem Zi9(h:SRel E N T B L a w){dst:Option Tmp}(hd:∀t,dst=some t→t<N)(v:Value):SRel E N (VB T dst (.lit v)) B L (a.put dst v) w:=h.aft (Aft.refl h.bs) (.t (.lit _)) hd
theorem ZaQ{N:Nat}{dst:Option Tmp}(h:ZjF N dst=true):∀t,dst=some t→t<N:=fun t ht=>by
 subst ht
 exact Nat.le_of_ble_eq_true h
theorem ZlM{O:FuncId→Option Orc}(hO:OrcOk P O){ops:Array Oper}{o:Oper}{s s':St}(hs:opS P O N ops o s=some s'){B0:Nat→Option AB}{L0:Nat→Option Value}{w0:World}(h:VD E m N B0 L0 w0 s a w){K:Act→World→Prop}{Q:Exit→Act→World→Prop}(hK:∀a' w',VD E m N B0 L0 w0 s' a' w'→K a' w'):if Region.wanted o (yielded ops a.tmps)=true then o.wp P a w K Q else K (a.put o.dst undef) w:=by
 obtain ⟨L,h1,h2,h3,hm⟩:=h
 unfold opS at hs
 split at hs
 ·rename_i hd
  split at hs
  ·rename_i hg
   rw [if_pos (UR h1 hg)]
   split at hs
   ·rename_i v up nx hr
    split at hs
    ·rename_i hn
     cases hs
     have hle:=Nat.le_of_ble_eq_true hn
     refine ZdM hO h1 hr (fun id hid _=>h2 id hid) fun v' w' L' hA hv hnew=>hK _ _ ⟨L',?_,fun id hid=>?_,?_,fun i u hi hu=>hA.lk _ _ (hm i u hi hu)⟩
     ·rw [ZiZ,Vw]
      exact h1.aft hA hv (ZaQ hd)
     ·cases hl:L' id with
      | none=>rfl
      | some u=>
        dsimp only at hid
        have:=hnew id (h2 id (by omega)) (by rw [hl];simp)
        omega
     ·rw [Vw]
      exact h3.trans hA.run
    ·cases hs
   ·cases hs
  ·rename_i hg
   cases hs
   rw [if_neg (by rw [UR h1 hg];simp)]
   refine hK _ _ ⟨L,?_,h2,h3,hm⟩
   rw [ZiZ]
   exact Zi9 h1 (ZaQ hd) _
  ·cases hs
 ·cases hs
theorem Zc1{O:FuncId→Option Orc}(hO:OrcOk P O){ops:Array Oper}{B0:Nat→Option AB}{L0:Nat→Option Value}{w0:World}{Q:Exit→Act→World→Prop}:∀(l:List Oper) (s s':St),Zkx P O N ops l s=some s'→
  (∀a' w',VD E m N B0 L0 w0 s' a' w'→Q .normal a' w')→∀a w,VD E m N B0 L0 w0 s a w→wpList P ops Q l a w
 | [],s,s',hs,hQ,a,w,h=>by
   simp only [Zkx,Option.some.injEq] at hs
   subst hs
   exact hQ a w h
 | o::l,s,s',hs,hQ,a,w,h=>by
   simp only [Zkx] at hs
   split at hs
   ·rename_i s1 h1
    have:=ZlM (P:=P) (K:=wpList P ops Q l) (Q:=Q) hO h1 h fun a' w' hf=>Zc1 hO l s1 s' hs hQ a' w' hf
    unfold wpList
    split
    ·rename_i hw
     rw [if_pos hw] at this
     exact .inl this
    ·rename_i hw
     rw [if_neg hw] at this
     exact this
   ·cases hs
theorem ZiF(b:Nat→Option AB)(ρ:Nat→Option Nat):∀(l:List Nat) (i0 x:Nat),(Zy (gcB b ρ l i0) x).getD none=if i0≤x then (l[x-i0]?).bind fun y=>(b y).map (AB.ren ρ) else none
 | [],i0,x=>by simp [gcB,Zy]
 | y::l,i0,x=>by
   simp only [gcB,Zy]
   split
   ·rename_i e
    subst e
    simp
   ·rename_i e
    rw [ZiF b ρ l (i0+1) x]
    by_cases h:i0+1≤x
    ·rw [if_pos h,if_pos (by omega),show x-i0=(x-(i0+1))+1 by omega,List.getElem?_cons_succ]
    ·rw [if_neg h,if_neg (by omega)]
theorem Zjq(t:Nat→AV)(ρ:Nat→Option Nat):∀(l:List Nat) (x:Nat),ZaL (gcT t ρ l) x=.any∨ZaL (gcT t ρ l) x=(t x).ren ρ
 | [],x=>.inl rfl
 | y::l,x=>by
   simp only [gcT,ZaL]
   split
   ·rename_i e;subst e;exact .inr rfl
   ·exact Zjq t ρ l x
def gcL(keep:List Nat)(L:Nat→Option Value)(i:Nat):Option Value:=(keep[i]?).bind L
theorem Wv{keep:List Nat}{i y:Nat}(h:keep[i]?=some y):gcL keep L i=L y:=by simp [gcL,h]
theorem Vc(b:Nat→Option AB):∀(f:Nat) (l acc:List Nat) (i:Nat),i<acc.length→(Ui b f l acc)[i]?=acc[i]?
 | 0,l,acc,i,hi=>by simp [Ui]
 | f+1,[],acc,i,hi=>by simp [Ui]
 | f+1,x::l,acc,i,hi=>by
   simp only [Ui]
   split
   ·exact Vc b f l acc i hi
   ·split
    ·rw [Vc b f _ _ i (by simp;omega),List.getElem?_append_left hi]
    ·rw [Vc b f _ _ i (by simp;omega),List.getElem?_append_left hi]
    ·rw [Vc b f _ _ i (by simp;omega),List.getElem?_append_left hi]
    ·exact Vc b f l acc i hi
theorem Zk9{live:List Nat}{s s':St}(hs:gcC m live s=some s'){B0:Nat→Option AB}{L0:Nat→Option Value}{w0:World}(h:VD E m N B0 L0 w0 s a w):VD E m N B0 L0 w0 s' a w:=by
 obtain ⟨L,h1,h2,h3,hm⟩:=h
 unfold gcC at hs
 dsimp only at hs
 have hpre:∀i,i<m→(Ui s.b 64 (AV.refsL (live.map s.t)++ZcZ s.b m) (List.range m))[i]?=some i:=fun i hi=>by
  rw [Vc _ _ _ _ _ (by simpa using hi)]
  simp [hi]
 generalize hk:Ui s.b 64 (AV.refsL (live.map s.t)++ZcZ s.b m) (List.range m)=keep at hs hpre
 split at hs
 ·rename_i hn
  cases hs
  have hρ:∀b i,Qe keep b=some i→gcL keep L i=L b:=fun b i hi=>Wv (Zbv hi)
  have hB:∀i blk,(⟨gcT s.t (Qe keep) live,gcB s.b (Qe keep) keep 0,keep.length⟩:St).b i=some blk→∃y b0,keep[i]?=some y∧s.b y=some b0∧blk=b0.ren (Qe keep):=fun i blk hi=>by
   have e:(⟨gcT s.t (Qe keep) live,gcB s.b (Qe keep) keep 0,keep.length⟩:St).b i=(keep[i]?).bind fun y=>(s.b y).map (AB.ren (Qe keep)):=by
    show (Zy (gcB s.b (Qe keep) keep 0) i).getD none=_
    rw [ZiF]
    simp
   rw [e] at hi
   obtain ⟨y,h4,h5⟩:=Option.bind_eq_some_iff.1 hi
   obtain ⟨b0,h6,h7⟩:=Option.map_eq_some_iff.1 h5
   exact ⟨y,b0,h4,h6,h7.symm⟩
  have hok:∀b o,okS E s.b L b o→okS E (⟨gcT s.t (Qe keep) live,gcB s.b (Qe keep) keep 0,keep.length⟩:St).b (gcL keep L) b o:=fun b o h4=>⟨h4.1,fun id blk v h5 h6 h7=>by
   obtain ⟨y,b0,h8,h9,rfl⟩:=hB id blk h5
   rw [Wv h8] at h6
   rw [AB.ren_frz]
   exact h4.2 y b0 v h9 h6 h7⟩
  refine ⟨gcL keep L,⟨fun t=>?_,⟨fun id blk h4=>?_,fun id blk v g h4 h5 h6 o=>?_,h1.bs.fresh,h1.bs.limb,fun id id' blk blk' v v' g h4 h5 h6 h7 h8 h9=>?_,h1.bs.glob.mono (fun _ _ _ _ h=>h) (fun b o _ h4 _=>hok b o h4) fun _ _=>rfl⟩,h1.size,h1.defers⟩,fun id hid=>?_,h3.trans ⟨Mod.refl _ _,fun id blk v g h4 h5 h6 _=>?_⟩,fun i u hi hu=>by rw [Wv (hpre i hi)];exact hm i u hi hu⟩
  ·rcases Zjq s.t (Qe keep) live t with h4|h4
   ·simp only [St.t]
    rw [h4]
    exact .t (.any _)
   ·simp only [St.t]
    rw [h4]
    exact (Rep.ren hρ _ _ (h1.slots t)).mono (fun _ _ _ _ h=>h) (fun b o _ h5 _=>hok b o h5) (fun _ _ h=>h)
  ·obtain ⟨y,b0,h8,h9,rfl⟩:=hB id blk h4
   have h10:=h1.bs.blk y b0 h9
   cases b0 with
   | row e k es fz=>
     obtain ⟨v,xs,h11,h12,h13,h14,h15⟩:=h10
     refine ⟨v,xs,by rw [Wv h8];exact h11,h12,h13,h14,fun i j x d h16 h17=>?_⟩
     obtain ⟨u,h18,h19⟩:=h15 i j x d h16 h17
     exact ⟨u,h18,h19.mono (fun _ _ _ _ h=>h) fun b o _ h5 _=>hok b o h5⟩
   | box t cs fz=>
     obtain ⟨g,cells,h11,h12,h13,h14,h15⟩:=h10
     have h16:=Rep.renL hρ cs (fun i=>cells.getD i undef) h14
     exact ⟨g,cells,by rw [Wv h8];exact h11,h12,by rw [h16.1];exact h13,fun i d hi=>(h16.2 i d hi).mono (fun _ _ _ _ h=>h) (fun b o _ h5 _=>hok b o h5) (fun _ _ h=>h),h15⟩
   | mp es=>
     obtain ⟨g,ents,c,h11,h12,h13⟩:=h10
     exact ⟨g,ents,c,by rw [Wv h8];exact h11,h12,h13⟩
  ·obtain ⟨y,b0,h8,h9,rfl⟩:=hB id blk h4
   rw [Wv h8] at h5
   exact h1.bs.ext y b0 v g h9 h5 h6 o
  ·obtain ⟨y,b0,h10,h11,rfl⟩:=hB id blk h4
   obtain ⟨y',b0',h12,h13,rfl⟩:=hB id' blk' h5
   rw [Wv h10] at h6
   rw [Wv h12] at h7
   have:=h1.bs.inj y y' b0 b0' v v' g h11 h13 h6 h7 h8 h9
   subst this
   exact JA hn h10 h12
  ·simp [gcL,List.getElem?_eq_none hid]
  ·obtain ⟨y,b0,h8,h9,rfl⟩:=hB id blk h4
   rw [Wv h8] at h5
   exact ⟨y,b0,v,h9,h5,h6,fun o ho=>by rw [AB.ren_frz];exact ho⟩
 ·cases hs
theorem Zfw{h:Nat}{s:St}{B0:Nat→Option AB}{L0:Nat→Option Value}{w0:World}(hf:VD E m N B0 L0 w0 s a w):VD E m N B0 L0 w0 (Zfi h s) a w:=by
 unfold Zfi
 split
 ·rename_i b o hslot
  split
  ·rename_i t cs hb
   split
   ·rename_i kk hc
    generalize o+(h / 4096-1) % 64=c at hc ⊢
    split
    ·obtain ⟨L,h1,h2,h3,hm⟩:=hf
     have hst:Step E s.b L [(b,some (.box t (cs.set c (.sl kk [])) false))] L w w:=by
      refine ⟨fun _ _ h=>h,Mod.refl _ _,fun hr hrt id blk hu=>?_,fun id blk v g hu hL' hg=>?_,fun id id' blk blk' v v' g hu hu' hl hl' hg hg'=>?_⟩
      ·simp only [Zy] at hu
       split at hu
       ·rename_i e
        subst e
        cases hu
        obtain ⟨g,cells,h4,h5,h6,h7,h8⟩:=h1.bs.blk id _ hb
        refine ⟨g,cells,h4,h5,by simpa using h6,fun i d hi=>?_,h8⟩
        rw [List.getElem?_set] at hi
        split at hi
        ·rename_i e
         subst e
         split at hi
         ·cases hi
          have h9:=h7 c _ hc
          cases h9 with
          | t h9=>
            generalize cells.getD c undef=u at h9
            cases h9
            exact .t (.nil _ _)
         ·cases hi
        ·exact hr _ _ (h7 i d hi)
       ·cases hu
      ·simp only [Zy] at hu
       split at hu
       ·rename_i e
        subst e
        cases hu
        exact .inr ⟨id,_,v,by simp [Zy],hb,hL',hg,fun o h=>h⟩
       ·cases hu
      ·simp only [Zy] at hu hu'
       split at hu
       ·split at hu'
        ·rename_i e e';rw [e,e']
        ·cases hu'
       ·cases hu
     refine ⟨L,?_,h2,?_,hm⟩
     ·have h4:=h1.aft (hst.aft h1.bs) (dst:=none) (d:=.any) (v:=undef) (.t (.any _)) (fun t ht=>by cases ht)
      rw [←Vw s _ s.T s.nx] at h4
      exact h4
     ·have h4:=h3.trans (hst.aft h1.bs).run
      rw [←Vw s _ s.T s.nx] at h4
      exact h4
    rename_i kq _
    obtain ⟨L,h1,h2,h3,hm⟩:=hf
    have hL:=h2 s.nx (Nat.le_refl _)
    have hbn:b≠s.nx:=fun e=>by
     obtain ⟨v,hv⟩:=(h1.bs.blk b _ hb).has
     rw [e,hL] at hv;cases hv
    have hst:Step E s.b L [(b,some (.box t (cs.set c (.own s.nx 0)) false)),(s.nx,some (.row ((h / 4096-1) / 4096) (kq+1) [] 0))] (XK L s.nx (.slice none 0 0)) w w:=by
     refine ⟨UQ hL _,Mod.refl _ _,fun hr hrt id blk hu=>?_,fun id blk v g hu hL' hg=>?_,fun id id' blk blk' v v' g hu hu' hl hl' hg hg'=>?_⟩
     ·simp only [Zy] at hu
      split at hu
      ·rename_i e
       subst e
       cases hu
       obtain ⟨g,cells,h4,h5,h6,h7,h8⟩:=h1.bs.blk id _ hb
       refine ⟨g,cells,UQ hL _ _ _ h4,h5,by simpa using h6,fun i d hi=>?_,h8⟩
       rw [List.getElem?_set] at hi
       split at hi
       ·rename_i e
        subst e
        split at hi
        ·cases hi
         have h9:=h7 c _ hc
         cases h9 with
         | t h9=>
           generalize cells.getD c undef=u at h9
           cases h9
           exact .own (ZB _ _ _)
        ·cases hi
       ·exact hr _ _ (h7 i d hi)
      ·split at hu
       ·rename_i e
        subst e
        cases hu
        exact ⟨_,[],ZB _ _ _,Row.nil _ _ _ _ _,Nat.le_refl _,fun x hx=>(by cases hx),fun i j x d hi=>(by simp at hi)⟩
       ·cases hu
     ·simp only [Zy] at hu
      split at hu
      ·rename_i e
       subst e
       cases hu
       obtain ⟨v0,hv0⟩:=(h1.bs.blk id _ hb).has
       have h4:=UQ hL (.slice none 0 0) _ _ hv0
       rw [hL'] at h4
       cases h4
       exact .inr ⟨id,_,v,by simp [Zy],hb,hv0,hg,fun o h=>h⟩
      ·split at hu
       ·rename_i e
        subst e
        rw [ZB] at hL'
        cases hL'
        cases hg
       ·cases hu
     ·simp only [Zy] at hu hu'
      split at hu
      ·split at hu'
       ·rename_i e e';rw [e,e']
       ·split at hu'
        ·rename_i e
         subst e
         rw [ZB] at hl';cases hl'
         cases hg'
        ·cases hu'
      ·split at hu
       ·rename_i e
        subst e
        rw [ZB] at hl;cases hl
        cases hg
       ·cases hu
    refine ⟨XK L s.nx (.slice none 0 0),?_,fun id hid=>?_,?_,fun i u hi hu=>UQ hL _ _ _ (hm i u hi hu)⟩
    ·have h4:=h1.aft (hst.aft h1.bs) (dst:=none) (d:=.any) (v:=undef) (.t (.any _)) (fun t ht=>by cases ht)
     rw [←Vw s _ s.T (s.nx+1)] at h4
     exact h4
    ·dsimp only at hid
     unfold XK
     rw [if_neg (by omega)]
     exact h2 id (by omega)
    ·have h4:=h3.trans (hst.aft h1.bs).run
     rw [←Vw s _ s.T (s.nx+1)] at h4
     exact h4
   ·exact hf
  ·exact hf
 ·exact hf
theorem Kb{B0:Nat→Option AB}{L0:Nat→Option Value}{w0:World}:∀(l:List Nat) (s:St),VD E m N B0 L0 w0 s a w→VD E m N B0 L0 w0 (ZdI l s) a w
 | [],s,h=>h
 | x::l,s,h=>by
   unfold ZdI
   split
   ·exact Kb l _ (Zfw h)
   ·exact Kb l _ h
theorem Zcy{live:List Nat}{s s':St}(hs:gc m live s=some s'){B0:Nat→Option AB}{L0:Nat→Option Value}{w0:World}(h:VD E m N B0 L0 w0 s a w):VD E m N B0 L0 w0 s' a w:=
 Zk9 hs (Kb live s h)
end
end
section
open Go.RowKit
theorem Tr.run_congr{T T':Nat→AV}{B B':Nat→Option AB}:∀(tr:Tr),(∀t∈(tr.asks T B).1,T' t=T t)→(∀b∈(tr.asks T B).2,B' b=B b)→tr.run T' B'=tr.run T B
 | .slot t k,hT,hB=>by
   have h0:T' t=T t:=hT t (by simp [Tr.asks])
   simp only [Tr.run,h0]
   exact Tr.run_congr (k (T t)) (fun u hu=>hT u (by simp [Tr.asks,hu])) (fun b hb=>hB b (by simpa [Tr.asks] using hb))
 | .blk b k,hT,hB=>by
   have h0:B' b=B b:=hB b (by cases hx:B b <;>simp [Tr.asks,hx])
   simp only [Tr.run,h0]
   cases hx:B b with
   | none=>rfl
   | some x=>exact Tr.run_congr (k x) (fun u hu=>hT u (by simpa [Tr.asks,hx] using hu)) (fun c hc=>hB c (by simp [Tr.asks,hx,hc]))
 | .done _ _ _,_,_=>rfl
 | .fail,_,_=>rfl
structure Rec where
 o:Oper
 want:Bool
 v:AV
 up:List (Nat × Option AB)
 f:Nat
 f':Nat
 foot:Foot
def XB(D:Nat→Bool):List Rec→Nat→(Nat→AV)→Nat→AV
 | [],_,T=>T
 | r::l,i,T=>XB D l (i+1) (if D i then VB T r.o.dst r.v else T)
def WA(D:Nat→Bool):List Rec→Nat→(Nat→Option AB)→Nat→Option AB
 | [],_,B=>B
 | r::l,i,B=>WA D l (i+1) (if D i then ZN B r.up else B)
theorem WE{D D':Nat→Bool}{t:Nat}:∀(l:List Rec) (i:Nat) (T T':Nat→AV),T t=T' t→(∀j r,l[j]?=some r→r.o.dst=some t→D (i+j)=D' (i+j))→XB D l i T t=XB D' l i T' t
 | [],_,_,_,h,_=>h
 | r::l,i,T,T',h,hd=>by
   simp only [XB]
   refine WE l (i+1) _ _ ?_ (fun j r' hj hr=>by have:=hd (j+1) r' (by simpa using hj) hr;rwa [show i+(j+1)=i+1+j by omega] at this)
   by_cases hr:r.o.dst=some t
   ·have h0:=hd 0 r rfl hr
    rw [Nat.add_zero] at h0
    rw [h0]
    cases D' i with
    | true=>simp [VB,hr]
    | false=>simpa using h
   ·have e:∀(T:Nat→AV),(if D i=true then VB T r.o.dst r.v else T) t=T t∧(if D' i=true then VB T r.o.dst r.v else T) t=T t:=fun T=>by
     have:VB T r.o.dst r.v t=T t:=by
      cases hx:r.o.dst with
      | none=>rfl
      | some d=>simp only [VB];rw [if_neg (fun e=>hr (by rw [hx,e]))]
     constructor <;>split <;>first|exact this|rfl
    rw [(e T).1,(e T').2];exact h
theorem WG{D D':Nat→Bool}{x:Nat}:∀(l:List Rec) (i:Nat) (B B':Nat→Option AB),B x=B' x→(∀j r,l[j]?=some r→x∈r.up.map (·.1)→D (i+j)=D' (i+j))→WA D l i B x=WA D' l i B' x
 | [],_,_,_,h,_=>h
 | r::l,i,B,B',h,hd=>by
   simp only [WA]
   refine WG l (i+1) _ _ ?_ (fun j r' hj hr=>by have:=hd (j+1) r' (by simpa using hj) hr;rwa [show i+(j+1)=i+1+j by omega] at this)
   have hmem:∀(up:List (Nat × Option AB)),x∈up.map (·.1)∨Zy up x=none:=fun up=>by
    induction up with
    | nil=>exact .inr rfl
    | cons p up ih=>
      obtain ⟨y,b⟩:=p
      simp only [Zy]
      split
      ·rename_i e;subst e;exact .inl (by simp)
      ·rcases ih with h|h
       ·exact .inl (by simp at h ⊢;exact .inr h)
       ·exact .inr h
   rcases hmem r.up with hr|hr
   ·have h0:=hd 0 r rfl hr
    rw [Nat.add_zero] at h0
    rw [h0]
    cases D' i with
    | true=>simp [ZN,h]
    | false=>simpa using h
   ·have e:∀(B:Nat→Option AB),(if D i=true then ZN B r.up else B) x=B x∧(if D' i=true then ZN B r.up else B) x=B x:=fun B=>by
     have:ZN B r.up x=B x:=QG hr
     constructor <;>split <;>first|exact this|rfl
    rw [(e B).1,(e B').2];exact h
theorem Ur{acc:List Nat}{i:Nat}:∀(es:List Edge),(U3 acc es).testBit i=true→∃e∈es,Region.binds .any e=true∧(e.on=i∨(acc.getD e.on 0).testBit i=true)
 | [],h=>by simp [U3] at h
 | e::es,h=>by
   simp only [U3] at h
   split at h
   ·rename_i hb
    rw [Nat.testBit_or,Nat.testBit_or,Bool.or_eq_true,Bool.or_eq_true] at h
    rcases h with (h|h)|h
    ·refine ⟨e,by simp,hb,.inl ?_⟩
     rw [Nat.testBit_two_pow] at h
     exact of_decide_eq_true h
    ·exact ⟨e,by simp,hb,.inr h⟩
    ·obtain ⟨e',h1,h2⟩:=Ur es h
     exact ⟨e',by simp [h1],h2⟩
   ·obtain ⟨e',h1,h2⟩:=Ur es h
    exact ⟨e',by simp [h1],h2⟩
theorem Uv{D:Nat→Bool}{all:List Oper}(hD:∀(j:Nat) (o:Oper),all[j]?=some o→D j=true→∀e∈o.after,Region.binds .any e=true→D e.on=true):
  ∀(l:List Oper) (acc:List Nat),(∀k o,l[k]?=some o→all[acc.length+k]?=some o)→(∀j,j<acc.length→D j=true→∀i,(acc.getD j 0).testBit i=true→D i=true)→
   ∀j,j<acc.length+l.length→D j=true→∀i,((Zd0 l acc).getD j 0).testBit i=true→D i=true
 | [],acc,_,h,j,hj,hd,i,hi=>h j (by simpa using hj) hd i hi
 | o::l,acc,hl,h,j,hj,hd,i,hi=>by
   simp only [Zd0] at hi
   refine Uv hD l (acc++[U3 acc o.after.toList]) (fun k o' hk=>?_) (fun j' hj' hd' i' hi'=>?_) j (by simp at hj ⊢;omega) hd i hi
   ·have:=hl (k+1) o' (by simpa using hk)
    simpa [Nat.add_assoc,Nat.add_comm 1 k] using this
   ·rcases Nat.lt_or_ge j' acc.length with h1|h1
    ·rw [List.getD_eq_getElem?_getD,List.getElem?_append_left h1,←List.getD_eq_getElem?_getD] at hi'
     exact h j' h1 hd' i' hi'
    ·have h2:j'=acc.length:=by simp at hj';omega
     subst h2
     rw [List.getD_eq_getElem?_getD,List.getElem?_append_right (Nat.le_refl _)] at hi'
     simp only [Nat.sub_self,List.getElem?_cons_zero,Option.getD_some] at hi'
     obtain ⟨e,h3,h4,h5⟩:=Ur _ hi'
     have h6:=hD acc.length o (by have:=hl 0 o rfl;simpa using this) hd' e (by simpa using h3) h4
     rcases h5 with h5|h5
     ·rw [←h5];exact h6
     ·rcases Nat.lt_or_ge e.on acc.length with h7|h7
      ·exact h e.on h7 h6 i' h5
      ·rw [List.getD_eq_getElem?_getD,List.getElem?_eq_none h7] at h5
       simp at h5
theorem JN{f:Foot}{m:Nat}:∀{l:List Foot} {i0:Nat},KA f m l i0=true→∀i g,l[i]?=some g→g.clash f=true→m.testBit (i0+i)=true
 | [],_,_,i,g,h,_=>by simp at h
 | x::l,i0,h,i,g,hi,hc=>by
   simp only [KA,Bool.and_eq_true,Bool.or_eq_true,Bool.not_eq_true'] at h
   cases i with
   | zero=>
     simp at hi
     subst hi
     rcases h.1 with h1|h1
     ·rw [hc] at h1;cases h1
     ·exact h1
   | succ i=>
     have:=JN h.2 i g (by simpa using hi) hc
     rwa [show i0+1+i=i0+(i+1) by omega] at this
theorem KE{ms:List Nat}:∀{l pre:List Foot},ZaT pre l ms=true→∀j f,l[j]?=some f→∀i g,(pre++l)[i]?=some g→i<pre.length+j→g.clash f=true→(ms.getD (pre.length+j) 0).testBit i=true
 | [],_,_,j,f,hj,_,_,_,_,_=>by simp at hj
 | x::l,pre,h,j,f,hj,i,g,hi,hlt,hc=>by
   simp only [ZaT,Bool.and_eq_true] at h
   cases j with
   | zero=>
     simp at hj
     subst hj
     have hi':pre[i]?=some g:=by rwa [List.getElem?_append_left (by omega)] at hi
     have:=JN h.1 i g hi' hc
     simpa using this
   | succ j=>
     have:=KE h.2 j f (by simpa using hj) i g (by simpa using hi) (by simp;omega) hc
     simpa [Nat.add_assoc,Nat.add_comm 1 j] using this
theorem ZcW:∀{l:List Oper} {i0:Nat},Zda l i0=true→∀i o,l[i]?=some o→∀e∈o.after,Region.binds .any e=true→e.on<i0+i
 | [],_,_,i,o,h,_,_,_=>by simp at h
 | x::l,i0,h,i,o,hi,e,he,hb=>by
   simp only [Zda,Bool.and_eq_true] at h
   cases i with
   | zero=>
     simp at hi
     subst hi
     have:=List.all_eq_true.1 h.1 e (by simpa using he)
     rw [hb] at this
     have h9:e.on<i0:=by simpa using this
     exact h9
   | succ i=>
     have:=ZcW h.2 i o (by simpa using hi) e he hb
     omega
def UM:List Rec→(Nat→AV)→Nat→AV
 | [],T=>T
 | r::l,T=>UM l (VB T r.o.dst r.v)
def U1:List Rec→(Nat→Option AB)→Nat→Option AB
 | [],B=>B
 | r::l,B=>U1 l (ZN B r.up)
theorem Ue{D:Nat→Bool}:∀(l:List Rec) (k i:Nat) (T:Nat→AV),(∀j,j<i→D (k+j)=true)→(∀j,i≤j→D (k+j)=false)→XB D l k T=UM (l.take i) T
 | [],k,i,T,_,_=>by simp [XB,UM]
 | r::l,k,0,T,h1,h2=>by
   have h0:=h2 0 (Nat.le_refl _)
   rw [Nat.add_zero] at h0
   simp only [XB,h0,Bool.false_eq_true,if_false]
   rw [Ue l (k+1) 0 T (fun j hj=>by omega) (fun j hj=>by have:=h2 (j+1) (by omega);rwa [show k+(j+1)=k+1+j by omega] at this)]
   simp [UM]
 | r::l,k,i+1,T,h1,h2=>by
   have h0:=h1 0 (by omega)
   rw [Nat.add_zero] at h0
   simp only [XB,h0,if_true,List.take_succ_cons,UM]
   exact Ue l (k+1) i _ (fun j hj=>by have:=h1 (j+1) (by omega);rwa [show k+(j+1)=k+1+j by omega] at this) (fun j hj=>by have:=h2 (j+1) (by omega);rwa [show k+(j+1)=k+1+j by omega] at this)
theorem VW{D:Nat→Bool}:∀(l:List Rec) (k i:Nat) (B:Nat→Option AB),(∀j,j<i→D (k+j)=true)→(∀j,i≤j→D (k+j)=false)→WA D l k B=U1 (l.take i) B
 | [],k,i,B,_,_=>by simp [WA,U1]
 | r::l,k,0,B,h1,h2=>by
   have h0:=h2 0 (Nat.le_refl _)
   rw [Nat.add_zero] at h0
   simp only [WA,h0,Bool.false_eq_true,if_false]
   rw [VW l (k+1) 0 B (fun j hj=>by omega) (fun j hj=>by have:=h2 (j+1) (by omega);rwa [show k+(j+1)=k+1+j by omega] at this)]
   simp [U1]
 | r::l,k,i+1,B,h1,h2=>by
   have h0:=h1 0 (by omega)
   rw [Nat.add_zero] at h0
   simp only [WA,h0,if_true,List.take_succ_cons,U1]
   exact VW l (k+1) i _ (fun j hj=>by have:=h1 (j+1) (by omega);rwa [show k+(j+1)=k+1+j by omega] at this) (fun j hj=>by have:=h2 (j+1) (by omega);rwa [show k+(j+1)=k+1+j by omega] at this)
theorem ZdH:∀(l:List Rec) (i:Nat) (r:Rec) (T:Nat→AV),l[i]?=some r→UM (l.take (i+1)) T=VB (UM (l.take i) T) r.o.dst r.v
 | [],i,r,T,h=>by simp at h
 | x::l,0,r,T,h=>by simp at h;subst h;simp [UM]
 | x::l,i+1,r,T,h=>by
   rw [List.take_succ_cons,List.take_succ_cons,UM,UM]
   exact ZdH l i r _ (by simpa using h)
theorem Zec:∀(l:List Rec) (i:Nat) (r:Rec) (B:Nat→Option AB),l[i]?=some r→U1 (l.take (i+1)) B=ZN (U1 (l.take i) B) r.up
 | [],i,r,B,h=>by simp at h
 | x::l,0,r,B,h=>by simp at h;subst h;simp [U1]
 | x::l,i+1,r,B,h=>by
   rw [List.take_succ_cons,List.take_succ_cons,U1,U1]
   exact Zec l i r _ (by simpa using h)
structure RecOk (P:Program) (O:FuncId→Option Orc) (N:Nat) (ops:Array Oper) (T:Nat→AV) (B:Nat→Option AB) (r:Rec):Prop where
 dst:ZjF N r.o.dst=true
 grd:VO ops r.o.guard T=some r.want
 le:r.f≤r.f'
 yes:r.want=true→(aop P O r.o r.f).run T B=some (r.v,r.up,r.f')∧r.foot=⟨XC ops r.o.guard++((aop P O r.o r.f).asks T B).1,((aop P O r.o r.f).asks T B).2,r.up.map (·.1),r.o.dst⟩
 no:r.want=false→r.v=.lit undef∧r.up=[]∧r.foot=⟨XC ops r.o.guard,[],[],r.o.dst⟩
theorem RecOk.fdst{P:Program}{O:FuncId→Option Orc}{N:Nat}{ops:Array Oper}{T:Nat→AV}{B:Nat→Option AB}{r:Rec}(h:RecOk P O N ops T B r):r.foot.dst=r.o.dst∧r.foot.wb=r.up.map (·.1)∧∀t∈XC ops r.o.guard,t∈r.foot.rs:=by
 cases hw:r.want with
 | true=>rw [(h.yes hw).2];exact ⟨rfl,rfl,fun t ht=>by simp [ht]⟩
 | false=>rw [(h.no hw).2.2,(h.no hw).2.1];exact ⟨rfl,rfl,fun t ht=>ht⟩
theorem Zjr{P:Program}{O:FuncId→Option Orc}{N:Nat}{ops:Array Oper}:∀(l:List Oper) (s s':St) (fs:List Foot),Zka P O N ops l s=some (s',fs)→
  ∃recs:List Rec,recs.map (·.foot)=fs∧recs.map (·.o)=l∧s'.t=UM recs s.t∧s'.b=U1 recs s.b∧s.nx≤s'.nx∧
   (∀(i:Nat) (r:Rec),recs[i]?=some r→RecOk P O N ops (UM (recs.take i) s.t) (U1 (recs.take i) s.b) r∧s.nx≤r.f∧r.f'≤s'.nx)∧
   ∀(i j:Nat) (r q:Rec),recs[i]?=some r→recs[j]?=some q→i<j→r.f'≤q.f
 | [],s,s',fs,h=>by
   simp only [Zka,Option.some.injEq,Prod.mk.injEq] at h
   obtain ⟨rfl,rfl⟩:=h
   exact ⟨[],rfl,rfl,rfl,rfl,Nat.le_refl _,fun i r h=>by simp at h,fun i j r q h=>by simp at h⟩
 | o::l,s,s',fs,h=>by
   simp only [Zka] at h
   split at h
   ·rename_i s1 h1
    split at h
    ·rename_i s2 fs' h2
     simp only [Option.some.injEq,Prod.mk.injEq] at h
     obtain ⟨rfl,rfl⟩:=h
     obtain ⟨recs,g1,g2,g3,g4,g5,g6,g7⟩:=Zjr l s1 s2 fs' h2
     obtain ⟨r,k1,k2,k3,k4,k5⟩:∃r:Rec,r.o=o∧r.f=s.nx∧r.f'=s1.nx∧(s1.t=VB s.t o.dst r.v∧s1.b=ZN s.b r.up∧r.foot=Zc8 P O ops o s)∧RecOk P O N ops s.t s.b r:=by
      unfold opS at h1
      split at h1
      ·rename_i hd
       split at h1
       ·rename_i hg
        split at h1
        ·rename_i v up nx hr
         split at h1
         ·rename_i hn
          cases h1
          refine ⟨⟨o,true,v,up,s.nx,nx,Zc8 P O ops o s⟩,rfl,rfl,rfl,⟨ZiZ _ _ _ _ _,Vw _ _ _ _,rfl⟩,⟨hd,hg,Nat.le_of_ble_eq_true hn,fun _=>⟨hr,?_⟩,fun h=>by cases h⟩⟩
          simp only [Zc8,hg,hr]
         ·cases h1
        ·cases h1
       ·rename_i hg
        cases h1
        refine ⟨⟨o,false,.lit undef,[],s.nx,s.nx,Zc8 P O ops o s⟩,rfl,rfl,rfl,⟨ZiZ _ _ _ _ _,by rw [QT];rfl,rfl⟩,⟨hd,hg,Nat.le_refl _,fun h=>(by cases h),fun _=>⟨rfl,rfl,?_⟩⟩⟩
        simp only [Zc8,hg]
       ·cases h1
      ·cases h1
     refine ⟨r::recs,by simp [g1,k4.2.2],by simp [g2,k1],?_,?_,?_,fun i q hi=>?_,fun i j q q' hi hj hij=>?_⟩
     ·rw [UM,k1,←k4.1];exact g3
     ·rw [U1,←k4.2.1];exact g4
     ·have:=k5.le;omega
     ·cases i with
      | zero=>
        simp at hi
        subst hi
        exact ⟨k5,by omega,by omega⟩
      | succ i=>
        obtain ⟨q1,q2,q3⟩:=g6 i q (by simpa using hi)
        rw [List.take_succ_cons,UM,U1,k1,←k4.1,←k4.2.1]
        have:=k5.le
        exact ⟨q1,by omega,q3⟩
     ·cases j with
      | zero=>omega
      | succ j=>
        have hj':recs[j]?=some q':=by simpa using hj
        cases i with
        | zero=>
          simp at hi
          subst hi
          obtain ⟨_,q2,_⟩:=g6 j q' hj'
          omega
        | succ i=>exact g7 i j q q' (by simpa using hi) hj' (by omega)
    ·cases h
   ·cases h
theorem ZeB{l:List Nat}{p q:Nat→Bool}{x:Nat}(hx:x∈l)(hp:p x=true)(hq:q x=false)(h:∀y∈l,q y=true→p y=true):l.countP q<l.countP p:=by
 induction l with
 | nil=>cases hx
 | cons y l ih=>
   have hle:l.countP q≤l.countP p:=List.countP_mono_left fun z hz=>h z (by simp [hz])
   rw [List.countP_cons,List.countP_cons]
   rcases List.mem_cons.1 hx with rfl|hm
   ·rw [hp,hq];simp;omega
   ·have:=ih hm fun z hz=>h z (by simp [hz])
    have h1:(if q y=true then 1 else 0)≤(if p y=true then 1 else 0):=by
     by_cases hqy:q y=true
     ·rw [if_pos hqy,if_pos (h y (by simp) hqy)];exact Nat.le_refl _
     ·rw [if_neg hqy];exact Nat.zero_le _
    omega
theorem KY{d:Option Nat}{t:Nat}{l:List Nat}(h:d=some t)(hm:t∈l):ZbL d l=true:=by subst h;simpa [ZbL] using hm
theorem J1{a b:List Nat}{x:Nat}(h1:x∈a)(h2:x∈b):ZeO a b=true:=List.any_eq_true.2 ⟨x,h1,by simpa using h2⟩
theorem Zfh{ops:Array Oper}{g:Option (Nat × Bool)}{T T':Nat→AV}(h:∀t∈XC ops g,T' t=T t):VO ops g T'=VO ops g T:=by
 unfold VO XC at*
 cases g with
 | none=>rfl
 | some p=>
   obtain ⟨j,want⟩:=p
   dsimp only at*
   cases hx:(ops[j]?).bind (·.dst) with
   | none=>rfl
   | some t=>
     rw [hx] at h
     dsimp only
     rw [h t (by simp)]
section
variable {P : Program} {E : Nat → Nat → Prop} {m N : Nat} {O : FuncId → Option Orc} {ops : Array Oper}
theorem Zh1(hO:OrcOk P O)(hm:P.follows .mixedOrders=true){s s':St}(hs:ZiK P O N ops s=some s'){id:Nat}{B0:Nat→Option AB}{L0:Nat→Option Value}{w0:World}{a:Act}{w:World}(hf:VD E m N B0 L0 w0 s a w){Q:Exit→Act→World→Prop}(hQ:∀a' w',VD E m N B0 L0 w0 s' a' w'→Q .normal a' w'):(Code.region id ops true).wp P Q a w:=by
 unfold ZiK at hs
 split at hs
 ·rename_i s1 fs hopsF
  split at hs
  ·rename_i hchk
   cases hs
   obtain ⟨hdeps,hpairs⟩:=hchk
   obtain ⟨recs,r1,r2,r3,r4,r5,r6,r7⟩:=Zjr ops.toList s s' fs hopsF
   have hlen:recs.length=ops.size:=by have:=congrArg List.length r2;simpa using this
   have hro:∀(i:Nat) (r:Rec),recs[i]?=some r→ops[i]?=some r.o:=fun i r hi=>by
    have:ops.toList[i]?=some r.o:=by rw [←r2,List.getElem?_map,hi];rfl
    simpa using this
   have hfoot:∀(i:Nat) (r:Rec),recs[i]?=some r→fs[i]?=some r.foot:=fun i r hi=>by rw [←r1,List.getElem?_map,hi];rfl
   -- what holds when the operations in D have run
   let Inv:(Nat→Bool)→Act→World→Prop:=fun D a w=>∃L,SRel E N (XB D recs 0 s.t) (WA D recs 0 s.b) L a w∧
    (∀x,s.nx≤x→(∀(i:Nat) (r:Rec),recs[i]?=some r→D i=true→¬(r.f≤x∧x<r.f'))→L x=none)∧Run B0 L0 (WA D recs 0 s.b) L w0 w∧∀i u,i<m→L0 i=some u→L i=some u
   have step:∀(D:Nat→Bool) (i:Nat) (r:Rec),recs[i]?=some r→D i=false→(∀(j:Nat) (o:Oper),ops[j]?=some o→D j=true→∀e∈o.after,Region.binds .any e=true→D e.on=true)→
     (∀e∈r.o.after,Region.binds .any e=true→D e.on=true)→∀a w,Inv D a w→∀(K:Act→World→Prop),(∀a' w',Inv (fun j=>if j=i then true else D j) a' w'→K a' w')→
      if Region.wanted r.o (yielded ops a.tmps)=true then r.o.wp P a w K Q else K (a.put r.o.dst undef) w:=by
    intro D i r hi hDi hD hpre a w ⟨L,h1,h2,h3,hlk⟩ K hK
    obtain ⟨hok,hf1,hf2⟩:=r6 i r hi
    obtain ⟨fd,fw,fg⟩:=hok.fdst
    -- D with i is ZoT
    have hDc:∀(j:Nat) (o:Oper),ops.toList[j]?=some o→(fun j=>if j=i then true else D j) j=true→∀e∈o.after,Region.binds .any e=true→(fun j=>if j=i then true else D j) e.on=true:=fun j o hj hdj e he hb=>by
     have hj':ops[j]?=some o:=by simpa using hj
     dsimp only at hdj ⊢
     by_cases hji:j=i
     ·subst hji
      have:=hro j r hi
      rw [hj'] at this
      cases this
      have:=hpre e he hb
      split <;>first|rfl|exact this
     ·rw [if_neg hji] at hdj
      have:=hD j o hj' hdj e he hb
      split <;>first|rfl|exact this
    have hmask:∀(j:Nat) (q:Rec),recs[j]?=some q→(fun j=>if j=i then true else D j) j=true→∀k,((Zd0 ops.toList []).getD j 0).testBit k=true→(fun j=>if j=i then true else D j) k=true:=fun j q hj hdj k hk=>
     Uv hDc ops.toList [] (fun k o h=>by simpa using h) (fun j hj=>by simp at hj) j (by have:=(List.getElem?_eq_some_iff.1 hj).1;simp;omega) hdj k hk
    -- those that clash with i:the earlier ones are there,the later ones are not
    have early:∀(j:Nat) (q:Rec),recs[j]?=some q→j<i→q.foot.clash r.foot=true→D j=true:=fun j q hj hlt hc=>by
     have:=KE hpairs i _ (hfoot i r hi) j _ (by simpa using hfoot j q hj) (by simpa using hlt) hc
     have:=hmask i r hi (by simp) j (by simpa using this)
     dsimp only at this
     rwa [if_neg (by omega)] at this
    have late:∀(j:Nat) (q:Rec),recs[j]?=some q→i<j→r.foot.clash q.foot=true→D j=false:=fun j q hj hlt hc=>by
     have hb:=KE hpairs j _ (hfoot j q hj) i _ (by simpa using hfoot i r hi) (by simpa using hlt) hc
     cases hdj:D j with
     | false=>rfl
     | true=>
       have:=Uv (D:=D) (all:=ops.toList) (fun j o h=>hD j o (by simpa using h)) ops.toList [] (fun k o h=>by simpa using h) (fun j hj=>by simp at hj) j (by have:=(List.getElem?_eq_some_iff.1 hj).1;simp;omega) hdj i (by simpa using hb)
       rw [hDi] at this;cases this
    have tri:∀(j:Nat) (q:Rec),recs[j]?=some q→(j<i→q.foot.clash r.foot=true)→(i<j→r.foot.clash q.foot=true)→D (0+j)=(fun j=>decide (j<i)) (0+j):=fun j q hj hc1 hc2=>by
     rw [Nat.zero_add]
     dsimp only
     rcases Nat.lt_trichotomy j i with h|h|h
     ·rw [early j q hj h (hc1 h)];simp [h]
     ·subst h;rw [hDi];simp
     ·rw [late j q hj h (hc2 h)];simp;omega
    have tri':∀(j:Nat) (q:Rec),recs[j]?=some q→(j<i→q.foot.clash r.foot=true)→(i<j→r.foot.clash q.foot=true)→(fun j=>if j=i then true else D j) (0+j)=(fun j=>decide (j<i+1)) (0+j):=fun j q hj hc1 hc2=>by
     rw [Nat.zero_add]
     dsimp only
     rcases Nat.lt_trichotomy j i with h|h|h
     ·rw [if_neg (by omega),early j q hj h (hc1 h)];simp;omega
     ·subst h;simp
     ·rw [if_neg (by omega),late j q hj h (hc2 h)];simp;omega
    have qf:∀(j:Nat) (q:Rec),recs[j]?=some q→q.foot.dst=q.o.dst∧q.foot.wb=q.up.map (·.1):=fun j q hj=>⟨(r6 j q hj).1.fdst.1,(r6 j q hj).1.fdst.2.1⟩
    have agT:∀t∈r.foot.rs,XB D recs 0 s.t t=UM (recs.take i) s.t t:=fun t ht=>by
     rw [←Ue (D:=fun j=>decide (j<i)) recs 0 i s.t (fun j hj=>by simpa using hj) (fun j hj=>by simp;omega)]
     refine WE recs 0 _ _ rfl fun j q hj hd=>tri j q hj (fun _=>?_) fun _=>?_
     ·simp only [Foot.clash,KY ((qf j q hj).1.trans hd) ht,Bool.true_or]
     ·simp only [Foot.clash,KY ((qf j q hj).1.trans hd) ht,Bool.true_or,Bool.or_true]
    have agB:∀x∈r.foot.rb,WA D recs 0 s.b x=U1 (recs.take i) s.b x:=fun x hx=>by
     rw [←VW (D:=fun j=>decide (j<i)) recs 0 i s.b (fun j hj=>by simpa using hj) (fun j hj=>by simp;omega)]
     refine WG recs 0 _ _ rfl fun j q hj hd=>tri j q hj (fun _=>?_) fun _=>?_
     ·have e3:ZeO q.foot.wb r.foot.rb=true:=J1 (by rw [(qf j q hj).2];exact hd) hx
      simp only [Foot.clash,e3,Bool.true_or,Bool.or_true]
     ·have e3:ZeO q.foot.wb r.foot.rb=true:=J1 (by rw [(qf j q hj).2];exact hd) hx
      simp only [Foot.clash,e3,Bool.or_true]
    have hT:VB (XB D recs 0 s.t) r.o.dst r.v=XB (fun j=>if j=i then true else D j) recs 0 s.t:=by
     funext t
     by_cases hd:r.o.dst=some t
     ·have e1:VB (XB D recs 0 s.t) r.o.dst r.v t=r.v:=by rw [hd];simp [VB]
      rw [e1]
      have e2:XB (fun j=>if j=i then true else D j) recs 0 s.t t=UM (recs.take (i+1)) s.t t:=by
       rw [←Ue (D:=fun j=>decide (j<i+1)) recs 0 (i+1) s.t (fun j hj=>by simpa using hj) (fun j hj=>by simp;omega)]
       refine WE recs 0 _ _ rfl fun j q hj hq=>tri' j q hj (fun _=>?_) fun _=>?_
       ·have e3:ZbL q.foot.dst r.foot.dst.toList=true:=KY ((qf j q hj).1.trans hq) (by rw [fd,hd];simp)
        simp only [Foot.clash,e3,Bool.true_or,Bool.or_true]
       ·have e3:ZbL r.foot.dst q.foot.dst.toList=true:=KY (fd.trans hd) (by rw [(qf j q hj).1,hq];simp)
        simp only [Foot.clash,e3,Bool.true_or,Bool.or_true]
      rw [e2,ZdH recs i r s.t hi,hd]
      simp [VB]
     ·have e1:VB (XB D recs 0 s.t) r.o.dst r.v t=XB D recs 0 s.t t:=by
       cases hx:r.o.dst with
       | none=>rfl
       | some d=>simp only [VB];rw [if_neg (fun e=>hd (by rw [hx,e]))]
      rw [e1]
      refine WE recs 0 _ _ rfl fun j q hj hq=>?_
      rw [Nat.zero_add]
      by_cases hji:j=i
      ·subst hji
       rw [hi] at hj;cases hj
       exact absurd hq hd
      ·simp [hji]
    have hB:ZN (WA D recs 0 s.b) r.up=WA (fun j=>if j=i then true else D j) recs 0 s.b:=by
     funext x
     by_cases hd:x∈r.up.map (·.1)
     ·have e2:WA (fun j=>if j=i then true else D j) recs 0 s.b x=U1 (recs.take (i+1)) s.b x:=by
       rw [←VW (D:=fun j=>decide (j<i+1)) recs 0 (i+1) s.b (fun j hj=>by simpa using hj) (fun j hj=>by simp;omega)]
       refine WG recs 0 _ _ rfl fun j q hj hq=>tri' j q hj (fun _=>?_) fun _=>?_
       ·have e3:ZeO q.foot.wb r.foot.wb=true:=J1 (by rw [(qf j q hj).2];exact hq) (by rw [fw];exact hd)
        simp only [Foot.clash,e3,Bool.true_or,Bool.or_true]
       ·have e3:ZeO r.foot.wb q.foot.wb=true:=J1 (by rw [fw];exact hd) (by rw [(qf j q hj).2];exact hq)
        simp only [Foot.clash,e3,Bool.true_or,Bool.or_true]
      rw [e2,Zec recs i r s.b hi]
      have:∃b,Zy r.up x=some b:=by
       generalize r.up=up at hd
       induction up with
       | nil=>simp at hd
       | cons p up ih=>
         obtain ⟨y,b⟩:=p
         simp only [Zy]
         split
         ·exact ⟨b,rfl⟩
         ·rename_i hne
          exact ih (by simp at hd ⊢;rcases hd with h|h;exact absurd h hne;exact h)
      obtain ⟨b,hb⟩:=this
      rw [YZ hb,YZ hb]
     ·have hn:Zy r.up x=none:=by
       generalize r.up=up at hd
       induction up with
       | nil=>rfl
       | cons p up ih=>
         obtain ⟨y,b⟩:=p
         simp only [Zy]
         rw [if_neg (fun e=>hd (by simp [e]))]
         exact ih (fun h=>hd (by simp at h ⊢;exact .inr h))
      rw [QG hn]
      refine WG recs 0 _ _ rfl fun j q hj hq=>?_
      rw [Nat.zero_add]
      by_cases hji:j=i
      ·subst hji
       rw [hi] at hj;cases hj
       exact absurd hq hd
      ·simp [hji]
    have hg:VO ops r.o.guard (XB D recs 0 s.t)=some r.want:=by
     rw [Zfh (T:=UM (recs.take i) s.t) (fun t ht=>agT t (fg t ht))]
     exact hok.grd
    have hwant:=UR h1 hg
    cases hw:r.want with
    | false=>
      rw [hw] at hwant
      rw [if_neg (by rw [hwant];simp)]
      obtain ⟨n1,n2,n3⟩:=hok.no hw
      refine hK _ _ ⟨L,?_,fun x hx hn=>h2 x hx fun k q hk hdk=>hn k q hk (by dsimp only;split <;>first|rfl|exact hdk),?_,hlk⟩
      ·rw [←hT,←hB,n1,n2,QT]
       exact Zi9 h1 (ZaQ hok.dst) _
      ·rw [←hB,n2,QT]
       exact h3
    | true=>
      rw [hw] at hwant
      rw [if_pos hwant]
      obtain ⟨y1,y2⟩:=hok.yes hw
      have hrun:(aop P O r.o r.f).run (XB D recs 0 s.t) (WA D recs 0 s.b)=some (r.v,r.up,r.f'):=by
       rw [Tr.run_congr (T:=UM (recs.take i) s.t) (B:=U1 (recs.take i) s.b) _ (fun t ht=>agT t (by rw [y2];simp [ht])) (fun x hx=>agB x (by rw [y2];exact hx))]
       exact y1
      have hfree:∀x,r.f≤x→x<r.f'→L x=none:=fun x hx1 hx2=>h2 x (by omega) fun k q hk hdk hc=>by
       rcases Nat.lt_trichotomy k i with h|h|h
       ·have:=r7 k i q r hk hi h;omega
       ·subst h;rw [hDi] at hdk;cases hdk
       ·have:=r7 i k r q hi hk h;omega
      refine ZdM hO h1 hrun hfree fun v' w' L' hA hv hnew=>hK _ _ ⟨L',?_,fun x hx hn=>?_,?_,fun i u hi hu=>hA.lk _ _ (hlk i u hi hu)⟩
      ·rw [←hT,←hB]
       exact h1.aft hA hv (ZaQ hok.dst)
      ·cases hl:L' x with
       | none=>rfl
       | some u=>
         have h9:L x=none:=h2 x hx fun k q hk hdk=>hn k q hk (by dsimp only;split <;>first|rfl|exact hdk)
         have:=hnew x h9 (by rw [hl];simp)
         exact absurd this (hn i r hi (by simp))
      ·rw [←hB]
       exact h3.trans hA.run
   -- the last
   have done:∀(D:Nat→Bool) a w,(∀i,i<recs.length→D i=true)→Inv D a w→Q .normal a w:=fun D a w hD ⟨L,h1,h2,h3,hlk⟩=>by
    have eT:XB D recs 0 s.t=s'.t:=by
     rw [r3]
     funext t
     have:=Ue (D:=fun j=>decide (j<recs.length)) recs 0 recs.length s.t (fun j hj=>by simpa using hj) (fun j hj=>by simp;omega)
     rw [List.take_length] at this
     rw [←this]
     exact WE recs 0 _ _ rfl fun j q hj _=>by have hlt:=(List.getElem?_eq_some_iff.1 hj).1;rw [Nat.zero_add,hD j hlt];simp [hlt]
    have eB:WA D recs 0 s.b=s'.b:=by
     rw [r4]
     funext t
     have:=VW (D:=fun j=>decide (j<recs.length)) recs 0 recs.length s.b (fun j hj=>by simpa using hj) (fun j hj=>by simp;omega)
     rw [List.take_length] at this
     rw [←this]
     exact WG recs 0 _ _ rfl fun j q hj _=>by have hlt:=(List.getElem?_eq_some_iff.1 hj).1;rw [Nat.zero_add,hD j hlt];simp [hlt]
    rw [eT,eB] at h1
    rw [eB] at h3
    refine hQ a w ⟨L,h1,fun x hx=>h2 x (by omega) fun i r hi _ hc=>?_,h3,hlk⟩
    have:=(r6 i r hi).2.2
    omega
   -- any order
   have main:∀(fuel:Nat) (listed:Array Bool) (a:Act) (w:World),listed.size=ops.size→(∀(j:Nat) (o:Oper),ops[j]?=some o→listed.getD j false=true→∀e∈o.after,Region.binds .any e=true→listed.getD e.on false=true)→
     (∃n,n≤fuel∧(List.range ops.size).countP (fun i=>!listed.getD i false)=n)→Inv (fun i=>listed.getD i false) a w→wpAny P .any ops Q fuel listed a w:=by
    have allD:∀(listed:Array Bool),listed.size=ops.size→Region.ready .any ops listed=[]→∀i,i<recs.length→listed.getD i false=true:=fun listed hl hr=>by
     intro i
     induction i using Nat.strongRecOn with
     | _ i ih=>
       intro hi
       cases hx:listed.getD i false with
       | true=>rfl
       | false=>
         have hio:i<ops.size:=by omega
         have hlt:i<listed.size:=by omega
         have hmem:i∈Region.ready .any ops listed:=by
          refine mem_ready.2 ⟨?_,ops[i],Array.getElem?_eq_getElem hio,fun e he hb=>?_⟩
          ·rw [Array.getD_eq_getD_getElem?,Array.getElem?_eq_getElem hlt] at hx ⊢
           exact hx
          ·have h9:ops.toList[i]?=some ops[i]:=by simp [hio]
           have:=ZcW hdeps i _ h9 e he hb
           exact ih e.on (by omega) (by omega)
         rw [hr] at hmem
         cases hmem
    intro fuel
    induction fuel with
    | zero=>
      intro listed a w hl hcl ⟨n,hn,hcount⟩ hI
      have hn0:n=0:=by omega
      subst hn0
      have X8:∀i,i<ops.size→listed.getD i false=true:=fun i hi=>by
       have:=List.countP_eq_zero.1 hcount i (by simpa using hi)
       simpa using this
      refine ⟨?_,done _ a w (fun i hi=>X8 i (by omega)) hI⟩
      apply List.eq_nil_iff_forall_not_mem.2
      intro i hi
      obtain ⟨h1,o,h2,_⟩:=mem_ready.1 hi
      have hlt:=(Array.getElem?_eq_some_iff.1 h2).1
      have h3:=X8 i hlt
      have h5:i<listed.size:=by omega
      rw [Array.getD_eq_getD_getElem?,Array.getElem?_eq_getElem h5] at h1 h3
      simp at h1 h3
      rw [h1] at h3;cases h3
    | succ fuel ih=>
      intro listed a w hl hcl ⟨n,hn,hcount⟩ hI
      refine ⟨fun hr=>done _ a w (allD listed hl hr) hI,fun i hi=>?_⟩
      obtain ⟨h1,o,h2,X8⟩:=mem_ready.1 hi
      have hlt:=(Array.getElem?_eq_some_iff.1 h2).1
      have h5:i<listed.size:=by omega
      have hDi:listed.getD i false=false:=by
       rw [Array.getD_eq_getD_getElem?,Array.getElem?_eq_getElem h5] at h1 ⊢
       exact h1
      have hri:recs[i]?=some (recs[i]'(by omega)):=List.getElem?_eq_getElem _
      have hoo:=hro i _ hri
      rw [h2] at hoo
      have hoo':o=(recs[i]'(by omega)).o:=by cases hoo;rfl
      have hset:∀j,(listed.setIfInBounds i true).getD j false=if j=i then true else listed.getD j false:=fun j=>by
       by_cases hji:j=i
       ·subst hji
        rw [if_pos rfl,Array.getD_eq_getD_getElem?,Array.getElem?_setIfInBounds_self_of_lt h5];rfl
       ·rw [if_neg hji,Array.getD_eq_getD_getElem?,Array.getElem?_setIfInBounds_ne (Ne.symm hji),←Array.getD_eq_getD_getElem?]
      have hstep:=step (fun i=>listed.getD i false) i _ hri hDi hcl (by rw [←hoo'];exact X8) a w hI (wpAny P .any ops Q fuel (listed.setIfInBounds i true)) fun a' w' hI'=>ih _ a' w' (by simpa using hl) (fun j o' hj hdj e he hb=>by
        rw [hset] at hdj ⊢
        by_cases hji:j=i
        ·subst hji
         rw [h2] at hj;cases hj
         have:=X8 e he hb
         split <;>first|rfl|exact this
        ·rw [if_neg hji] at hdj
         have:=hcl j o' hj hdj e he hb
         split <;>first|rfl|exact this) ⟨(List.range ops.size).countP (fun i_1=>!(listed.setIfInBounds i true).getD i_1 false),by
          have hlt2:(List.range ops.size).countP (fun i_1=>!(listed.setIfInBounds i true).getD i_1 false)<(List.range ops.size).countP (fun i=>!listed.getD i false):=by
           refine ZeB (x:=i) (by simpa using hlt) (by simp [hDi]) (by rw [hset];simp) fun y _ hy=>?_
           rw [hset] at hy
           split at hy
           ·simp at hy
           ·exact hy
          omega,rfl⟩ (by
           have e:(fun i_1=>(listed.setIfInBounds i true).getD i_1 false)=fun j=>if j=i then true else listed.getD j false:=funext hset
           rw [e];exact hI')
      unfold wpOp
      rw [h2]
      dsimp only
      rw [hoo']
      split
      ·rename_i hw
       rw [if_pos hw] at hstep
       exact .inl hstep
      ·rename_i hw
       rw [if_neg hw] at hstep
       exact hstep
   refine wp_region_any hm (main ops.size _ a _ (by simp) (fun j o hj hd=>?_) ⟨_,Nat.le_trans List.countP_le_length (by simp),rfl⟩ ?_)
   ·rw [Array.getD_eq_getD_getElem?,Array.getElem?_replicate] at hd
    split at hd <;>simp at hd
   ·obtain ⟨L,h1,h2,h3,hlk⟩:=hf
    have e:(fun i=>(Array.replicate ops.size false).getD i false)=fun _=>false:=by
     funext i
     rw [Array.getD_eq_getD_getElem?,Array.getElem?_replicate]
     split <;>rfl
    rw [e]
    have eT:XB (fun _=>false) recs 0 s.t=s.t:=by
     have:=Ue (D:=fun _=>false) recs 0 0 s.t (fun j hj=>by omega) (fun _ _=>rfl)
     rw [this];simp [UM]
    have eB:WA (fun _=>false) recs 0 s.b=s.b:=by
     have:=VW (D:=fun _=>false) recs 0 0 s.b (fun j hj=>by omega) (fun _ _=>rfl)
     rw [this];simp [U1]
    refine ⟨L,?_,fun x hx _=>h2 x hx,?_,hlk⟩
    ·rw [eT,eB]
     have hA:Aft E s.b L s.b L w w.drew:=by
      have:=(Step.still (E:=E) (B:=s.b) (L:=L) (Mod.drew (fun _ _=>False) w)).aft h1.bs
      rwa [QT] at this
     exact ⟨fun t=>hA.rep (h1.slots t),hA.bs,h1.size,h1.defers⟩
    ·rw [eB]
     exact h3.trans ⟨Mod.drew _ _,fun id blk v g k1 k2 k3 _=>⟨id,blk,v,k1,k2,k3,fun _ h=>h⟩⟩
  ·cases hs
 ·cases hs
end
end
section
open Go.RowKit
def EM:Ex→Exit→Prop
 | .nrm,.normal=>True
 | .exit i,.exit j=>i=j
 | .ret,.ret=>True
 | _,_=>False
section
variable{P:Program}{E:Nat→Nat→Prop}{w w' w1:World}{m N:Nat}{T:Nat→AV}{B B' B1:Nat→Option AB}{L L' L1:Nat→Option Value}{a:Act}{up:List (Nat × Option AB)}{ok:Nat→Nat→Prop}
theorem ZhJ(h:SRel E N T B L a w)(x:Operand):Rep w (okS E B L) L (Ztf x T) (a.eval x):=by
 cases x with
 | tmp t=>exact h.slots t
 | const v=>exact .t (Zjw _ v)
 | global g=>exact .t (.any _)
 | func f=>exact .t (.any _)
theorem ZbH{O:FuncId→Option Orc}{lives:List Nat}{c:Code}{step:St→Option (Ex × St)}{B0:Nat→Option AB}{L0:Nat→Option Value}{w0:World}(hstep:∀(s:St) (ex:Ex) (s':St),step s=some (ex,s')→∀a w,VD E m N B0 L0 w0 s a w→c.wp P (fun e a' w'=>EM ex e∧VD E m N B0 L0 w0 s' a' w') a w):
  ∀(n:Nat) (s:St) (ex:Ex) (s':St),UZ m step lives n s=some (ex,s')→ex≠.nrm∧∀a w,VD E m N B0 L0 w0 s a w→Code.rounds P c (fun e a' w'=>EM ex e∧VD E m N B0 L0 w0 s' a' w') n a w
 | 0,s,ex,s',h=>by simp [UZ] at h
 | n+1,s,ex,s',h=>by
   simp only [UZ] at h
   split at h
   ·rename_i s1 hg
    split at h
    ·rename_i s2 h2
     obtain ⟨h3,h4⟩:=ZbH (O:=O) hstep n s2 ex s' h
     refine ⟨h3,fun a w hf=>?_⟩
     rw [rounds_succ]
     refine wp_mono (hstep s1 _ s2 h2 a w (Zcy hg hf)) fun e a' w' ⟨he,hf'⟩=>?_
     cases e with
     | normal=>exact h4 a' w' hf'
     | _=>exact he.elim
    ·rename_i hne
     have h5:ex≠.nrm:=fun e=>by subst e;exact hne s' h
     refine ⟨h5,fun a w hf=>?_⟩
     rw [rounds_succ]
     refine wp_mono (hstep s1 ex s' h a w (Zcy hg hf)) fun e a' w' ⟨he,hf'⟩=>?_
     cases e with
     | normal=>cases ex <;>first|exact absurd rfl h5|exact he.elim
     | _=>exact ⟨he,hf'⟩
   ·cases h
theorem Zcw{O:FuncId→Option Orc}(hO:OrcOk P O)(hm:P.follows .mixedOrders=true)(lives:Nat→List Nat)(fuel:Nat){B0:Nat→Option AB}{L0:Nat→Option Value}{w0:World}:
  ∀(c:Code) (s:St) (ex:Ex) (s':St),exec P O m N lives fuel c s=some (ex,s')→∀a w,VD E m N B0 L0 w0 s a w→c.wp P (fun e a' w'=>EM ex e∧VD E m N B0 L0 w0 s' a' w') a w:=by
 intro c
 induction c with
 | skip=>
   intro s ex s' h a w hf
   simp only [exec,Option.some.injEq,Prod.mk.injEq] at h
   obtain ⟨rfl,rfl⟩:=h
   exact wp_skip ⟨trivial,hf⟩
 | label l=>
   intro s ex s' h a w hf
   simp only [exec,Option.some.injEq,Prod.mk.injEq] at h
   obtain ⟨rfl,rfl⟩:=h
   exact wp_label ⟨trivial,hf⟩
 | exit id=>
   intro s ex s' h a w hf
   simp only [exec,Option.some.injEq,Prod.mk.injEq] at h
   obtain ⟨rfl,rfl⟩:=h
   exact wp_exit ⟨rfl,hf⟩
 | ret=>
   intro s ex s' h a w hf
   simp only [exec,Option.some.injEq,Prod.mk.injEq] at h
   obtain ⟨rfl,rfl⟩:=h
   exact wp_ret ⟨trivial,hf⟩
 | region id ops d=>
   intro s ex s' h a w hf
   cases d with
   | true=>
     simp only [exec] at h
     split at h
     ·rename_i s1 h1
      simp only [Option.some.injEq,Prod.mk.injEq] at h
      obtain ⟨rfl,rfl⟩:=h
      exact Zh1 hO hm h1 hf fun a' w' hf'=>⟨trivial,hf'⟩
     ·cases h
   | false=>
     simp only [exec] at h
     split at h
     ·rename_i s1 h1
      simp only [Option.some.injEq,Prod.mk.injEq] at h
      obtain ⟨rfl,rfl⟩:=h
      exact wp_region_list (Zc1 hO _ s s1 h1 (fun a' w' hf'=>⟨trivial,hf'⟩) a w hf)
     ·cases h
 | seq x y ihx ihy=>
   intro s ex s' h a w hf
   simp only [exec] at h
   split at h
   ·rename_i s1 h1
    refine wp_seq (wp_mono (ihx s _ s1 h1 a w hf) fun e a' w' ⟨he,hf'⟩=>?_)
    cases e with
    | normal=>exact ihy s1 ex s' h a' w' hf'
    | _=>exact he.elim
   ·rename_i hne
    refine wp_seq (wp_mono (ihx s ex s' h a w hf) fun e a' w' ⟨he,hf'⟩=>?_)
    cases e with
    | normal=>
      cases ex with
      | nrm=>exact absurd h (hne s')
      | _=>exact he.elim
    | _=>exact ⟨he,hf'⟩
 | cond c x y ihx ihy=>
   intro s ex s' h a w hf
   obtain ⟨ok,L,hc⟩:∃ok L,Rep w ok L (Ztf c s.t) (a.eval c):=by obtain ⟨L,h1,_⟩:=hf;exact ⟨_,_,ZhJ h1 c⟩
   simp only [exec] at h
   split at h
   ·rename_i e
    rw [e] at hc
    exact wp_cond_true (ZU hc) (ihx s ex s' h a w hf)
   ·rename_i e
    rw [e] at hc
    exact wp_cond_false (ZU hc) (ihy s ex s' h a w hf)
   ·cases h
 | block id c ih=>
   intro s ex s' h a w hf
   simp only [exec] at h
   split at h
   ·rename_i i s1 h1
    refine wp_block (wp_mono (ih s _ s1 h1 a w hf) fun e a' w' ⟨he,hf'⟩=>?_)
    cases e with
    | exit j=>
      cases he
      simp only [Exit.inBlock]
      split at h
      ·rename_i e
       cases h
       rw [if_pos e]
       exact ⟨trivial,hf'⟩
      ·rename_i e
       cases h
       rw [if_neg e]
       exact ⟨rfl,hf'⟩
    | _=>exact he.elim
   ·rename_i hne
    refine wp_block (wp_mono (ih s ex s' h a w hf) fun e a' w' ⟨he,hf'⟩=>?_)
    cases e with
    | exit j=>
      cases ex with
      | exit i=>exact absurd h (hne i s')
      | _=>exact he.elim
    | _=>exact ⟨he,hf'⟩
 | loop c ih=>
   intro s ex s' h a w hf
   simp only [exec] at h
   split at h
   ·rename_i ex1 s1 h1
    split at h
    ·rename_i s2 h2
     simp only [Option.some.injEq,Prod.mk.injEq] at h
     obtain ⟨rfl,rfl⟩:=h
     exact wp_mono (wp_loop_rounds fuel ((ZbH (O:=O) ih fuel s _ s1 h1).2 a w hf)) fun e a' w' ⟨he,hf'⟩=>⟨he,Zcy h2 hf'⟩
    ·cases h
   ·cases h
 | rangeFunc f ps x y ihx ihy=>intro s ex s' h;simp [exec] at h
 | scope c ih=>
   intro s ex s' h a w hf
   simp only [exec] at h
   refine wp_scope_straight (wp_mono (ih s ex s' h a w hf) fun e a' w' ⟨he,hf'⟩=>?_)
   cases e with
   | goto l=>cases ex <;>exact he.elim
   | _=>exact ⟨he,hf'⟩
 | goto l=>intro s ex s' h;simp [exec] at h
 | refuse y=>intro s ex s' h;simp [exec] at h
def ZdZ(tmps:Array Value):ResultVar→Sem Value
 | .tmp t=>pure (tmps.getD t undef)
 | .cell b t=>do loadVar t (←asAddr (tmps.getD b undef))
theorem JH(fn:Func)(tmps:Array Value):results fn tmps=(do let vs ←fn.results.mapM (ZdZ tmps);pure (if h:vs.size=1 then vs[0] else .tuple vs)):=by
 have e:(fun (r:ResultVar)=>(match r with|.tmp t=>pure (tmps.getD t undef)|.cell b t=>(do loadVar t (←asAddr (tmps.getD b undef))):Sem Value))=ZdZ tmps:=by
  funext r;cases r <;>rfl
 rw [←e]
 rfl
theorem ZlP{s:St}(h:SRel E N s.t s.b L a w){r:ResultVar}{d:AV}(hd:rvA P s r=some d):
  ∃v,(ZdZ a.tmps r).run P w=.ok v w∧Rep w (okS E s.b L) L d v:=by
 cases r with
 | tmp t=>
   simp only [rvA,Option.some.injEq] at hd
   subst hd
   exact ⟨_,by simp [ZdZ],h.slots t⟩
 | cell b t=>
   simp only [rvA] at hd
   split at hd
   ·rename_i g n ht
    split at hd
    ·rename_i v up nx hr
     cases hd
     obtain ⟨_,_,u,h1,h2⟩:=ZgL h.bs ht (h.slots b) hr
     refine ⟨u,?_,h2⟩
     have h3:∃A,a.tmps.getD b undef=.pointer (some A):=by
      have h4:=h.slots b
      generalize a.tmps.getD b undef=x at h1 h4
      unfold ldT at hr
      split at hr
      ·rename_i e
       rw [e] at h4
       obtain ⟨b',o',rfl,_⟩:=(Ke h4).mem_inv
       exact ⟨_,rfl⟩
      ·rename_i e
       rw [e] at h4
       cases h4 with
       | t h4=>cases h4
       | ptr _=>exact ⟨_,rfl⟩
      ·rename_i e
       rw [e] at h4
       cases h4 with
       | t h4=>cases h4
       | rptr _=>exact ⟨_,rfl⟩
      ·simp [Tr.run] at hr
     obtain ⟨A,hA⟩:=h3
     rw [hA] at h1
     simp only [ZdZ,hA,asAddr,Sem.run_bind,Sem.run_pure,Result.andThen_ok]
     simpa [Instr.loadAt,Instr.sureAddr] using h1
    ·cases hd
   ·cases hd
theorem KT{s:St}(h:SRel E N s.t s.b L a w):∀{rs:List ResultVar} {ds:List AV},rvL P s rs=some ds→
  ∃vs,(rs.mapM (ZdZ a.tmps)).run P w=.ok vs w∧RV (Rep w (okS E s.b L) L) ds vs
 | [],ds,hd=>by
   simp only [rvL,Option.some.injEq] at hd
   subst hd
   exact ⟨[],by simp,rfl,fun i d hi=>by simp at hi⟩
 | r::rs,ds,hd=>by
   simp only [rvL] at hd
   split at hd
   ·rename_i d ds' h1 h2
    cases hd
    obtain ⟨v,h3,h4⟩:=ZlP h h1
    obtain ⟨vs,h5,h6,h7⟩:=KT h h2
    refine ⟨v::vs,by rw [List.mapM_cons];simp only [Sem.run_bind,h3,Result.andThen_ok,h5,Sem.run_pure],by simp [h6],fun i d hi=>?_⟩
    cases i with
    | zero=>simp at hi;subst hi;exact ⟨v,rfl,h4⟩
    | succ i=>exact h7 i d (by simpa using hi)
   ·cases hd
theorem Zi3(h:BsRel E B L w){d r:AV}{up:List (Nat × Option AB)}{nx:Nat}(hr:(res 3 d fun d _=>.done d [] 0).run T B=some (r,up,nx)){v:Value}(hv:Rep w (okS E B L) L d v):RepT w E r v:=by
 obtain ⟨d',fs,h1,h2⟩:=Ql h 3 d _ _ hr
 simp only [Tr.run,Option.some.injEq,Prod.mk.injEq] at h1
 obtain ⟨rfl,_,_⟩:=h1
 exact (h2 v hv _ (FrzOk.of h fs)).mono (fun _ _ _ _ h=>h) fun b o _ h3 _=>h3.1
theorem Zdw{s:St}(h:SRel E N s.t s.b L a w){fn:Func}{r:AV}(hr:KN P s fn.results.toList=some r):∃v,(results fn a.tmps).run P w=.ok v w∧RepT w E r v:=by
 unfold KN at hr
 split at hr
 ·rename_i d hd
  obtain ⟨vs,h1,h2,h3⟩:=KT h hd
  split at hr
  ·rename_i v up nx hres
   cases hr
   match vs,h2 with
   | [u],_=>
     obtain ⟨u',h4,h5⟩:=h3 0 d rfl
     simp at h4
     subst h4
     refine ⟨u,?_,Zi3 h.bs hres h5⟩
     rw [JH,Array.mapM_eq_mapM_toList]
     simp only [Sem.run_bind,Sem.run_map,h1,Result.andThen_ok,Sem.run_pure]
     rfl
  ·cases hr
 ·rename_i ds hne hd
  obtain ⟨vs,h1,h2⟩:=KT h hd
  split at hr
  ·rename_i v up nx hres
   cases hr
   obtain ⟨h3,h4⟩:=RV.getD h2
   refine ⟨.tuple vs.toArray,?_,Zi3 h.bs hres (.tup h3 h4)⟩
   rw [JH,Array.mapM_eq_mapM_toList]
   have hl:¬vs.toArray.size=1:=fun e=>by
    have e1:ds.length=1:=by rw [←h3];exact e
    match ds,e1 with
    | [d],_=>exact hne d rfl
   simp only [Sem.run_bind,Sem.run_map,h1,Result.andThen_ok,Sem.run_pure,dif_neg hl]
  ·cases hr
 ·cases hr
theorem Zbc:∀(l:List AV) (i x:Nat),ZaL (Vy l i) x=if i≤x then (l[x-i]?).getD .any else .any
 | [],i,x=>by simp [Vy,ZaL]
 | d::l,i,x=>by
   simp only [Vy,ZaL]
   split
   ·rename_i e;subst e;simp
   ·rename_i e
    rw [Zbc l (i+1) x]
    by_cases h:i+1≤x
    ·rw [if_pos h,if_pos (by omega),show x-i=(x-(i+1))+1 by omega,List.getElem?_cons_succ]
    ·rw [if_neg h,if_neg (by omega)]
theorem Ze3{O:FuncId→Option Orc}(hO:OrcOk P O)(hm:P.follows .mixedOrders=true){f:FuncId}{fn:Func}{c:Code}(hf:P.funcs[f]?=some fn)(hb:fn.body=some c){lives:Nat→List Nat}{fuel:Nat}{args:List AV}{r:AV}(h:ZiT P O lives fuel fn.ntmps fn.results.toList c args=some r):Con P f args r:=by
 intro w ok vs hgl hvs
 unfold ZiT at h
 split at h
 ·rename_i hN
  have hle:=Nat.le_of_ble_eq_true hN
  have hsz:vs.size=args.length:=by have:=hvs.1;simpa using this
  -- the cells that the run may speak of
  let E:Nat→Nat→Prop:=fun b o=>ok b o∨w.heap.size≤b∨∃z,w.cell? ⟨b,o,none⟩=some (.int .u32 z)
  have hfit:VD E 0 fn.ntmps (fun _=>none) (fun _=>none) w ⟨Vy args 0,[],0⟩ {tmps:=vs++Array.replicate (fn.ntmps-vs.size) undef,defers:=[]} w:=by
   refine ⟨fun _=>none,⟨fun t=>?_,⟨fun id blk h=>(by simp [St.b,Zy] at h),fun id blk v g h=>(by simp [St.b,Zy] at h),fun g o hg=>.inr (.inl hg),fun b o z hz=>.inr (.inr ⟨z,hz⟩),fun id id' blk blk' v v' g h=>(by simp [St.b,Zy] at h),hgl.mono (fun _ _ _ _ h=>h) (fun b o _ h3 _=>⟨.inl h3,fun id blk v h=>by simp [St.b,Zy] at h⟩) fun _ _=>rfl⟩,by simp;omega,rfl⟩,fun _ _=>rfl,?_,fun i u hi=>by omega⟩
   ·have e:(⟨Vy args 0,[],0⟩:St).t t=(args[t]?).getD .any:=by
     simp only [St.t]
     rw [Zbc]
     simp
    rw [e]
    cases ht:args[t]? with
    | none=>exact .t (.any _)
    | some d=>
      obtain ⟨u,h1,h2⟩:=hvs.2 t d ht
      have hlt:=(List.getElem?_eq_some_iff.1 h1).1
      have e2:(vs++Array.replicate (fn.ntmps-vs.size) undef).getD t undef=u:=by
       rw [Array.getD_eq_getD_getElem?,Array.getElem?_append_left (by simpa using hlt),←Array.getElem?_toList,h1];rfl
      rw [e2]
      exact .t (h2.mono (fun _ _ _ _ h=>h) fun b o _ h3 _=>⟨.inl h3,fun id blk v h=>by simp [St.b,Zy] at h⟩)
   ·have:(⟨Vy args 0,[],0⟩:St).b=fun _=>none:=by funext x;rfl
    rw [this]
    exact Run.refl
  have key:∀(ex:Ex) (s:St),exec P O 0 fn.ntmps lives fuel c ⟨Vy args 0,[],0⟩=some (ex,s)→(ex=.nrm∨ex=.ret)→KN P s fn.results.toList=some r→Calls P f vs w (fun e w'=>∃v,e=.returned v∧RepT w' (okN ok w w') r v∧Below w.heap.size w w'):=fun ex s hex hx hres=>by
   refine calls_of_wp hf hb (wp_mono (Zcw hO hm lives fuel c _ ex s hex _ w hfit) fun e a' w' ⟨he,hf'⟩=>?_)
   obtain ⟨L,h1,_,hrun,_⟩:=hf'
   obtain ⟨v,h2,h3⟩:=Zdw h1 hres
   have hbel:Below w.heap.size w w':=by
    have hm:=hrun.mod
    refine ⟨hm.os,hm.tape,hm.output,hm.size,fun k hk=>hm.block k hk fun o ⟨id,blk,v,h,_⟩=>by cases h⟩
   have fin:a'.defers=[]∧∃v,(results fn a'.tmps).run P w'=.ok v w'∧(∃v',Ending.returned v=.returned v'∧RepT w' (okN ok w w') r v'∧Below w.heap.size w w'):=by
    refine ⟨h1.defers,v,h2,v,rfl,h3.mono (fun _ _ _ _ h=>h) fun b o u h4 h5=>?_,hbel⟩
    rcases h4 with h4|h4|⟨z,h4⟩
    ·exact .inl h4
    ·exact .inr (.inl h4)
    ·refine .inr (.inr ⟨z,?_⟩)
     rw [hbel.cell (p:=⟨b,o,none⟩) (Jj h4)]
     exact h4
   rcases hx with rfl|rfl
   ·cases e with
    | normal=>exact fin
    | _=>exact he.elim
   ·cases e with
    | ret=>exact fin
    | _=>exact he.elim
  split at h
  ·rename_i s hex;exact key _ s hex (.inl rfl) h
  ·rename_i s hex;exact key _ s hex (.inr rfl) h
  ·cases h
 ·cases h
theorem Zd5:∀(l:List AB) (i x:Nat),(Zy (Ky l i) x).getD none=if i≤x then l[x-i]? else none
 | [],i,x=>by simp [Ky,Zy]
 | d::l,i,x=>by
   simp only [Ky,Zy]
   split
   ·rename_i e;subst e;simp
   ·rename_i e
    rw [Zd5 l (i+1) x]
    by_cases h:i+1≤x
    ·rw [if_pos h,if_pos (by omega),show x-i=(x-(i+1))+1 by omega,List.getElem?_cons_succ]
    ·rw [if_neg h,if_neg (by omega)]
theorem Wn{b:Nat→Option AB}:∀{l:List Nat} {o:List (Nat × AB)},Zdb b l=some o→∀i blk,Yx o i=some blk→b i=some blk∧i∈l
 | [],o,h,i,blk,hl=>by simp [Zdb] at h;subst h;simp [Yx] at hl
 | x::l,o,h,i,blk,hl=>by
   simp only [Zdb] at h
   split at h
   ·rename_i r hr
    split at h
    ·rename_i y hy
     cases h
     simp only [Yx] at hl
     split at hl
     ·rename_i e;subst e;cases hl;exact ⟨hy,List.mem_cons_self ..⟩
     ·exact ⟨(Wn hr i blk hl).1,List.mem_cons_of_mem _ (Wn hr i blk hl).2⟩
    ·cases h
     exact ⟨(Wn hr i blk hl).1,List.mem_cons_of_mem _ (Wn hr i blk hl).2⟩
   ·cases h
theorem BsRel.sub(h:BsRel E B L w)(hs:∀id blk,B' id=some blk→B id=some blk):(∀b o,okS E B L b o→okS E B' L b o)∧BsRel E B' L w:=by
 have hok:∀b o,okS E B L b o→okS E B' L b o:=fun b o hk=>⟨hk.1,fun id blk v h1 h2 h3=>hk.2 id blk v (hs id blk h1) h2 h3⟩
 exact ⟨hok,fun id blk h1=>(h.blk id blk (hs id blk h1)).keep (fun _ _ _ _=>rfl) (fun _ _ _ _ h=>h) (fun b o _ hk _=>hok b o hk) (fun _ _ h=>h),fun id blk v g h1=>h.ext id blk v g (hs id blk h1),h.fresh,h.limb,
  fun id id' blk blk' v v' g h1 h2=>h.inj id id' blk blk' v v' g (hs id blk h1) (hs id' blk' h2),h.glob.mono (fun _ _ _ _ h=>h) (fun b o _ hk _=>hok b o hk) fun _ _=>rfl⟩
theorem ZuZ{s:St}(h:SRel E N s.t s.b L a w){fn:Func}{ds:List AV}(hd:rvL P s fn.results.toList=some ds):∃v,(results fn a.tmps).run P w=.ok v w∧Rep w (okS E s.b L) L (ZfD ds) v:=by
 obtain ⟨vs,h1,h2,h3⟩:=KT h hd
 rw [JH,Array.mapM_eq_mapM_toList]
 match ds,vs,h2,h3 with
 | [d],[u],_,h3=>
   obtain ⟨u',h4,h5⟩:=h3 0 d rfl
   simp at h4
   subst h4
   refine ⟨u,?_,h5⟩
   simp only [Sem.run_bind,Sem.run_map,h1,Result.andThen_ok,Sem.run_pure]
   rfl
 | [],[],_,h3=>
   refine ⟨.tuple #[],?_,.tup rfl fun i d hi=>by simp at hi⟩
   simp only [Sem.run_bind,Sem.run_map,h1,Result.andThen_ok,Sem.run_pure]
   rfl
 | d::d'::ds,u::u'::vs,h2,h3=>
   obtain ⟨h4,h5⟩:=RV.getD (R:=Rep w (okS E s.b L) L) (cs:=d::d'::ds) (vs:=u::u'::vs) ⟨h2,h3⟩
   refine ⟨.tuple (u::u'::vs).toArray,?_,.tup h4 h5⟩
   have hl:¬(u::u'::vs).toArray.size=1:=by simp
   simp only [Sem.run_bind,Sem.run_map,h1,Result.andThen_ok,Sem.run_pure,dif_neg hl]
theorem Zdt{s:St}{m:Nat}(h:SRel E N s.t s.b L a w){fn:Func}{keep:Bool}{r:AV}{o:List (Nat × AB)}(hr:Jd P s m keep fn.results.toList=some (r,o)):∃v,(results fn a.tmps).run P w=.ok v w∧BsRel E (Yx o) L w∧Rep w (okS E (Yx o) L) L r v∧∀id blk,Yx o id=some blk→s.b id=some blk:=by
 unfold Jd at hr
 split at hr
 ·rename_i ds hds
  obtain ⟨v,hv,hrep⟩:=ZuZ h hds
  split at hr
  ·split at hr
   ·rename_i o' ho
    cases hr
    have hsub:∀i blk,Yx o i=some blk→s.b i=some blk:=fun i blk hl=>(Wn ho i blk hl).1
    obtain ⟨hok,hbs⟩:=h.bs.sub hsub
    exact ⟨v,hv,hbs,hrep.mono (fun _ _ _ _ h=>h) (fun b o _ hk _=>hok b o hk) (fun _ _ h=>h),hsub⟩
   ·cases hr
  ·split at hr
   ·rename_i r' up nx hres
    split at hr
    ·rename_i hup
     split at hr
     ·rename_i o' ho
      cases hr
      obtain ⟨d',fs,h1,h2⟩:=Ql h.bs 3 _ _ _ hres
      simp only [Tr.run,Option.some.injEq,Prod.mk.injEq] at h1
      obtain ⟨rfl,rfl,_⟩:=h1
      have hT:=h2 v hrep _ (FrzOk.of h.bs fs)
      have hsub:∀i blk,Yx o i=some blk→s.b i=some blk:=fun i blk hl=>(Wn ho i blk hl).1
      obtain ⟨_,hbs⟩:=h.bs.sub hsub
      refine ⟨v,hv,hbs,.t (hT.mono (fun _ _ _ _ h=>h) fun b o' _ hk _=>⟨hk.1,fun id blk u h3 h4 h5=>?_⟩),hsub⟩
      have h6:id ∉ fs:=fun hm=>by
       have h7:=List.all_eq_true.1 hup (id,none) (List.mem_map.2 ⟨id,hm,rfl⟩)
       have h8:=(Wn ho id blk h3).2
       have h9:(ZnB s.b (List.range m)).contains id=true:=List.contains_iff_mem.2 h8
       dsimp only at h7
       rw [h9] at h7
       cases h7
      exact hk.2 id blk u (by rw [QG (by rw [Um,if_neg h6])];exact hsub id blk h3) h4 h5
     ·cases hr
    ·cases hr
   ·cases hr
 ·cases hr
theorem Zsv{O:FuncId→Option Orc}(hO:OrcOk P O)(hm:P.follows .mixedOrders=true){f:FuncId}{fn:Func}{c:Code}(hf:P.funcs[f]?=some fn)(hb:fn.body=some c){lives:Nat→List Nat}{fuel:Nat}{keep:Bool}{args:List AV}{bin:List AB}{r:AV}{outs:List (Nat × AB)}(h:ZsT P O lives fuel fn.ntmps fn.results.toList c keep args bin=some (r,outs)):Zm4 P f bin args r outs:=by
 intro w E L vs hbs hn hvs
 unfold ZsT at h
 split at h
 ·rename_i hN
  have hle:=Nat.le_of_ble_eq_true hN
  have hsz:vs.size=args.length:=by have:=hvs.1;simpa using this
  have eb:(⟨Vy args 0,Ky bin 0,bin.length⟩:St).b=fun i=>bin[i]?:=by
   funext x
   show (Zy (Ky bin 0) x).getD none=_
   rw [Zd5]
   simp
  have hfit:VD E bin.length fn.ntmps (fun i=>bin[i]?) L w ⟨Vy args 0,Ky bin 0,bin.length⟩ {tmps:=vs++Array.replicate (fn.ntmps-vs.size) undef,defers:=[]} w:=by
   refine ⟨L,⟨fun t=>?_,by rw [eb];exact hbs,by simp;omega,rfl⟩,hn,by rw [eb];exact Run.refl,fun i u _ hu=>hu⟩
   have e:(⟨Vy args 0,Ky bin 0,bin.length⟩:St).t t=(args[t]?).getD .any:=by
    simp only [St.t]
    rw [Zbc]
    simp
   rw [e,eb]
   cases ht:args[t]? with
   | none=>exact .t (.any _)
   | some d=>
     obtain ⟨u,h1,h2⟩:=hvs.2 t d ht
     have hlt:=(List.getElem?_eq_some_iff.1 h1).1
     have e2:(vs++Array.replicate (fn.ntmps-vs.size) undef).getD t undef=u:=by
      rw [Array.getD_eq_getD_getElem?,Array.getElem?_append_left (by simpa using hlt),←Array.getElem?_toList,h1];rfl
     rw [e2]
     exact h2
  have key:∀(ex:Ex) (s:St),exec P O bin.length fn.ntmps lives fuel c ⟨Vy args 0,Ky bin 0,bin.length⟩=some (ex,s)→(ex=.nrm∨ex=.ret)→Jd P s bin.length keep fn.results.toList=some (r,outs)→
    Calls P f vs w (fun e w'=>∃v L',e=.returned v∧(∀i u,i<bin.length→L i=some u→L' i=some u)∧BsRel E (Yx outs) L' w'∧Rep w' (okS E (Yx outs) L') L' r v∧Run (fun i=>bin[i]?) L (Yx outs) L' w w'):=fun ex s hex hx hres=>by
   refine calls_of_wp hf hb (wp_mono (Zcw hO hm lives fuel c _ ex s hex _ w hfit) fun e a' w' ⟨he,hf'⟩=>?_)
   obtain ⟨L',h1,_,hrun,hlk⟩:=hf'
   obtain ⟨v,h2,h3,h4,h5⟩:=Zdt h1 hres
   have fin:a'.defers=[]∧∃v,(results fn a'.tmps).run P w'=.ok v w'∧(∃v' L',Ending.returned v=.returned v'∧(∀i u,i<bin.length→L i=some u→L' i=some u)∧BsRel E (Yx outs) L' w'∧Rep w' (okS E (Yx outs) L') L' r v'∧Run (fun i=>bin[i]?) L (Yx outs) L' w w'):=
    ⟨h1.defers,v,h2,v,L',rfl,hlk,h3,h4,⟨hrun.mod,fun id blk u g k1 k2 k3 k4=>hrun.own id blk u g (h5 id blk k1) k2 k3 k4⟩⟩
   rcases hx with rfl|rfl
   ·cases e with
    | normal=>exact fin
    | _=>exact he.elim
   ·cases e with
    | ret=>exact fin
    | _=>exact he.elim
  split at h
  ·rename_i s hex;exact key _ s hex (.inl rfl) h
  ·rename_i s hex;exact key _ s hex (.inr rfl) h
  ·cases h
 ·cases h
end
end
section
open Go.RowKit
@[simp] theorem ZsM(b:Bool):AV.cellsOf (.lit (.bool b))=some [.lit (.bool b)]:=rfl
@[simp] theorem Ztn(s:ByteArray):AV.cellsOf (.lit (.string s))=some [.lit (.string s)]:=rfl
@[simp] theorem ZtL(a:Option Addr)(n c:Nat):AV.cellsOf (.lit (.slice a n c))=some [.lit (.slice a n c)]:=rfl
@[simp] theorem ZtC(a:Option Addr):AV.cellsOf (.lit (.pointer a))=some [.lit (.pointer a)]:=rfl
@[simp] theorem Ztx(k:IntKind)(z:Int):AV.cellsOf (.lit (.int k z))=some [.lit (.int k z)]:=rfl
@[simp] theorem Zwn(k:Nat)(es:List (List AV)):AV.cellsOf (.sl k es)=some [(.sl k es)]:=rfl
@[simp] theorem Ztq(cs:List AV):AV.cellsOf (.mem cs)=some [(.mem cs)]:=rfl
@[simp] theorem ZtM(f:FuncId)(cs:List AV):AV.cellsOf (.clo f cs)=some [(.clo f cs)]:=rfl
@[simp] theorem Ztr(b n:Nat):AV.cellsOf (.own b n)=some [(.own b n)]:=rfl
@[simp] theorem Zub(b o:Nat):AV.cellsOf (.ptr b o)=some [(.ptr b o)]:=rfl
@[simp] theorem ZtH(b k i j:Nat):AV.cellsOf (.rptr b k i j)=some [(.rptr b k i j)]:=rfl
@[simp] theorem Zty(cs:List AV):AV.cellsOf (.agg cs)=some cs:=rfl
@[simp] theorem ZwX(b:Bool):AV.notU (.lit (.bool b))=true:=rfl
@[simp] theorem ZyX(s:ByteArray):AV.notU (.lit (.string s))=true:=rfl
@[simp] theorem Zxr(a:Option Addr)(n c:Nat):AV.notU (.lit (.slice a n c))=true:=rfl
@[simp] theorem Zxj(a:Option Addr):AV.notU (.lit (.pointer a))=true:=rfl
@[simp] theorem Zzx(z:Int):AV.notU (.lit (.int .i8 z))=true:=rfl
@[simp] theorem Zyj(z:Int):AV.notU (.lit (.int .i16 z))=true:=rfl
@[simp] theorem ZyO(z:Int):AV.notU (.lit (.int .i32 z))=true:=rfl
@[simp] theorem Zw0(z:Int):AV.notU (.lit (.int .i64 z))=true:=rfl
@[simp] theorem Zz8(z:Int):AV.notU (.lit (.int .u8 z))=true:=rfl
@[simp] theorem Zxb(z:Int):AV.notU (.lit (.int .u16 z))=true:=rfl
@[simp] theorem Zxx(z:Int):AV.notU (.lit (.int .u64 z))=true:=rfl
@[simp] theorem Zyf(z:Int):AV.notU (.lit (.int .u32 z))=false:=rfl
@[simp] theorem ZzX(k:Nat)(es:List (List AV)):AV.notU (.sl k es)=true:=rfl
@[simp] theorem ZyQ(cs:List AV):AV.notU (.mem cs)=true:=rfl
@[simp] theorem Zy1(f:FuncId)(cs:List AV):AV.notU (.clo f cs)=true:=rfl
@[simp] theorem Zxu(b n:Nat):AV.notU (.own b n)=true:=rfl
@[simp] theorem ZzR(b o:Nat):AV.notU (.ptr b o)=true:=rfl
@[simp] theorem Zw2(b k i j:Nat):AV.notU (.rptr b k i j)=true:=rfl
@[simp] theorem ZA7(e:TypeId)(k:Nat)(es:List (List AV))(fz:Nat):AB.isT (.row e k es fz)=true:=rfl
@[simp] theorem ZAo(t:TypeId)(cs:List AV)(fz:Bool):AB.isT (.box t cs fz)=AV.allT cs:=rfl
@[simp] theorem ZAQ(e:TypeId)(k:Nat)(es:List (List AV))(fz:Nat):AB.freeze (.row e k es fz)=.row e k es es.length:=rfl
@[simp] theorem ZAk(t:TypeId)(cs:List AV)(fz:Bool):AB.freeze (.box t cs fz)=.box t cs true:=rfl
@[simp] theorem ZAj(ρ:Nat→Option Nat)(e:TypeId)(k:Nat)(es:List (List AV))(fz:Nat):AB.ren ρ (.row e k es fz)=.row e k es fz:=rfl
@[simp] theorem ZAq(ρ:Nat→Option Nat)(t:TypeId)(cs:List AV)(fz:Bool):AB.ren ρ (.box t cs fz)=.box t (AV.renL ρ cs) fz:=rfl
@[simp] theorem ZuS(b:Nat):AV.cellsOf (.mp b)=some [.mp b]:=rfl
@[simp] theorem ZzE(b:Nat):AV.notU (.mp b)=true:=rfl
@[simp] theorem ZBH(es:List (ByteArray × Value)):AB.isT (.mp es)=true:=rfl
@[simp] theorem ZBF(es:List (ByteArray × Value)):AB.freeze (.mp es)=.mp es:=rfl
@[simp] theorem ZBK(ρ:Nat→Option Nat)(es:List (ByteArray × Value)):AB.ren ρ (.mp es)=.mp es:=rfl
@[simp] theorem Zzb(n b:Nat)(k:AV→List Nat→Tr):QC n (.mp b) k=res n (.mp b) k:=rfl
@[simp] theorem ZBZ(b:Nat):AV.nz (.mp b)=(.mp b):=rfl
@[simp] theorem Zx7(d:AV)(k:AV→List Nat→Tr):res 0 d k=if d.isT then k d [] else .fail:=rfl
@[simp] theorem ZzB(n:Nat)(k:AV→List Nat→Tr):res (n+1) .any k=k .any []:=rfl
@[simp] theorem Zz6(n:Nat)(v:Value)(k:AV→List Nat→Tr):res (n+1) (.lit v) k=k (.lit v) []:=rfl
@[simp] theorem ZAP(n:Nat)(kk:Nat)(es:List (List AV))(k:AV→List Nat→Tr):res (n+1) (.sl kk es) k=k (.sl kk es) []:=rfl
@[simp] theorem Zzs(n:Nat)(cs:List AV)(k:AV→List Nat→Tr):res (n+1) (.mem cs) k=k (.mem cs) []:=rfl
@[simp] theorem Zy7(n:Nat)(cs:List AV)(k:AV→List Nat→Tr):res (n+1) (.agg cs) k=VN (res n) cs fun cs' fs=>k (.agg cs') fs:=rfl
@[simp] theorem Zzv(n:Nat)(cs:List AV)(k:AV→List Nat→Tr):res (n+1) (.tup cs) k=VN (res n) cs fun cs' fs=>k (.tup cs') fs:=rfl
@[simp] theorem Zy4(n:Nat)(f:FuncId)(cs:List AV)(k:AV→List Nat→Tr):res (n+1) (.clo f cs) k=VN (res n) cs fun cs' fs=>k (.clo f cs') fs:=rfl
@[simp] theorem ZAc(n b m:Nat)(k:AV→List Nat→Tr):res (n+1) (.own b m) k=.blk b fun x=>match x with
   | .row _ kk es _=>if es.length=m then k (.sl kk es) [b] else .fail
   | _=>.fail:=rfl
@[simp] theorem Zz4(n b o:Nat)(k:AV→List Nat→Tr):res (n+1) (.ptr b o) k=.blk b fun x=>match x with
   | .box _ cs _=>VN (res n) cs fun cs' fs=>k (.mem (cs'.drop o)) (b::fs)
   | _=>.fail:=rfl
@[simp] theorem Zvx(k:Nat):AV.cellsOf (.nl k)=some [.nl k]:=rfl
@[simp] theorem Zz1(k:Nat):AV.notU (.nl k)=true:=rfl
@[simp] theorem ZuL(n kk:Nat)(k:AV→List Nat→Tr):res (n+1) (.nl kk) k=k (.sl kk []) []:=rfl
@[simp] theorem Ztc(n kk:Nat)(k:AV→List Nat→Tr):QC n (.nl kk) k=k (.nl kk) []:=rfl
@[simp] theorem ZBQ(k:Nat):AV.nz (.nl k)=.sl k []:=rfl
@[simp] theorem ZxI(n:Nat)(v:Value)(k:AV→List Nat→Tr):QC n (.lit v) k=res n (.lit v) k:=rfl
@[simp] theorem ZAU(v:Value):AV.nz (.lit v)=(.lit v):=rfl
@[simp] theorem ZyT(n:Nat)(k:AV→List Nat→Tr):QC n .any k=res n .any k:=rfl
@[simp] theorem ZA4:AV.nz .any=.any:=rfl
@[simp] theorem Zyn(n:Nat)(cs:List AV)(k:AV→List Nat→Tr):QC n (.agg cs) k=res n (.agg cs) k:=rfl
@[simp] theorem ZAO(cs:List AV):AV.nz (.agg cs)=(.agg cs):=rfl
@[simp] theorem Zx1(n:Nat)(cs:List AV)(k:AV→List Nat→Tr):QC n (.tup cs) k=res n (.tup cs) k:=rfl
@[simp] theorem ZAI(cs:List AV):AV.nz (.tup cs)=(.tup cs):=rfl
@[simp] theorem ZzM(n:Nat)(kk:Nat)(es:List (List AV))(k:AV→List Nat→Tr):QC n (.sl kk es) k=res n (.sl kk es) k:=rfl
@[simp] theorem ZBt(kk:Nat)(es:List (List AV)):AV.nz (.sl kk es)=(.sl kk es):=rfl
@[simp] theorem ZxF(n:Nat)(cs:List AV)(k:AV→List Nat→Tr):QC n (.mem cs) k=res n (.mem cs) k:=rfl
@[simp] theorem ZAN(cs:List AV):AV.nz (.mem cs)=(.mem cs):=rfl
@[simp] theorem ZxA(n:Nat)(f:FuncId)(cs:List AV)(k:AV→List Nat→Tr):QC n (.clo f cs) k=res n (.clo f cs) k:=rfl
@[simp] theorem ZAs(f:FuncId)(cs:List AV):AV.nz (.clo f cs)=(.clo f cs):=rfl
@[simp] theorem Zxz(n:Nat)(b m:Nat)(k:AV→List Nat→Tr):QC n (.own b m) k=res n (.own b m) k:=rfl
@[simp] theorem ZAv(b m:Nat):AV.nz (.own b m)=(.own b m):=rfl
@[simp] theorem ZxM(n:Nat)(b o:Nat)(k:AV→List Nat→Tr):QC n (.ptr b o) k=res n (.ptr b o) k:=rfl
@[simp] theorem ZAr(b o:Nat):AV.nz (.ptr b o)=(.ptr b o):=rfl
@[simp] theorem ZwF(n:Nat)(b kk i j:Nat)(k:AV→List Nat→Tr):QC n (.rptr b kk i j) k=res n (.rptr b kk i j) k:=rfl
@[simp] theorem Zz5(b kk i j:Nat):AV.nz (.rptr b kk i j)=(.rptr b kk i j):=rfl
def Yz(r:AV→(AV→List Nat→Tr)→Tr):List AV→List AV→List Nat→(List AV→List Nat→Tr)→Tr
 | [],acc,fa,k=>k acc fa
 | c::cs,acc,fa,k=>r c fun c' f1=>Yz r cs (acc++[c']) (fa++f1) k
theorem Ziv(r:AV→(AV→List Nat→Tr)→Tr):∀(cs acc:List AV) (fa:List Nat) (k:List AV→List Nat→Tr),Yz r cs acc fa k=VN r cs fun cs' fs=>k (acc++cs') (fa++fs)
 | [],acc,fa,k=>by simp [Yz,VN]
 | c::cs,acc,fa,k=>by
   rw [Yz,VN]
   congr 1
   funext c' f1
   rw [Ziv r cs]
   simp [List.append_assoc]
@[simp] theorem ZA0(r:AV→(AV→List Nat→Tr)→Tr)(cs:List AV)(k:List AV→List Nat→Tr):VN r cs k=Yz r cs [] [] k:=by rw [Ziv];rfl
@[simp] theorem ZyZ(r:AV→(AV→List Nat→Tr)→Tr)(acc:List AV)(fa:List Nat)(k:List AV→List Nat→Tr):Yz r [] acc fa k=k acc fa:=rfl
theorem QF{r:AV→(AV→List Nat→Tr)→Tr}{c:AV}(h:∀k,r c k=k c [])(cs acc:List AV)(fa:List Nat)(k:List AV→List Nat→Tr):Yz r (c::cs) acc fa k=Yz r cs (acc++[c]) fa k:=by
 rw [Yz,h,List.append_nil]
@[simp] theorem Zyh(n:Nat)(v:Value)(cs acc:List AV)(fa:List Nat)(k:List AV→List Nat→Tr):Yz (res n) ((.lit v)::cs) acc fa k=Yz (res n) cs (acc++[(.lit v)]) fa k:=QF (fun k=>by cases n <;>rfl) _ _ _ _
@[simp] theorem ZwJ(n:Nat)(v:Value)(cs acc:List AV)(fa:List Nat)(k:List AV→List Nat→Tr):Yz (QC n) ((.lit v)::cs) acc fa k=Yz (QC n) cs (acc++[(.lit v)]) fa k:=QF (fun k=>by cases n <;>rfl) _ _ _ _
@[simp] theorem Zyw(n:Nat)(cs acc:List AV)(fa:List Nat)(k:List AV→List Nat→Tr):Yz (res n) (.any::cs) acc fa k=Yz (res n) cs (acc++[.any]) fa k:=QF (fun k=>by cases n <;>rfl) _ _ _ _
@[simp] theorem ZwR(n:Nat)(cs acc:List AV)(fa:List Nat)(k:List AV→List Nat→Tr):Yz (QC n) (.any::cs) acc fa k=Yz (QC n) cs (acc++[.any]) fa k:=QF (fun k=>by cases n <;>rfl) _ _ _ _
@[simp] theorem Zzk(n:Nat)(kk:Nat)(es:List (List AV))(cs acc:List AV)(fa:List Nat)(k:List AV→List Nat→Tr):Yz (res n) ((.sl kk es)::cs) acc fa k=Yz (res n) cs (acc++[(.sl kk es)]) fa k:=QF (fun k=>by cases n <;>rfl) _ _ _ _
@[simp] theorem Zxm(n:Nat)(kk:Nat)(es:List (List AV))(cs acc:List AV)(fa:List Nat)(k:List AV→List Nat→Tr):Yz (QC n) ((.sl kk es)::cs) acc fa k=Yz (QC n) cs (acc++[(.sl kk es)]) fa k:=QF (fun k=>by cases n <;>rfl) _ _ _ _
@[simp] theorem Zx8(n:Nat)(as:List AV)(cs acc:List AV)(fa:List Nat)(k:List AV→List Nat→Tr):Yz (res n) ((.mem as)::cs) acc fa k=Yz (res n) cs (acc++[(.mem as)]) fa k:=QF (fun k=>by cases n <;>rfl) _ _ _ _
@[simp] theorem ZwC(n:Nat)(as:List AV)(cs acc:List AV)(fa:List Nat)(k:List AV→List Nat→Tr):Yz (QC n) ((.mem as)::cs) acc fa k=Yz (QC n) cs (acc++[(.mem as)]) fa k:=QF (fun k=>by cases n <;>rfl) _ _ _ _
@[simp] theorem ZzV(n kk:Nat)(cs acc:List AV)(fa:List Nat)(k:List AV→List Nat→Tr):Yz (res (n+1)) (.nl kk::cs) acc fa k=Yz (res (n+1)) cs (acc++[.sl kk []]) fa k:=by
  rw [Yz,ZuL,List.append_nil]
@[simp] theorem Zxw(n kk:Nat)(cs acc:List AV)(fa:List Nat)(k:List AV→List Nat→Tr):Yz (QC n) (.nl kk::cs) acc fa k=Yz (QC n) cs (acc++[.nl kk]) fa k:=by
  rw [Yz,Ztc,List.append_nil]
@[simp] theorem Zxv(n:Nat)(ds:List AV)(cs acc:List AV)(fa:List Nat)(k:List AV→List Nat→Tr):Yz (res n) ((.agg ds)::cs) acc fa k=res n (.agg ds) fun c' f1=>Yz (res n) cs (acc++[c']) (fa++f1) k:=rfl
@[simp] theorem ZwV(n:Nat)(ds:List AV)(cs acc:List AV)(fa:List Nat)(k:List AV→List Nat→Tr):Yz (QC n) ((.agg ds)::cs) acc fa k=res n (.agg ds) fun c' f1=>Yz (QC n) cs (acc++[c']) (fa++f1) k:=rfl
@[simp] theorem ZyV(n:Nat)(ds:List AV)(cs acc:List AV)(fa:List Nat)(k:List AV→List Nat→Tr):Yz (res n) ((.tup ds)::cs) acc fa k=res n (.tup ds) fun c' f1=>Yz (res n) cs (acc++[c']) (fa++f1) k:=rfl
@[simp] theorem ZwW(n:Nat)(ds:List AV)(cs acc:List AV)(fa:List Nat)(k:List AV→List Nat→Tr):Yz (QC n) ((.tup ds)::cs) acc fa k=res n (.tup ds) fun c' f1=>Yz (QC n) cs (acc++[c']) (fa++f1) k:=rfl
@[simp] theorem Zxe(n:Nat)(f:FuncId)(ds:List AV)(cs acc:List AV)(fa:List Nat)(k:List AV→List Nat→Tr):Yz (res n) ((.clo f ds)::cs) acc fa k=res n (.clo f ds) fun c' f1=>Yz (res n) cs (acc++[c']) (fa++f1) k:=rfl
@[simp] theorem ZwT(n:Nat)(f:FuncId)(ds:List AV)(cs acc:List AV)(fa:List Nat)(k:List AV→List Nat→Tr):Yz (QC n) ((.clo f ds)::cs) acc fa k=res n (.clo f ds) fun c' f1=>Yz (QC n) cs (acc++[c']) (fa++f1) k:=rfl
@[simp] theorem Zyg(n:Nat)(b m:Nat)(cs acc:List AV)(fa:List Nat)(k:List AV→List Nat→Tr):Yz (res n) ((.own b m)::cs) acc fa k=res n (.own b m) fun c' f1=>Yz (res n) cs (acc++[c']) (fa++f1) k:=rfl
@[simp] theorem ZwN(n:Nat)(b m:Nat)(cs acc:List AV)(fa:List Nat)(k:List AV→List Nat→Tr):Yz (QC n) ((.own b m)::cs) acc fa k=res n (.own b m) fun c' f1=>Yz (QC n) cs (acc++[c']) (fa++f1) k:=rfl
@[simp] theorem Zxa(n:Nat)(b o:Nat)(cs acc:List AV)(fa:List Nat)(k:List AV→List Nat→Tr):Yz (res n) ((.ptr b o)::cs) acc fa k=res n (.ptr b o) fun c' f1=>Yz (res n) cs (acc++[c']) (fa++f1) k:=rfl
@[simp] theorem ZwE(n:Nat)(b o:Nat)(cs acc:List AV)(fa:List Nat)(k:List AV→List Nat→Tr):Yz (QC n) ((.ptr b o)::cs) acc fa k=res n (.ptr b o) fun c' f1=>Yz (QC n) cs (acc++[c']) (fa++f1) k:=rfl
@[simp] theorem ZwB(k:Nat):Qf k []=true:=rfl
@[simp] theorem ZtY(k:Nat)(e:List AV)(es:List (List AV)):Qf k (e::es)=(decide (e.length=k) && AV.allT e && AV.allNotU e && Qf k es):=rfl
@[simp] theorem ZwQ(k:Nat)(es fs:List (List AV)):Qf k (es++fs)=(Qf k es && Qf k fs):=by simp [Qf]
theorem YF{α:Type}{k:Nat}{f:α→List AV}(h:∀x,(decide ((f x).length=k) && AV.allT (f x) && AV.allNotU (f x))=true)(l:List α):Qf k (l.map f)=true:=by
 unfold Qf
 rw [List.all_map,List.all_eq_true]
 exact fun x _=>h x
theorem Zie(s:ByteArray)(l:List (List AV)):Kj (Zv s++l)=(Kj l).map (s.data.toList++·):=by
 rw [Zv]
 induction s.data.toList with
 | nil=>simp
 | cons b bs ih=>
   have hb:0≤(b.toNat:Int)∧(b.toNat:Int)<256:=⟨by omega,by have:=b.toNat_lt;omega⟩
   have e:UInt8.ofNat (b.toNat:Int).toNat=b:=by rw [Int.toNat_natCast];exact UInt8.ofNat_toNat
   rw [List.map_cons,List.cons_append,Kj,if_pos hb,ih,e,Option.map_map]
   rfl
@[simp] theorem ZwY(s:ByteArray):Zha (Zv s)=some s:=by
  have h:=Zie s []
  rw [List.append_nil,Kj] at h
  rw [Zha,h]
  simp
@[simp] theorem Zwa(a b:ByteArray):Zv a++Zv b=Zv (a++b):=by
  simp [Zv]
@[simp] theorem ZqS(s:ByteArray):(Zv s).length=s.size:=Vl s
end
section
open Go.RowKit
def Zb:Code→List Code
 | .loop c=>[c]
 | .seq a b=>Zb a++Zb b
 | .cond _ a b=>Zb a++Zb b
 | .block _ c=>Zb c
 | .scope c=>Zb c
 | _=>[]
def lv(l:List (Nat × List Nat))(r:Nat):List Nat:=(l.lookup r).getD []
def big:Nat:=4294967296
noncomputable def ZpF(P:Program)(O:FuncId→Option Orc)(m N:Nat)(lives:Nat→List Nat)(fuel r:Nat)(C:Code)(s:St):Option (Ex × St):=
 match UZ m (exec P O m N lives fuel C) (lives r) fuel s with
 | some (ex,s')=>(match gc m (lives (Zo r)) s' with|some s2=>some (ex,s2)|none=>none)
 | none=>none
theorem ZkK(P:Program)(O:FuncId→Option Orc)(m N:Nat)(lives:Nat→List Nat)(fuel:Nat)(C:Code)(s:St):exec P O m N lives fuel (.loop C) s=ZpF P O m N lives fuel (ZbJ C) C s:=rfl
def Zj(m:Nat)(step:St→Option (Ex × St))(live:List Nat)(s:St)(ex:Ex)(t:St):Prop:=∃s',step s=some (ex,s')∧gc m live s'=some t
def Zm(m:Nat)(step:St→Option (Ex × St))(live:List Nat)(s t:St):Prop:=∃s',step s=some (.nrm,s')∧gc m live s'=some t
def XE{α β γ:Type}(f:Nat→β→α→Except γ β):Nat→β→List α→Except γ β
 | _,b,[]=>.ok b
 | i,b,x::R=>match f i b x with
   | .ok b'=>XE f (i+1) b' R
   | .error c=>.error c
def VL{α β:Type}(f:Nat→β→α→β):Nat→β→List α→β
 | _,b,[]=>b
 | i,b,x::R=>VL f (i+1) (f i b x) R
section
variable{α β γ:Type}{m:Nat}{live:List Nat}{step:St→Option (Ex × St)}{L:List α}{enc:Nat→β→St}
end
section
variable {α β γ : Type} {P : Program} {O : FuncId → Option Orc} {m N : Nat} {lives : Nat → List Nat} {fuel r : Nat} {C : Code} {s : St} {L : List α} {enc : Nat → β → St} {Inv : Nat → β → Prop} {exN : Ex} {out : β → St}
def ZrF(x:Except γ β)(exN:Ex)(out:β→St)(exE:Ex)(outE:γ→St):Ex × St:=
 match x with
 | .ok b=>(exN,out b)
 | .error c=>(exE,outE c)
@[simp] theorem Zzj(b:β)(exN:Ex)(out:β→St)(exE:Ex)(outE:γ→St):ZrF (.ok b) exN out exE outE=(exN,out b):=rfl
@[simp] theorem ZtZ(c:γ)(exN:Ex)(out:β→St)(exE:Ex)(outE:γ→St):ZrF (.error c) exN out exE outE=(exE,outE c):=rfl
end
end
section
open Go.RowKit
def ZP(f:Func):Code:=f.body.getD .skip
attribute [simp] isC ZjO Zi0 frzClo flatNil ownLit Zn8 ownBox Zjt ZsT ZiT Jd ZfD Zdb Ky Zkx opS ZiK Zka Zc8 Zda ZaT Zd0 U3 KA Foot.clash ZbL ZeO XC Tr.asks ZjF VO aop Zhh Tr.run rd Ztk Zlj ofV Vy ZaL St.t St.b ZrT Zy AV.allNotU rdL ldT ret Zbu stT splice ZaA Zix Zrm UL Jo Zbo Zgr AB.refsL VH Jr ZnB Zd6 U2 upNew Yx XF Kz AV.ren AV.renL ZkE ZjE unV Ztf KN rvL rvA AV.isT AV.allT Nat.blt Nat.ble ZeC Region.binds List.range List.range.loop List.range' Nat.testBit_eq_decide_div_mod_eq ixT ixV idx ZiX cvB cvS apT Zvd slT luT muT Zdo mkT Zgy Zdh Ze6 ZaD Zbe ZbE Qe KF gcB gcT AV.refs AV.refsL ZcZ Ui gc gcC ZdI Zfi Zeu Zh7 ph ZbP Zo undef ZbJ
attribute [simp] exec.eq_1 exec.eq_2 exec.eq_3 exec.eq_4 exec.eq_5 exec.eq_6 exec.eq_8 exec.eq_9 exec.eq_10 exec.eq_11
attribute [simp] ZP ZkK
@[simp] theorem Zyo(P:Program)(t:TypeId)(s:ByteArray):Zdv P t (.lit (.string s))=if ZbQ P t=true then some s.size else none:=rfl
@[simp] theorem ZzF(P:Program)(t:TypeId)(k:Nat)(es:List (List AV)):Zdv P t (.sl k es)=if (Wa P t).isSome=true then some es.length else none:=rfl
@[simp] theorem Zxk(P:Program)(t:TypeId)(b n:Nat):Zdv P t (.own b n)=if (Wa P t).isSome=true then some n else none:=rfl
@[simp] theorem Zzi(P:Program)(t:TypeId)(k:Nat):Zdv P t (.nl k)=if (Wa P t).isSome=true then some 0 else none:=rfl
@[simp] theorem Zw6(P:Program)(t:TypeId):Zdv P t (.lit (.slice none 0 0))=if (Wa P t).isSome=true then some 0 else none:=rfl
end
end Go.Proofs.YtdaonnnlgfhlaaaGreatDoor
