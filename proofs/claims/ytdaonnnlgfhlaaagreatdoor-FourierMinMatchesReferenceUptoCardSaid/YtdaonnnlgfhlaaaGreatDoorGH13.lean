import Derived.Test.YtdaonnnlgfhlaaaGreatDoorGH12
import Derived.Orders
import Derived.Scope
import Derived.LoopN
set_option linter.all false
namespace Go.Proofs.YtdaonnnlgfhlaaaGreatDoor
open Go.RowKit
structure St where
 T:List (Nat × AV)
 B:List (Nat × Option AB)
 nx:Nat
def Zbi:List (Nat × AV)→Nat→AV
 | [],_=>.any
 | (y,v)::l,x=>if x=y then v else Zbi l x
def St.t(s:St)(x:Nat):AV:=Zbi s.T x
def St.b(s:St)(x:Nat):Option AB:=(ZD s.B x).getD none
def Ztf(T:List (Nat × AV))(dst:Option Tmp)(v:AV):List (Nat × AV):=
 match dst with
 | some d=>(d,v)::T
 | none=>T
def V9(ops:Array Oper)(g:Option (Nat × Bool))(T:Nat→AV):Option Bool:=
 match g with
 | none=>some true
 | some (j,want)=>match (ops[j]?).bind (·.dst) with
   | some t=>(match T t with
     | .lit v=>(match v with
       | .bool b=>some (b==want)
       | _=>some false)
     | _=>none)
   | none=>none
def ZjL(N:Nat):Option Tmp→Bool
 | some t=>Nat.blt t N
 | none=>true
def opS(P:Program)(O:FuncId→Option Orc)(N:Nat)(ops:Array Oper)(o:Oper)(s:St):Option St:=
 match ZjL N o.dst with
 | true=>(match V9 ops o.guard s.t with
   | some true=>(match (aop P O o s.nx).run s.t s.b with
     | some (v,up,nx)=>(match Nat.ble s.nx nx with
       | true=>some ⟨Ztf s.T o.dst v,up++s.B,nx⟩
       | false=>none)
     | none=>none)
   | some false=>some ⟨Ztf s.T o.dst (.lit undef),s.B,s.nx⟩
   | none=>none)
 | false=>none
def Zmr(P:Program)(O:FuncId→Option Orc)(N:Nat)(ops:Array Oper):List Oper→St→Option St
 | [],s=>some s
 | o::l,s=>match opS P O N ops o s with
   | some s'=>Zmr P O N ops l s'
   | none=>none
structure Foot where
 rs:List Nat
 rb:List Nat
 wb:List Nat
 dst:Option Nat
def XQ(ops:Array Oper)(g:Option (Nat × Bool)):List Nat:=
 match g with
 | none=>[]
 | some (j,_)=>match (ops[j]?).bind (·.dst) with
   | some t=>[t]
   | none=>[]
def Zdq(P:Program)(O:FuncId→Option Orc)(ops:Array Oper)(o:Oper)(s:St):Foot:=
 match V9 ops o.guard s.t with
 | some true=>(match (aop P O o s.nx).run s.t s.b with
   | some (_,up,_)=>⟨XQ ops o.guard++((aop P O o s.nx).asks s.t s.b).1,((aop P O o s.nx).asks s.t s.b).2,up.map (·.1),o.dst⟩
   | none=>⟨[],[],[],none⟩)
 | _=>⟨XQ ops o.guard,[],[],o.dst⟩
def ZlT(P:Program)(O:FuncId→Option Orc)(N:Nat)(ops:Array Oper):List Oper→St→Option (St × List Foot)
 | [],s=>some (s,[])
 | o::l,s=>match opS P O N ops o s with
   | some s'=>(match ZlT P O N ops l s' with
     | some (s2,fs)=>some (s2,Zdq P O ops o s::fs)
     | none=>none)
   | none=>none
def KY(acc:List Nat):List Edge→Nat
 | []=>0
 | e::l=>if Region.binds .any e=true then (2 ^ e.on ||| acc.getD e.on 0) ||| KY acc l else KY acc l
def Zeu:List Oper→List Nat→List Nat
 | [],acc=>acc
 | o::l,acc=>Zeu l (acc++[KY acc o.after.toList])
def ZdE:List Oper→Nat→Bool
 | [],_=>true
 | o::l,i=>(o.after.toList.all fun e=>!Region.binds .any e || Nat.blt e.on i) && ZdE l (i+1)
def ZfK(a b:List Nat):Bool:=a.any fun x=>b.contains x
def Zb3(d:Option Nat)(l:List Nat):Bool:=match d with|some t=>l.contains t|none=>false
def Foot.clash(a b:Foot):Bool:=
 Zb3 a.dst b.rs || Zb3 b.dst a.rs || Zb3 a.dst b.dst.toList || ZfK a.wb b.rb || ZfK a.wb b.wb || ZfK b.wb a.rb
def KX(f:Foot)(m:Nat):List Foot→Nat→Bool
 | [],_=>true
 | g::l,i=>(!(g.clash f) || m.testBit i) && KX f m l (i+1)
def ZaV:List Foot→List Foot→List Nat→Bool
 | _,[],_=>true
 | pre,f::l,ms=>KX f (ms.getD pre.length 0) pre 0 && ZaV (pre++[f]) l ms
def Zkk(P:Program)(O:FuncId→Option Orc)(N:Nat)(ops:Array Oper)(s:St):Option St:=
 match ZlT P O N ops ops.toList s with
 | some (s',fs)=>if ZdE ops.toList 0=true∧ZaV [] fs (Zeu ops.toList [])=true then some s' else none
 | none=>none
inductive Ex where
 | nrm
 | exit (id:Nat)
 | ret
def UA(B:Nat→Option AB):Nat→List Nat→List Nat→List Nat
 | 0,_,acc=>acc
 | _+1,[],acc=>acc
 | f+1,x::l,acc=>if acc.contains x then UA B f l acc else match B x with
   | some (.box _ cs _)=>UA B f (AV.refsL cs++l) (acc++[x])
   | some (.row ..)=>UA B f l (acc++[x])
   | some (.mp _)=>UA B f l (acc++[x])
   | none=>UA B f l acc
def gcB(b:Nat→Option AB)(ρ:Nat→Option Nat):List Nat→Nat→List (Nat × Option AB)
 | [],_=>[]
 | x::l,i=>(i,(b x).map (AB.ren ρ))::gcB b ρ l (i+1)
def gcT(t:Nat→AV)(ρ:Nat→Option Nat):List Nat→List (Nat × AV)
 | []=>[]
 | x::l=>(x,(t x).ren ρ)::gcT t ρ l
def ZcC(b:Nat→Option AB):Nat→List Nat
 | 0=>[]
 | m+1=>(match b m with|some (.box _ cs _)=>AV.refsL cs|_=>[])++ZcC b m
def gcC(m:Nat)(live:List Nat)(s:St):Option St:=
 let keep:=UA s.b 64 (AV.refsL (live.map s.t)++ZcC s.b m) (List.range m)
 match KU keep with
 | true=>some ⟨gcT s.t (Qo keep) live,gcB s.b (Qo keep) keep 0,keep.length⟩
 | false=>none
def ph(slot cell e k:Nat):Nat:=slot+4096*(1+cell+64*(k+64*e))
def ZhX(h:Nat):Bool:=Nat.ble 4096 h
def Zfq(h:Nat)(s:St):St:=
 match s.t (h % 4096) with
 | .ptr b o=>(match s.b b with
   | some (.box t cs false)=>(match cs[o+(h / 4096-1) % 64]? with
     | some (.nl kk)=>(match (h / 4096-1) / 64 % 64 with
       | 0=>⟨s.T,(b,some (.box t (cs.set (o+(h / 4096-1) % 64) (.sl kk [])) false))::s.B,s.nx⟩
       | k+1=>⟨s.T,(b,some (.box t (cs.set (o+(h / 4096-1) % 64) (.own s.nx 0)) false))::(s.nx,some (.row ((h / 4096-1) / 4096) (k+1) [] 0))::s.B,s.nx+1⟩)
     | _=>s)
   | _=>s)
 | _=>s
def ZeA:List Nat→St→St
 | [],s=>s
 | h::l,s=>match ZhX h with
   | true=>ZeA l (Zfq h s)
   | false=>ZeA l s
def ZeZ:List Nat→List Nat
 | []=>[]
 | h::l=>match ZhX h with
   | true=>ZeZ l
   | false=>h::ZeZ l
def gc(m:Nat)(live:List Nat)(s:St):Option St:=gcC m (ZeZ live) (ZeA live s)
def Zb1:Code→Nat
 | .region id _ _=>id
 | .seq a _=>Zb1 a
 | .block _ c=>Zb1 c
 | .loop c=>Zb1 c
 | .scope c=>Zb1 c
 | _=>0
def Zo(r:Nat):Nat:=r+1000000
def ZsA(x:Operand)(T:Nat→AV):AV:=
 match x with
 | .tmp t=>T t
 | .const v=>ofV v
 | _=>.any
def Km(m:Nat)(step:St→Option (Ex × St))(live:List Nat):Nat→St→Option (Ex × St)
 | 0,_=>none
 | n+1,s=>match gc m live s with
   | some s1=>(match step s1 with
     | some (.nrm,s')=>Km m step live n s'
     | r=>r)
   | none=>none
def exec(P:Program)(O:FuncId→Option Orc)(m N:Nat)(lives:Nat→List Nat)(fuel:Nat):Code→St→Option (Ex × St)
 | .skip,s=>some (.nrm,s)
 | .region _ ops d,s=>match d with
   | false=>(match Zmr P O N ops ops.toList s with|some s'=>some (.nrm,s')|none=>none)
   | true=>(match Zkk P O N ops s with|some s'=>some (.nrm,s')|none=>none)
 | .seq x y,s=>match exec P O m N lives fuel x s with
   | some (.nrm,s')=>exec P O m N lives fuel y s'
   | r=>r
 | .cond c x y,s=>match ZsA c s.t with
   | .lit (.bool true)=>exec P O m N lives fuel x s
   | .lit (.bool false)=>exec P O m N lives fuel y s
   | _=>none
 | .block id c,s=>match exec P O m N lives fuel c s with
   | some (.exit i,s')=>if i=id then some (.nrm,s') else some (.exit i,s')
   | r=>r
 | .loop c,s=>match Km m (exec P O m N lives fuel c) (lives (Zb1 c)) fuel s with
   | some (ex,s')=>(match gc m (lives (Zo (Zb1 c))) s' with|some s2=>some (ex,s2)|none=>none)
   | none=>none
 | .exit id,s=>some (.exit id,s)
 | .ret,s=>some (.ret,s)
 | .label _,s=>some (.nrm,s)
 | .scope c,s=>exec P O m N lives fuel c s
 | _,_=>none
def rvA(P:Program)(s:St):ResultVar→Option AV
 | .tmp t=>some (s.t t)
 | .cell a t=>match QO P t with
   | some (g,n)=>(match (ldT g n (s.t a) s.nx).run s.t s.b with|some (v,_,_)=>some v|none=>none)
   | none=>none
def rvL(P:Program)(s:St):List ResultVar→Option (List AV)
 | []=>some []
 | r::l=>match rvA P s r,rvL P s l with
   | some d,some ds=>some (d::ds)
   | _,_=>none
def Jc(P:Program)(s:St)(rs:List ResultVar):Option AV:=
 match rvL P s rs with
 | some [d]=>(match (res 3 d fun d _=>.done d [] 0).run s.t s.b with|some (v,_,_)=>some v|none=>none)
 | some ds=>(match (res 3 (.tup ds) fun d _=>.done d [] 0).run s.t s.b with|some (v,_,_)=>some v|none=>none)
 | none=>none
def VA:List AV→Nat→List (Nat × AV)
 | [],_=>[]
 | d::l,i=>(i,d)::VA l (i+1)
def KP:List AB→Nat→List (Nat × Option AB)
 | [],_=>[]
 | b::l,i=>(i,some b)::KP l (i+1)
def Zjo(P:Program)(O:FuncId→Option Orc)(lives:Nat→List Nat)(fuel N:Nat)(rs:List ResultVar)(c:Code)(args:List AV):Option AV:=
 match Nat.ble args.length N with
 | true=>(match exec P O 0 N lives fuel c ⟨VA args 0,[],0⟩ with
   | some (.nrm,s)=>Jc P s rs
   | some (.ret,s)=>Jc P s rs
   | _=>none)
 | false=>none
def ZdF(b:Nat→Option AB):List Nat→Option (List (Nat × AB))
 | []=>some []
 | i::l=>match ZdF b l with
   | some r=>(match b i with
     | some blk=>some ((i,blk)::r)
     | none=>some r)
   | none=>none
def JG(b:Nat→Option AB):List Nat→List Nat
 | []=>[]
 | i::l=>match b i with
   | some (.box _ cs _)=>AV.refsL cs++JG b l
   | some (.row ..)=>JG b l
   | some (.mp _)=>JG b l
   | none=>JG b l
def Zm1(b:Nat→Option AB)(l:List Nat):List Nat:=Zgh [] (l++(JG b l++JG b (JG b l)))
def Zgr:List AV→AV
 | [d]=>d
 | ds=>.tup ds
def Jw(P:Program)(s:St)(m:Nat)(keep:Bool)(rs:List ResultVar):Option (AV × List (Nat × AB)):=
 match rvL P s rs with
 | some ds=>(match keep with
   | true=>(match ZdF s.b (Zm1 s.b (List.range m++AV.refs (Zgr ds))) with
     | some o=>some (Zgr ds,o)
     | none=>none)
   | false=>(match (res 3 (Zgr ds) fun d fs=>.done d (fs.map fun b=>(b,none)) 0).run s.t s.b with
     | some (r,up,_)=>(match up.all (fun p=>!(Zm1 s.b (List.range m)).contains p.1) with
       | true=>(match ZdF s.b (Zm1 s.b (List.range m)) with
         | some o=>some (r,o)
         | none=>none)
       | false=>none)
     | none=>none))
 | none=>none
def Zui(P:Program)(O:FuncId→Option Orc)(lives:Nat→List Nat)(fuel N:Nat)(rs:List ResultVar)(c:Code)(keep:Bool)(args:List AV)(bin:List AB):Option (AV × List (Nat × AB)):=
 match Nat.ble args.length N with
 | true=>(match exec P O bin.length N lives fuel c ⟨VA args 0,KP bin 0,bin.length⟩ with
   | some (.nrm,s)=>Jw P s bin.length keep rs
   | some (.ret,s)=>Jw P s bin.length keep rs
   | _=>none)
 | false=>none
section
variable{P:Program}{E:Nat→Nat→Prop}{w w' w1:World}{m N:Nat}{T:Nat→AV}{B B' B1:Nat→Option AB}{L L' L1:Nat→Option Value}{a:Act}{up:List (Nat × Option AB)}{ok:Nat→Nat→Prop}
theorem VF(s:St)(up:List (Nat × Option AB))(T:List (Nat × AV))(nx:Nat):(⟨T,up++s.B,nx⟩:St).b=ZT s.b up:=by
 funext x
 simp only [St.b,ZT]
 rw [V3]
 cases ZD up x <;>rfl
theorem Zjy(s:St)(dst:Option Tmp)(v:AV)(B:List (Nat × Option AB))(nx:Nat):(⟨Ztf s.T dst v,B,nx⟩:St).t=Vx s.t dst v:=by
 funext x
 cases dst <;>rfl
theorem Run.refl:Run B L B L w w:=⟨Mod.refl _ _,fun id blk v g h1 h2 h3 _=>⟨id,blk,v,h1,h2,h3,fun _ h=>h⟩⟩
theorem Run.trans(h:Run B L B1 L1 w w1)(k:Run B1 L1 B' L' w1 w'):Run B L B' L' w w':=by
 refine ⟨?_,fun id blk v g h1 h2 h3 h4=>?_⟩
 ·refine (h.mod.trans k.mod).mono fun g o hg hm=>?_
  rcases hm with hm|⟨id,blk,v,h1,h2,h3,h4⟩
  ·exact hm
  ·obtain ⟨id0,blk0,v0,h5,h6,h7,h8⟩:=h.own id blk v g h1 h2 h3 hg
   exact ⟨id0,blk0,v0,h5,h6,h7,fun h9=>h4 (h8 o h9)⟩
 ·obtain ⟨id1,blk1,v1,h5,h6,h7,h8⟩:=k.own id blk v g h1 h2 h3 (Nat.lt_of_lt_of_le h4 h.mod.size)
  obtain ⟨id0,blk0,v0,h9,h10,h11,h12⟩:=h.own id1 blk1 v1 g h5 h6 h7 h4
  exact ⟨id0,blk0,v0,h9,h10,h11,fun o h=>h8 o (h12 o h)⟩
theorem Aft.run(h:Aft E B L B' L' w w'):Run B L B' L' w w':=⟨h.mod,h.own⟩
def VO(E:Nat→Nat→Prop)(m N:Nat)(B0:Nat→Option AB)(L0:Nat→Option Value)(w0:World)(s:St)(a:Act)(w:World):Prop:=
 ∃L,SRel E N s.t s.b L a w∧(∀id,s.nx≤id→L id=none)∧Run B0 L0 s.b L w0 w∧∀i u,i<m→L0 i=some u→L i=some u
theorem UR(h:SRel E N T B L a w){ops:Array Oper}{o:Oper}{b:Bool}(hg:V9 ops o.guard T=some b):Region.wanted o (yielded ops a.tmps)=b:=by
 unfold V9 at hg
 unfold Region.wanted
 split at hg
 ·rename_i hn
  cases hg
  rw [hn]
 ·rename_i j want hn
  rw [hn]
  dsimp only
  split at hg
  ·rename_i t ht
   split at hg
   ·rename_i v hc
    have h1:=h.slots t
    rw [hc] at h1
    have h2:=ZY h1
    split at hg
    ·rename_i c
     cases hg
     have h3:a.tmps[t]?=some (.bool c):=by
      rw [Array.getD_eq_getD_getElem?] at h2
      cases hx:a.tmps[t]? with
      | none=>rw [hx] at h2;cases h2
      | some u=>rw [hx] at h2;simp at h2;rw [h2]
     have h4:yielded ops a.tmps j=some c:=by
      unfold yielded
      rw [ht,Option.bind_some,h3]
     rw [h4]
     cases c <;>cases want <;>rfl
    ·rename_i hnb
     cases hg
     have h4:yielded ops a.tmps j=none:=by
      unfold yielded
      rw [ht,Option.bind_some]
      rw [Array.getD_eq_getD_getElem?] at h2
      cases hx:a.tmps[t]? with
      | none=>rfl
      | some u=>
        rw [hx] at h2
        have h2':u=v:=h2
        subst h2'
        cases u with
        | bool c=>exact absurd rfl (hnb c)
        | _=>rfl
     rw [h4]
     cases want <;>rfl
   ·cases hg
  ·cases hg
theorem Zkh(h:SRel E N T B L a w){dst:Option Tmp}(hd:∀t,dst=some t→t<N)(v:Value):SRel E N (Vx T dst (.lit v)) B L (a.put dst v) w:=h.aft (Aft.refl h.bs) (.t (.lit _)) hd
theorem J8{N:Nat}{dst:Option Tmp}(h:ZjL N dst=true):∀t,dst=some t→t<N:=fun t ht=>by
 subst ht
 exact Nat.le_of_ble_eq_true h
theorem Zlx{O:FuncId→Option Orc}(hO:OrcOk P O){ops:Array Oper}{o:Oper}{s s':St}(hs:opS P O N ops o s=some s'){B0:Nat→Option AB}{L0:Nat→Option Value}{w0:World}(h:VO E m N B0 L0 w0 s a w){K:Act→World→Prop}{Q:Exit→Act→World→Prop}(hK:∀a' w',VO E m N B0 L0 w0 s' a' w'→K a' w'):if Region.wanted o (yielded ops a.tmps)=true then o.wp P a w K Q else K (a.put o.dst undef) w:=by
 obtain ⟨L,h1,h2,h3,hm⟩:=h
 unfold opS at hs
 split at hs
 ·rename_i hd
  split at hs
  ·rename_i hg
   rw [if_pos (UR h1 hg)]
   split at hs
   ·rename_i v up nx hr
    split at hs
    ·rename_i hn
     cases hs
     have hle:=Nat.le_of_ble_eq_true hn
     refine ZeE hO h1 hr (fun id hid _=>h2 id hid) fun v' w' L' hA hv hnew=>hK _ _ ⟨L',?_,fun id hid=>?_,?_,fun i u hi hu=>hA.lk _ _ (hm i u hi hu)⟩
     ·rw [Zjy,VF]
      exact h1.aft hA hv (J8 hd)
     ·cases hl:L' id with
      | none=>rfl
      | some u=>
        dsimp only at hid
        have:=hnew id (h2 id (by omega)) (by rw [hl];simp)
        omega
     ·rw [VF]
      exact h3.trans hA.run
    ·cases hs
   ·cases hs
  ·rename_i hg
   cases hs
   rw [if_neg (by rw [UR h1 hg];simp)]
   refine hK _ _ ⟨L,?_,h2,h3,hm⟩
   rw [Zjy]
   exact Zkh h1 (J8 hd) _
  ·cases hs
 ·cases hs
theorem Zc1{O:FuncId→Option Orc}(hO:OrcOk P O){ops:Array Oper}{B0:Nat→Option AB}{L0:Nat→Option Value}{w0:World}{Q:Exit→Act→World→Prop}:∀(l:List Oper) (s s':St),Zmr P O N ops l s=some s'→
  (∀a' w',VO E m N B0 L0 w0 s' a' w'→Q .normal a' w')→∀a w,VO E m N B0 L0 w0 s a w→wpList P ops Q l a w
 | [],s,s',hs,hQ,a,w,h=>by
   simp only [Zmr,Option.some.injEq] at hs
   subst hs
   exact hQ a w h
 | o::l,s,s',hs,hQ,a,w,h=>by
   simp only [Zmr] at hs
   split at hs
   ·rename_i s1 h1
    have:=Zlx (P:=P) (K:=wpList P ops Q l) (Q:=Q) hO h1 h fun a' w' hf=>Zc1 hO l s1 s' hs hQ a' w' hf
    unfold wpList
    split
    ·rename_i hw
     rw [if_pos hw] at this
     exact .inl this
    ·rename_i hw
     rw [if_neg hw] at this
     exact this
   ·cases hs
theorem Zj7(b:Nat→Option AB)(ρ:Nat→Option Nat):∀(l:List Nat) (i0 x:Nat),(ZD (gcB b ρ l i0) x).getD none=if i0≤x then (l[x-i0]?).bind fun y=>(b y).map (AB.ren ρ) else none
 | [],i0,x=>by simp [gcB,ZD]
 | y::l,i0,x=>by
   simp only [gcB,ZD]
   split
   ·rename_i e
    subst e
    simp
   ·rename_i e
    rw [Zj7 b ρ l (i0+1) x]
    by_cases h:i0+1≤x
    ·rw [if_pos h,if_pos (by omega),show x-i0=(x-(i0+1))+1 by omega,List.getElem?_cons_succ]
    ·rw [if_neg h,if_neg (by omega)]
theorem Zkj(t:Nat→AV)(ρ:Nat→Option Nat):∀(l:List Nat) (x:Nat),Zbi (gcT t ρ l) x=.any∨Zbi (gcT t ρ l) x=(t x).ren ρ
 | [],x=>.inl rfl
 | y::l,x=>by
   simp only [gcT,Zbi]
   split
   ·rename_i e;subst e;exact .inr rfl
   ·exact Zkj t ρ l x
def gcL(keep:List Nat)(L:Nat→Option Value)(i:Nat):Option Value:=(keep[i]?).bind L
theorem WE{keep:List Nat}{i y:Nat}(h:keep[i]?=some y):gcL keep L i=L y:=by simp [gcL,h]
theorem Vq(b:Nat→Option AB):∀(f:Nat) (l acc:List Nat) (i:Nat),i<acc.length→(UA b f l acc)[i]?=acc[i]?
 | 0,l,acc,i,hi=>by simp [UA]
 | f+1,[],acc,i,hi=>by simp [UA]
 | f+1,x::l,acc,i,hi=>by
   simp only [UA]
   split
   ·exact Vq b f l acc i hi
   ·split
    ·rw [Vq b f _ _ i (by simp;omega),List.getElem?_append_left hi]
    ·rw [Vq b f _ _ i (by simp;omega),List.getElem?_append_left hi]
    ·rw [Vq b f _ _ i (by simp;omega),List.getElem?_append_left hi]
    ·exact Vq b f l acc i hi
theorem ZkB{live:List Nat}{s s':St}(hs:gcC m live s=some s'){B0:Nat→Option AB}{L0:Nat→Option Value}{w0:World}(h:VO E m N B0 L0 w0 s a w):VO E m N B0 L0 w0 s' a w:=by
 obtain ⟨L,h1,h2,h3,hm⟩:=h
 unfold gcC at hs
 dsimp only at hs
 have hpre:∀i,i<m→(UA s.b 64 (AV.refsL (live.map s.t)++ZcC s.b m) (List.range m))[i]?=some i:=fun i hi=>by
  rw [Vq _ _ _ _ _ (by simpa using hi)]
  simp [hi]
 generalize hk:UA s.b 64 (AV.refsL (live.map s.t)++ZcC s.b m) (List.range m)=keep at hs hpre
 split at hs
 ·rename_i hn
  cases hs
  have hρ:∀b i,Qo keep b=some i→gcL keep L i=L b:=fun b i hi=>WE (Zbx hi)
  have hB:∀i blk,(⟨gcT s.t (Qo keep) live,gcB s.b (Qo keep) keep 0,keep.length⟩:St).b i=some blk→∃y b0,keep[i]?=some y∧s.b y=some b0∧blk=b0.ren (Qo keep):=fun i blk hi=>by
   have e:(⟨gcT s.t (Qo keep) live,gcB s.b (Qo keep) keep 0,keep.length⟩:St).b i=(keep[i]?).bind fun y=>(s.b y).map (AB.ren (Qo keep)):=by
    show (ZD (gcB s.b (Qo keep) keep 0) i).getD none=_
    rw [Zj7]
    simp
   rw [e] at hi
   obtain ⟨y,h4,h5⟩:=Option.bind_eq_some_iff.1 hi
   obtain ⟨b0,h6,h7⟩:=Option.map_eq_some_iff.1 h5
   exact ⟨y,b0,h4,h6,h7.symm⟩
  have hok:∀b o,okS E s.b L b o→okS E (⟨gcT s.t (Qo keep) live,gcB s.b (Qo keep) keep 0,keep.length⟩:St).b (gcL keep L) b o:=fun b o h4=>⟨h4.1,fun id blk v h5 h6 h7=>by
   obtain ⟨y,b0,h8,h9,rfl⟩:=hB id blk h5
   rw [WE h8] at h6
   rw [AB.ren_frz]
   exact h4.2 y b0 v h9 h6 h7⟩
  refine ⟨gcL keep L,⟨fun t=>?_,⟨fun id blk h4=>?_,fun id blk v g h4 h5 h6 o=>?_,h1.bs.fresh,h1.bs.limb,fun id id' blk blk' v v' g h4 h5 h6 h7 h8 h9=>?_,h1.bs.glob.mono (fun _ _ _ _ h=>h) (fun b o _ h4 _=>hok b o h4) fun _ _=>rfl⟩,h1.size,h1.defers⟩,fun id hid=>?_,h3.trans ⟨Mod.refl _ _,fun id blk v g h4 h5 h6 _=>?_⟩,fun i u hi hu=>by rw [WE (hpre i hi)];exact hm i u hi hu⟩
  ·rcases Zkj s.t (Qo keep) live t with h4|h4
   ·simp only [St.t]
    rw [h4]
    exact .t (.any _)
   ·simp only [St.t]
    rw [h4]
    exact (Rep.ren hρ _ _ (h1.slots t)).mono (fun _ _ _ _ h=>h) (fun b o _ h5 _=>hok b o h5) (fun _ _ h=>h)
  ·obtain ⟨y,b0,h8,h9,rfl⟩:=hB id blk h4
   have h10:=h1.bs.blk y b0 h9
   cases b0 with
   | row e k es fz=>
     obtain ⟨v,xs,h11,h12,h13,h14,h15⟩:=h10
     refine ⟨v,xs,by rw [WE h8];exact h11,h12,h13,h14,fun i j x d h16 h17=>?_⟩
     obtain ⟨u,h18,h19⟩:=h15 i j x d h16 h17
     exact ⟨u,h18,h19.mono (fun _ _ _ _ h=>h) fun b o _ h5 _=>hok b o h5⟩
   | box t cs fz=>
     obtain ⟨g,cells,h11,h12,h13,h14,h15⟩:=h10
     have h16:=Rep.renL hρ cs (fun i=>cells.getD i undef) h14
     exact ⟨g,cells,by rw [WE h8];exact h11,h12,by rw [h16.1];exact h13,fun i d hi=>(h16.2 i d hi).mono (fun _ _ _ _ h=>h) (fun b o _ h5 _=>hok b o h5) (fun _ _ h=>h),h15⟩
   | mp es=>
     obtain ⟨g,ents,c,h11,h12,h13⟩:=h10
     exact ⟨g,ents,c,by rw [WE h8];exact h11,h12,h13⟩
  ·obtain ⟨y,b0,h8,h9,rfl⟩:=hB id blk h4
   rw [WE h8] at h5
   exact h1.bs.ext y b0 v g h9 h5 h6 o
  ·obtain ⟨y,b0,h10,h11,rfl⟩:=hB id blk h4
   obtain ⟨y',b0',h12,h13,rfl⟩:=hB id' blk' h5
   rw [WE h10] at h6
   rw [WE h12] at h7
   have:=h1.bs.inj y y' b0 b0' v v' g h11 h13 h6 h7 h8 h9
   subst this
   exact JW hn h10 h12
  ·simp [gcL,List.getElem?_eq_none hid]
  ·obtain ⟨y,b0,h8,h9,rfl⟩:=hB id blk h4
   rw [WE h8] at h5
   exact ⟨y,b0,v,h9,h5,h6,fun o ho=>by rw [AB.ren_frz];exact ho⟩
 ·cases hs
theorem Zfy{h:Nat}{s:St}{B0:Nat→Option AB}{L0:Nat→Option Value}{w0:World}(hf:VO E m N B0 L0 w0 s a w):VO E m N B0 L0 w0 (Zfq h s) a w:=by
 unfold Zfq
 split
 ·rename_i b o hslot
  split
  ·rename_i t cs hb
   split
   ·rename_i kk hc
    generalize o+(h / 4096-1) % 64=c at hc ⊢
    split
    ·obtain ⟨L,h1,h2,h3,hm⟩:=hf
     have hst:Step E s.b L [(b,some (.box t (cs.set c (.sl kk [])) false))] L w w:=by
      refine ⟨fun _ _ h=>h,Mod.refl _ _,fun hr hrt id blk hu=>?_,fun id blk v g hu hL' hg=>?_,fun id id' blk blk' v v' g hu hu' hl hl' hg hg'=>?_⟩
      ·simp only [ZD] at hu
       split at hu
       ·rename_i e
        subst e
        cases hu
        obtain ⟨g,cells,h4,h5,h6,h7,h8⟩:=h1.bs.blk id _ hb
        refine ⟨g,cells,h4,h5,by simpa using h6,fun i d hi=>?_,h8⟩
        rw [List.getElem?_set] at hi
        split at hi
        ·rename_i e
         subst e
         split at hi
         ·cases hi
          have h9:=h7 c _ hc
          cases h9 with
          | t h9=>
            generalize cells.getD c undef=u at h9
            cases h9
            exact .t (.nil _ _)
         ·cases hi
        ·exact hr _ _ (h7 i d hi)
       ·cases hu
      ·simp only [ZD] at hu
       split at hu
       ·rename_i e
        subst e
        cases hu
        exact .inr ⟨id,_,v,by simp [ZD],hb,hL',hg,fun o h=>h⟩
       ·cases hu
      ·simp only [ZD] at hu hu'
       split at hu
       ·split at hu'
        ·rename_i e e';rw [e,e']
        ·cases hu'
       ·cases hu
     refine ⟨L,?_,h2,?_,hm⟩
     ·have h4:=h1.aft (hst.aft h1.bs) (dst:=none) (d:=.any) (v:=undef) (.t (.any _)) (fun t ht=>by cases ht)
      rw [←VF s _ s.T s.nx] at h4
      exact h4
     ·have h4:=h3.trans (hst.aft h1.bs).run
      rw [←VF s _ s.T s.nx] at h4
      exact h4
    rename_i kq _
    obtain ⟨L,h1,h2,h3,hm⟩:=hf
    have hL:=h2 s.nx (Nat.le_refl _)
    have hbn:b≠s.nx:=fun e=>by
     obtain ⟨v,hv⟩:=(h1.bs.blk b _ hb).has
     rw [e,hL] at hv;cases hv
    have hst:Step E s.b L [(b,some (.box t (cs.set c (.own s.nx 0)) false)),(s.nx,some (.row ((h / 4096-1) / 4096) (kq+1) [] 0))] (Wb L s.nx (.slice none 0 0)) w w:=by
     refine ⟨UU hL _,Mod.refl _ _,fun hr hrt id blk hu=>?_,fun id blk v g hu hL' hg=>?_,fun id id' blk blk' v v' g hu hu' hl hl' hg hg'=>?_⟩
     ·simp only [ZD] at hu
      split at hu
      ·rename_i e
       subst e
       cases hu
       obtain ⟨g,cells,h4,h5,h6,h7,h8⟩:=h1.bs.blk id _ hb
       refine ⟨g,cells,UU hL _ _ _ h4,h5,by simpa using h6,fun i d hi=>?_,h8⟩
       rw [List.getElem?_set] at hi
       split at hi
       ·rename_i e
        subst e
        split at hi
        ·cases hi
         have h9:=h7 c _ hc
         cases h9 with
         | t h9=>
           generalize cells.getD c undef=u at h9
           cases h9
           exact .own (ZH _ _ _)
        ·cases hi
       ·exact hr _ _ (h7 i d hi)
      ·split at hu
       ·rename_i e
        subst e
        cases hu
        exact ⟨_,[],ZH _ _ _,Row.nil _ _ _ _ _,Nat.le_refl _,fun x hx=>(by cases hx),fun i j x d hi=>(by simp at hi)⟩
       ·cases hu
     ·simp only [ZD] at hu
      split at hu
      ·rename_i e
       subst e
       cases hu
       obtain ⟨v0,hv0⟩:=(h1.bs.blk id _ hb).has
       have h4:=UU hL (.slice none 0 0) _ _ hv0
       rw [hL'] at h4
       cases h4
       exact .inr ⟨id,_,v,by simp [ZD],hb,hv0,hg,fun o h=>h⟩
      ·split at hu
       ·rename_i e
        subst e
        rw [ZH] at hL'
        cases hL'
        cases hg
       ·cases hu
     ·simp only [ZD] at hu hu'
      split at hu
      ·split at hu'
       ·rename_i e e';rw [e,e']
       ·split at hu'
        ·rename_i e
         subst e
         rw [ZH] at hl';cases hl'
         cases hg'
        ·cases hu'
      ·split at hu
       ·rename_i e
        subst e
        rw [ZH] at hl;cases hl
        cases hg
       ·cases hu
    refine ⟨Wb L s.nx (.slice none 0 0),?_,fun id hid=>?_,?_,fun i u hi hu=>UU hL _ _ _ (hm i u hi hu)⟩
    ·have h4:=h1.aft (hst.aft h1.bs) (dst:=none) (d:=.any) (v:=undef) (.t (.any _)) (fun t ht=>by cases ht)
     rw [←VF s _ s.T (s.nx+1)] at h4
     exact h4
    ·dsimp only at hid
     unfold Wb
     rw [if_neg (by omega)]
     exact h2 id (by omega)
    ·have h4:=h3.trans (hst.aft h1.bs).run
     rw [←VF s _ s.T (s.nx+1)] at h4
     exact h4
   ·exact hf
  ·exact hf
 ·exact hf
theorem KN{B0:Nat→Option AB}{L0:Nat→Option Value}{w0:World}:∀(l:List Nat) (s:St),VO E m N B0 L0 w0 s a w→VO E m N B0 L0 w0 (ZeA l s) a w
 | [],s,h=>h
 | x::l,s,h=>by
   unfold ZeA
   split
   ·exact KN l _ (Zfy h)
   ·exact KN l _ h
theorem Zc4{live:List Nat}{s s':St}(hs:gc m live s=some s'){B0:Nat→Option AB}{L0:Nat→Option Value}{w0:World}(h:VO E m N B0 L0 w0 s a w):VO E m N B0 L0 w0 s' a w:=
 ZkB hs (KN live s h)
end
theorem Tr.run_congr{T T':Nat→AV}{B B':Nat→Option AB}:∀(tr:Tr),(∀t∈(tr.asks T B).1,T' t=T t)→(∀b∈(tr.asks T B).2,B' b=B b)→tr.run T' B'=tr.run T B
 | .slot t k,hT,hB=>by
   have h0:T' t=T t:=hT t (by simp [Tr.asks])
   simp only [Tr.run,h0]
   exact Tr.run_congr (k (T t)) (fun u hu=>hT u (by simp [Tr.asks,hu])) (fun b hb=>hB b (by simpa [Tr.asks] using hb))
 | .blk b k,hT,hB=>by
   have h0:B' b=B b:=hB b (by cases hx:B b <;>simp [Tr.asks,hx])
   simp only [Tr.run,h0]
   cases hx:B b with
   | none=>rfl
   | some x=>exact Tr.run_congr (k x) (fun u hu=>hT u (by simpa [Tr.asks,hx] using hu)) (fun c hc=>hB c (by simp [Tr.asks,hx,hc]))
 | .done _ _ _,_,_=>rfl
 | .fail,_,_=>rfl
structure Rec where
 o:Oper
 want:Bool
 v:AV
 up:List (Nat × Option AB)
 f:Nat
 f':Nat
 foot:Foot
def XM(D:Nat→Bool):List Rec→Nat→(Nat→AV)→Nat→AV
 | [],_,T=>T
 | r::l,i,T=>XM D l (i+1) (if D i then Vx T r.o.dst r.v else T)
def Vc(D:Nat→Bool):List Rec→Nat→(Nat→Option AB)→Nat→Option AB
 | [],_,B=>B
 | r::l,i,B=>Vc D l (i+1) (if D i then ZT B r.up else B)
theorem Vb{D D':Nat→Bool}{t:Nat}:∀(l:List Rec) (i:Nat) (T T':Nat→AV),T t=T' t→(∀j r,l[j]?=some r→r.o.dst=some t→D (i+j)=D' (i+j))→XM D l i T t=XM D' l i T' t
 | [],_,_,_,h,_=>h
 | r::l,i,T,T',h,hd=>by
   simp only [XM]
   refine Vb l (i+1) _ _ ?_ (fun j r' hj hr=>by have:=hd (j+1) r' (by simpa using hj) hr;rwa [show i+(j+1)=i+1+j by omega] at this)
   by_cases hr:r.o.dst=some t
   ·have h0:=hd 0 r rfl hr
    rw [Nat.add_zero] at h0
    rw [h0]
    cases D' i with
    | true=>simp [Vx,hr]
    | false=>simpa using h
   ·have e:∀(T:Nat→AV),(if D i=true then Vx T r.o.dst r.v else T) t=T t∧(if D' i=true then Vx T r.o.dst r.v else T) t=T t:=fun T=>by
     have:Vx T r.o.dst r.v t=T t:=by
      cases hx:r.o.dst with
      | none=>rfl
      | some d=>simp only [Vx];rw [if_neg (fun e=>hr (by rw [hx,e]))]
     constructor <;>split <;>first|exact this|rfl
    rw [(e T).1,(e T').2];exact h
theorem WP{D D':Nat→Bool}{x:Nat}:∀(l:List Rec) (i:Nat) (B B':Nat→Option AB),B x=B' x→(∀j r,l[j]?=some r→x∈r.up.map (·.1)→D (i+j)=D' (i+j))→Vc D l i B x=Vc D' l i B' x
 | [],_,_,_,h,_=>h
 | r::l,i,B,B',h,hd=>by
   simp only [Vc]
   refine WP l (i+1) _ _ ?_ (fun j r' hj hr=>by have:=hd (j+1) r' (by simpa using hj) hr;rwa [show i+(j+1)=i+1+j by omega] at this)
   have hmem:∀(up:List (Nat × Option AB)),x∈up.map (·.1)∨ZD up x=none:=fun up=>by
    induction up with
    | nil=>exact .inr rfl
    | cons p up ih=>
      obtain ⟨y,b⟩:=p
      simp only [ZD]
      split
      ·rename_i e;subst e;exact .inl (by simp)
      ·rcases ih with h|h
       ·exact .inl (by simp at h ⊢;exact .inr h)
       ·exact .inr h
   rcases hmem r.up with hr|hr
   ·have h0:=hd 0 r rfl hr
    rw [Nat.add_zero] at h0
    rw [h0]
    cases D' i with
    | true=>simp [ZT,h]
    | false=>simpa using h
   ·have e:∀(B:Nat→Option AB),(if D i=true then ZT B r.up else B) x=B x∧(if D' i=true then ZT B r.up else B) x=B x:=fun B=>by
     have:ZT B r.up x=B x:=QQ hr
     constructor <;>split <;>first|exact this|rfl
    rw [(e B).1,(e B').2];exact h
theorem U3{acc:List Nat}{i:Nat}:∀(es:List Edge),(KY acc es).testBit i=true→∃e∈es,Region.binds .any e=true∧(e.on=i∨(acc.getD e.on 0).testBit i=true)
 | [],h=>by simp [KY] at h
 | e::es,h=>by
   simp only [KY] at h
   split at h
   ·rename_i hb
    rw [Nat.testBit_or,Nat.testBit_or,Bool.or_eq_true,Bool.or_eq_true] at h
    rcases h with (h|h)|h
    ·refine ⟨e,by simp,hb,.inl ?_⟩
     rw [Nat.testBit_two_pow] at h
     exact of_decide_eq_true h
    ·exact ⟨e,by simp,hb,.inr h⟩
    ·obtain ⟨e',h1,h2⟩:=U3 es h
     exact ⟨e',by simp [h1],h2⟩
   ·obtain ⟨e',h1,h2⟩:=U3 es h
    exact ⟨e',by simp [h1],h2⟩
theorem UW{D:Nat→Bool}{all:List Oper}(hD:∀(j:Nat) (o:Oper),all[j]?=some o→D j=true→∀e∈o.after,Region.binds .any e=true→D e.on=true):
  ∀(l:List Oper) (acc:List Nat),(∀k o,l[k]?=some o→all[acc.length+k]?=some o)→(∀j,j<acc.length→D j=true→∀i,(acc.getD j 0).testBit i=true→D i=true)→
   ∀j,j<acc.length+l.length→D j=true→∀i,((Zeu l acc).getD j 0).testBit i=true→D i=true
 | [],acc,_,h,j,hj,hd,i,hi=>h j (by simpa using hj) hd i hi
 | o::l,acc,hl,h,j,hj,hd,i,hi=>by
   simp only [Zeu] at hi
   refine UW hD l (acc++[KY acc o.after.toList]) (fun k o' hk=>?_) (fun j' hj' hd' i' hi'=>?_) j (by simp at hj ⊢;omega) hd i hi
   ·have:=hl (k+1) o' (by simpa using hk)
    simpa [Nat.add_assoc,Nat.add_comm 1 k] using this
   ·rcases Nat.lt_or_ge j' acc.length with h1|h1
    ·rw [List.getD_eq_getElem?_getD,List.getElem?_append_left h1,←List.getD_eq_getElem?_getD] at hi'
     exact h j' h1 hd' i' hi'
    ·have h2:j'=acc.length:=by simp at hj';omega
     subst h2
     rw [List.getD_eq_getElem?_getD,List.getElem?_append_right (Nat.le_refl _)] at hi'
     simp only [Nat.sub_self,List.getElem?_cons_zero,Option.getD_some] at hi'
     obtain ⟨e,h3,h4,h5⟩:=U3 _ hi'
     have h6:=hD acc.length o (by have:=hl 0 o rfl;simpa using this) hd' e (by simpa using h3) h4
     rcases h5 with h5|h5
     ·rw [←h5];exact h6
     ·rcases Nat.lt_or_ge e.on acc.length with h7|h7
      ·exact h e.on h7 h6 i' h5
      ·rw [List.getD_eq_getElem?_getD,List.getElem?_eq_none h7] at h5
       simp at h5
theorem Zan{f:Foot}{m:Nat}:∀{l:List Foot} {i0:Nat},KX f m l i0=true→∀i g,l[i]?=some g→g.clash f=true→m.testBit (i0+i)=true
 | [],_,_,i,g,h,_=>by simp at h
 | x::l,i0,h,i,g,hi,hc=>by
   simp only [KX,Bool.and_eq_true,Bool.or_eq_true,Bool.not_eq_true'] at h
   cases i with
   | zero=>
     simp at hi
     subst hi
     rcases h.1 with h1|h1
     ·rw [hc] at h1;cases h1
     ·exact h1
   | succ i=>
     have:=Zan h.2 i g (by simpa using hi) hc
     rwa [show i0+1+i=i0+(i+1) by omega] at this
theorem KG{ms:List Nat}:∀{l pre:List Foot},ZaV pre l ms=true→∀j f,l[j]?=some f→∀i g,(pre++l)[i]?=some g→i<pre.length+j→g.clash f=true→(ms.getD (pre.length+j) 0).testBit i=true
 | [],_,_,j,f,hj,_,_,_,_,_=>by simp at hj
 | x::l,pre,h,j,f,hj,i,g,hi,hlt,hc=>by
   simp only [ZaV,Bool.and_eq_true] at h
   cases j with
   | zero=>
     simp at hj
     subst hj
     have hi':pre[i]?=some g:=by rwa [List.getElem?_append_left (by omega)] at hi
     have:=Zan h.1 i g hi' hc
     simpa using this
   | succ j=>
     have:=KG h.2 j f (by simpa using hj) i g (by simpa using hi) (by simp;omega) hc
     simpa [Nat.add_assoc,Nat.add_comm 1 j] using this
theorem Zdo:∀{l:List Oper} {i0:Nat},ZdE l i0=true→∀i o,l[i]?=some o→∀e∈o.after,Region.binds .any e=true→e.on<i0+i
 | [],_,_,i,o,h,_,_,_=>by simp at h
 | x::l,i0,h,i,o,hi,e,he,hb=>by
   simp only [ZdE,Bool.and_eq_true] at h
   cases i with
   | zero=>
     simp at hi
     subst hi
     have:=List.all_eq_true.1 h.1 e (by simpa using he)
     rw [hb] at this
     have h9:e.on<i0:=by simpa using this
     exact h9
   | succ i=>
     have:=Zdo h.2 i o (by simpa using hi) e he hb
     omega
def UP:List Rec→(Nat→AV)→Nat→AV
 | [],T=>T
 | r::l,T=>UP l (Vx T r.o.dst r.v)
def Kq:List Rec→(Nat→Option AB)→Nat→Option AB
 | [],B=>B
 | r::l,B=>Kq l (ZT B r.up)
theorem Uw{D:Nat→Bool}:∀(l:List Rec) (k i:Nat) (T:Nat→AV),(∀j,j<i→D (k+j)=true)→(∀j,i≤j→D (k+j)=false)→XM D l k T=UP (l.take i) T
 | [],k,i,T,_,_=>by simp [XM,UP]
 | r::l,k,0,T,h1,h2=>by
   have h0:=h2 0 (Nat.le_refl _)
   rw [Nat.add_zero] at h0
   simp only [XM,h0,Bool.false_eq_true,if_false]
   rw [Uw l (k+1) 0 T (fun j hj=>by omega) (fun j hj=>by have:=h2 (j+1) (by omega);rwa [show k+(j+1)=k+1+j by omega] at this)]
   simp [UP]
 | r::l,k,i+1,T,h1,h2=>by
   have h0:=h1 0 (by omega)
   rw [Nat.add_zero] at h0
   simp only [XM,h0,if_true,List.take_succ_cons,UP]
   exact Uw l (k+1) i _ (fun j hj=>by have:=h1 (j+1) (by omega);rwa [show k+(j+1)=k+1+j by omega] at this) (fun j hj=>by have:=h2 (j+1) (by omega);rwa [show k+(j+1)=k+1+j by omega] at this)
theorem Ub{D:Nat→Bool}:∀(l:List Rec) (k i:Nat) (B:Nat→Option AB),(∀j,j<i→D (k+j)=true)→(∀j,i≤j→D (k+j)=false)→Vc D l k B=Kq (l.take i) B
 | [],k,i,B,_,_=>by simp [Vc,Kq]
 | r::l,k,0,B,h1,h2=>by
   have h0:=h2 0 (Nat.le_refl _)
   rw [Nat.add_zero] at h0
   simp only [Vc,h0,Bool.false_eq_true,if_false]
   rw [Ub l (k+1) 0 B (fun j hj=>by omega) (fun j hj=>by have:=h2 (j+1) (by omega);rwa [show k+(j+1)=k+1+j by omega] at this)]
   simp [Kq]
 | r::l,k,i+1,B,h1,h2=>by
   have h0:=h1 0 (by omega)
   rw [Nat.add_zero] at h0
   simp only [Vc,h0,if_true,List.take_succ_cons,Kq]
   exact Ub l (k+1) i _ (fun j hj=>by have:=h1 (j+1) (by omega);rwa [show k+(j+1)=k+1+j by omega] at this) (fun j hj=>by have:=h2 (j+1) (by omega);rwa [show k+(j+1)=k+1+j by omega] at this)
theorem ZeY:∀(l:List Rec) (i:Nat) (r:Rec) (T:Nat→AV),l[i]?=some r→UP (l.take (i+1)) T=Vx (UP (l.take i) T) r.o.dst r.v
 | [],i,r,T,h=>by simp at h
 | x::l,0,r,T,h=>by simp at h;subst h;simp [UP]
 | x::l,i+1,r,T,h=>by
   rw [List.take_succ_cons,List.take_succ_cons,UP,UP]
   exact ZeY l i r _ (by simpa using h)
theorem Zeh:∀(l:List Rec) (i:Nat) (r:Rec) (B:Nat→Option AB),l[i]?=some r→Kq (l.take (i+1)) B=ZT (Kq (l.take i) B) r.up
 | [],i,r,B,h=>by simp at h
 | x::l,0,r,B,h=>by simp at h;subst h;simp [Kq]
 | x::l,i+1,r,B,h=>by
   rw [List.take_succ_cons,List.take_succ_cons,Kq,Kq]
   exact Zeh l i r _ (by simpa using h)
structure RecOk (P:Program) (O:FuncId→Option Orc) (N:Nat) (ops:Array Oper) (T:Nat→AV) (B:Nat→Option AB) (r:Rec):Prop where
 dst:ZjL N r.o.dst=true
 grd:V9 ops r.o.guard T=some r.want
 le:r.f≤r.f'
 yes:r.want=true→(aop P O r.o r.f).run T B=some (r.v,r.up,r.f')∧r.foot=⟨XQ ops r.o.guard++((aop P O r.o r.f).asks T B).1,((aop P O r.o r.f).asks T B).2,r.up.map (·.1),r.o.dst⟩
 no:r.want=false→r.v=.lit undef∧r.up=[]∧r.foot=⟨XQ ops r.o.guard,[],[],r.o.dst⟩
theorem RecOk.fdst{P:Program}{O:FuncId→Option Orc}{N:Nat}{ops:Array Oper}{T:Nat→AV}{B:Nat→Option AB}{r:Rec}(h:RecOk P O N ops T B r):r.foot.dst=r.o.dst∧r.foot.wb=r.up.map (·.1)∧∀t∈XQ ops r.o.guard,t∈r.foot.rs:=by
 cases hw:r.want with
 | true=>rw [(h.yes hw).2];exact ⟨rfl,rfl,fun t ht=>by simp [ht]⟩
 | false=>rw [(h.no hw).2.2,(h.no hw).2.1];exact ⟨rfl,rfl,fun t ht=>ht⟩
theorem Zi4{P:Program}{O:FuncId→Option Orc}{N:Nat}{ops:Array Oper}:∀(l:List Oper) (s s':St) (fs:List Foot),ZlT P O N ops l s=some (s',fs)→
  ∃recs:List Rec,recs.map (·.foot)=fs∧recs.map (·.o)=l∧s'.t=UP recs s.t∧s'.b=Kq recs s.b∧s.nx≤s'.nx∧
   (∀(i:Nat) (r:Rec),recs[i]?=some r→RecOk P O N ops (UP (recs.take i) s.t) (Kq (recs.take i) s.b) r∧s.nx≤r.f∧r.f'≤s'.nx)∧
   ∀(i j:Nat) (r q:Rec),recs[i]?=some r→recs[j]?=some q→i<j→r.f'≤q.f
 | [],s,s',fs,h=>by
   simp only [ZlT,Option.some.injEq,Prod.mk.injEq] at h
   obtain ⟨rfl,rfl⟩:=h
   exact ⟨[],rfl,rfl,rfl,rfl,Nat.le_refl _,fun i r h=>by simp at h,fun i j r q h=>by simp at h⟩
 | o::l,s,s',fs,h=>by
   simp only [ZlT] at h
   split at h
   ·rename_i s1 h1
    split at h
    ·rename_i s2 fs' h2
     simp only [Option.some.injEq,Prod.mk.injEq] at h
     obtain ⟨rfl,rfl⟩:=h
     obtain ⟨recs,g1,g2,g3,g4,g5,g6,g7⟩:=Zi4 l s1 s2 fs' h2
     obtain ⟨r,k1,k2,k3,k4,k5⟩:∃r:Rec,r.o=o∧r.f=s.nx∧r.f'=s1.nx∧(s1.t=Vx s.t o.dst r.v∧s1.b=ZT s.b r.up∧r.foot=Zdq P O ops o s)∧RecOk P O N ops s.t s.b r:=by
      unfold opS at h1
      split at h1
      ·rename_i hd
       split at h1
       ·rename_i hg
        split at h1
        ·rename_i v up nx hr
         split at h1
         ·rename_i hn
          cases h1
          refine ⟨⟨o,true,v,up,s.nx,nx,Zdq P O ops o s⟩,rfl,rfl,rfl,⟨Zjy _ _ _ _ _,VF _ _ _ _,rfl⟩,⟨hd,hg,Nat.le_of_ble_eq_true hn,fun _=>⟨hr,?_⟩,fun h=>by cases h⟩⟩
          simp only [Zdq,hg,hr]
         ·cases h1
        ·cases h1
       ·rename_i hg
        cases h1
        refine ⟨⟨o,false,.lit undef,[],s.nx,s.nx,Zdq P O ops o s⟩,rfl,rfl,rfl,⟨Zjy _ _ _ _ _,by rw [Q4];rfl,rfl⟩,⟨hd,hg,Nat.le_refl _,fun h=>(by cases h),fun _=>⟨rfl,rfl,?_⟩⟩⟩
        simp only [Zdq,hg]
       ·cases h1
      ·cases h1
     refine ⟨r::recs,by simp [g1,k4.2.2],by simp [g2,k1],?_,?_,?_,fun i q hi=>?_,fun i j q q' hi hj hij=>?_⟩
     ·rw [UP,k1,←k4.1];exact g3
     ·rw [Kq,←k4.2.1];exact g4
     ·have:=k5.le;omega
     ·cases i with
      | zero=>
        simp at hi
        subst hi
        exact ⟨k5,by omega,by omega⟩
      | succ i=>
        obtain ⟨q1,q2,q3⟩:=g6 i q (by simpa using hi)
        rw [List.take_succ_cons,UP,Kq,k1,←k4.1,←k4.2.1]
        have:=k5.le
        exact ⟨q1,by omega,q3⟩
     ·cases j with
      | zero=>omega
      | succ j=>
        have hj':recs[j]?=some q':=by simpa using hj
        cases i with
        | zero=>
          simp at hi
          subst hi
          obtain ⟨_,q2,_⟩:=g6 j q' hj'
          omega
        | succ i=>exact g7 i j q q' (by simpa using hi) hj' (by omega)
    ·cases h
   ·cases h
theorem Ze1{l:List Nat}{p q:Nat→Bool}{x:Nat}(hx:x∈l)(hp:p x=true)(hq:q x=false)(h:∀y∈l,q y=true→p y=true):l.countP q<l.countP p:=by
 induction l with
 | nil=>cases hx
 | cons y l ih=>
   have hle:l.countP q≤l.countP p:=List.countP_mono_left fun z hz=>h z (by simp [hz])
   rw [List.countP_cons,List.countP_cons]
   rcases List.mem_cons.1 hx with rfl|hm
   ·rw [hp,hq];simp;omega
   ·have:=ih hm fun z hz=>h z (by simp [hz])
    have h1:(if q y=true then 1 else 0)≤(if p y=true then 1 else 0):=by
     by_cases hqy:q y=true
     ·rw [if_pos hqy,if_pos (h y (by simp) hqy)];exact Nat.le_refl _
     ·rw [if_neg hqy];exact Nat.zero_le _
    omega
theorem Jn{d:Option Nat}{t:Nat}{l:List Nat}(h:d=some t)(hm:t∈l):Zb3 d l=true:=by subst h;simpa [Zb3] using hm
theorem J4{a b:List Nat}{x:Nat}(h1:x∈a)(h2:x∈b):ZfK a b=true:=List.any_eq_true.2 ⟨x,h1,by simpa using h2⟩
theorem Ze8{ops:Array Oper}{g:Option (Nat × Bool)}{T T':Nat→AV}(h:∀t∈XQ ops g,T' t=T t):V9 ops g T'=V9 ops g T:=by
 unfold V9 XQ at*
 cases g with
 | none=>rfl
 | some p=>
   obtain ⟨j,want⟩:=p
   dsimp only at*
   cases hx:(ops[j]?).bind (·.dst) with
   | none=>rfl
   | some t=>
     rw [hx] at h
     dsimp only
     rw [h t (by simp)]
section
variable {P : Program} {E : Nat → Nat → Prop} {m N : Nat} {O : FuncId → Option Orc} {ops : Array Oper}
theorem ZiK(hO:OrcOk P O)(hm:P.follows .mixedOrders=true){s s':St}(hs:Zkk P O N ops s=some s'){id:Nat}{B0:Nat→Option AB}{L0:Nat→Option Value}{w0:World}{a:Act}{w:World}(hf:VO E m N B0 L0 w0 s a w){Q:Exit→Act→World→Prop}(hQ:∀a' w',VO E m N B0 L0 w0 s' a' w'→Q .normal a' w'):(Code.region id ops true).wp P Q a w:=by
 unfold Zkk at hs
 split at hs
 ·rename_i s1 fs hopsF
  split at hs
  ·rename_i hchk
   cases hs
   obtain ⟨hdeps,hpairs⟩:=hchk
   obtain ⟨recs,r1,r2,r3,r4,r5,r6,r7⟩:=Zi4 ops.toList s s' fs hopsF
   have hlen:recs.length=ops.size:=by have:=congrArg List.length r2;simpa using this
   have hro:∀(i:Nat) (r:Rec),recs[i]?=some r→ops[i]?=some r.o:=fun i r hi=>by
    have:ops.toList[i]?=some r.o:=by rw [←r2,List.getElem?_map,hi];rfl
    simpa using this
   have hfoot:∀(i:Nat) (r:Rec),recs[i]?=some r→fs[i]?=some r.foot:=fun i r hi=>by rw [←r1,List.getElem?_map,hi];rfl
   -- what holds when the operations in D have run
   let Inv:(Nat→Bool)→Act→World→Prop:=fun D a w=>∃L,SRel E N (XM D recs 0 s.t) (Vc D recs 0 s.b) L a w∧
    (∀x,s.nx≤x→(∀(i:Nat) (r:Rec),recs[i]?=some r→D i=true→¬(r.f≤x∧x<r.f'))→L x=none)∧Run B0 L0 (Vc D recs 0 s.b) L w0 w∧∀i u,i<m→L0 i=some u→L i=some u
   have step:∀(D:Nat→Bool) (i:Nat) (r:Rec),recs[i]?=some r→D i=false→(∀(j:Nat) (o:Oper),ops[j]?=some o→D j=true→∀e∈o.after,Region.binds .any e=true→D e.on=true)→
     (∀e∈r.o.after,Region.binds .any e=true→D e.on=true)→∀a w,Inv D a w→∀(K:Act→World→Prop),(∀a' w',Inv (fun j=>if j=i then true else D j) a' w'→K a' w')→
      if Region.wanted r.o (yielded ops a.tmps)=true then r.o.wp P a w K Q else K (a.put r.o.dst undef) w:=by
    intro D i r hi hDi hD hpre a w ⟨L,h1,h2,h3,hlk⟩ K hK
    obtain ⟨hok,hf1,hf2⟩:=r6 i r hi
    obtain ⟨fd,fw,fg⟩:=hok.fdst
    -- D with i is Zpe
    have hDc:∀(j:Nat) (o:Oper),ops.toList[j]?=some o→(fun j=>if j=i then true else D j) j=true→∀e∈o.after,Region.binds .any e=true→(fun j=>if j=i then true else D j) e.on=true:=fun j o hj hdj e he hb=>by
     have hj':ops[j]?=some o:=by simpa using hj
     dsimp only at hdj ⊢
     by_cases hji:j=i
     ·subst hji
      have:=hro j r hi
      rw [hj'] at this
      cases this
      have:=hpre e he hb
      split <;>first|rfl|exact this
     ·rw [if_neg hji] at hdj
      have:=hD j o hj' hdj e he hb
      split <;>first|rfl|exact this
    have hmask:∀(j:Nat) (q:Rec),recs[j]?=some q→(fun j=>if j=i then true else D j) j=true→∀k,((Zeu ops.toList []).getD j 0).testBit k=true→(fun j=>if j=i then true else D j) k=true:=fun j q hj hdj k hk=>
     UW hDc ops.toList [] (fun k o h=>by simpa using h) (fun j hj=>by simp at hj) j (by have:=(List.getElem?_eq_some_iff.1 hj).1;simp;omega) hdj k hk
    -- those that clash with i:the earlier ones are there,the later ones are not
    have early:∀(j:Nat) (q:Rec),recs[j]?=some q→j<i→q.foot.clash r.foot=true→D j=true:=fun j q hj hlt hc=>by
     have:=KG hpairs i _ (hfoot i r hi) j _ (by simpa using hfoot j q hj) (by simpa using hlt) hc
     have:=hmask i r hi (by simp) j (by simpa using this)
     dsimp only at this
     rwa [if_neg (by omega)] at this
    have late:∀(j:Nat) (q:Rec),recs[j]?=some q→i<j→r.foot.clash q.foot=true→D j=false:=fun j q hj hlt hc=>by
     have hb:=KG hpairs j _ (hfoot j q hj) i _ (by simpa using hfoot i r hi) (by simpa using hlt) hc
     cases hdj:D j with
     | false=>rfl
     | true=>
       have:=UW (D:=D) (all:=ops.toList) (fun j o h=>hD j o (by simpa using h)) ops.toList [] (fun k o h=>by simpa using h) (fun j hj=>by simp at hj) j (by have:=(List.getElem?_eq_some_iff.1 hj).1;simp;omega) hdj i (by simpa using hb)
       rw [hDi] at this;cases this
    have tri:∀(j:Nat) (q:Rec),recs[j]?=some q→(j<i→q.foot.clash r.foot=true)→(i<j→r.foot.clash q.foot=true)→D (0+j)=(fun j=>decide (j<i)) (0+j):=fun j q hj hc1 hc2=>by
     rw [Nat.zero_add]
     dsimp only
     rcases Nat.lt_trichotomy j i with h|h|h
     ·rw [early j q hj h (hc1 h)];simp [h]
     ·subst h;rw [hDi];simp
     ·rw [late j q hj h (hc2 h)];simp;omega
    have tri':∀(j:Nat) (q:Rec),recs[j]?=some q→(j<i→q.foot.clash r.foot=true)→(i<j→r.foot.clash q.foot=true)→(fun j=>if j=i then true else D j) (0+j)=(fun j=>decide (j<i+1)) (0+j):=fun j q hj hc1 hc2=>by
     rw [Nat.zero_add]
     dsimp only
     rcases Nat.lt_trichotomy j i with h|h|h
     ·rw [if_neg (by omega),early j q hj h (hc1 h)];simp;omega
     ·subst h;simp
     ·rw [if_neg (by omega),late j q hj h (hc2 h)];simp;omega
    have qf:∀(j:Nat) (q:Rec),recs[j]?=some q→q.foot.dst=q.o.dst∧q.foot.wb=q.up.map (·.1):=fun j q hj=>⟨(r6 j q hj).1.fdst.1,(r6 j q hj).1.fdst.2.1⟩
    have agT:∀t∈r.foot.rs,XM D recs 0 s.t t=UP (recs.take i) s.t t:=fun t ht=>by
     rw [←Uw (D:=fun j=>decide (j<i)) recs 0 i s.t (fun j hj=>by simpa using hj) (fun j hj=>by simp;omega)]
     refine Vb recs 0 _ _ rfl fun j q hj hd=>tri j q hj (fun _=>?_) fun _=>?_
     ·simp only [Foot.clash,Jn ((qf j q hj).1.trans hd) ht,Bool.true_or]
     ·simp only [Foot.clash,Jn ((qf j q hj).1.trans hd) ht,Bool.true_or,Bool.or_true]
    have agB:∀x∈r.foot.rb,Vc D recs 0 s.b x=Kq (recs.take i) s.b x:=fun x hx=>by
     rw [←Ub (D:=fun j=>decide (j<i)) recs 0 i s.b (fun j hj=>by simpa using hj) (fun j hj=>by simp;omega)]
     refine WP recs 0 _ _ rfl fun j q hj hd=>tri j q hj (fun _=>?_) fun _=>?_
     ·have e3:ZfK q.foot.wb r.foot.rb=true:=J4 (by rw [(qf j q hj).2];exact hd) hx
      simp only [Foot.clash,e3,Bool.true_or,Bool.or_true]
     ·have e3:ZfK q.foot.wb r.foot.rb=true:=J4 (by rw [(qf j q hj).2];exact hd) hx
      simp only [Foot.clash,e3,Bool.or_true]
    have hT:Vx (XM D recs 0 s.t) r.o.dst r.v=XM (fun j=>if j=i then true else D j) recs 0 s.t:=by
     funext t
     by_cases hd:r.o.dst=some t
     ·have e1:Vx (XM D recs 0 s.t) r.o.dst r.v t=r.v:=by rw [hd];simp [Vx]
      rw [e1]
      have e2:XM (fun j=>if j=i then true else D j) recs 0 s.t t=UP (recs.take (i+1)) s.t t:=by
       rw [←Uw (D:=fun j=>decide (j<i+1)) recs 0 (i+1) s.t (fun j hj=>by simpa using hj) (fun j hj=>by simp;omega)]
       refine Vb recs 0 _ _ rfl fun j q hj hq=>tri' j q hj (fun _=>?_) fun _=>?_
       ·have e3:Zb3 q.foot.dst r.foot.dst.toList=true:=Jn ((qf j q hj).1.trans hq) (by rw [fd,hd];simp)
        simp only [Foot.clash,e3,Bool.true_or,Bool.or_true]
       ·have e3:Zb3 r.foot.dst q.foot.dst.toList=true:=Jn (fd.trans hd) (by rw [(qf j q hj).1,hq];simp)
        simp only [Foot.clash,e3,Bool.true_or,Bool.or_true]
      rw [e2,ZeY recs i r s.t hi,hd]
      simp [Vx]
     ·have e1:Vx (XM D recs 0 s.t) r.o.dst r.v t=XM D recs 0 s.t t:=by
       cases hx:r.o.dst with
       | none=>rfl
       | some d=>simp only [Vx];rw [if_neg (fun e=>hd (by rw [hx,e]))]
      rw [e1]
      refine Vb recs 0 _ _ rfl fun j q hj hq=>?_
      rw [Nat.zero_add]
      by_cases hji:j=i
      ·subst hji
       rw [hi] at hj;cases hj
       exact absurd hq hd
      ·simp [hji]
    have hB:ZT (Vc D recs 0 s.b) r.up=Vc (fun j=>if j=i then true else D j) recs 0 s.b:=by
     funext x
     by_cases hd:x∈r.up.map (·.1)
     ·have e2:Vc (fun j=>if j=i then true else D j) recs 0 s.b x=Kq (recs.take (i+1)) s.b x:=by
       rw [←Ub (D:=fun j=>decide (j<i+1)) recs 0 (i+1) s.b (fun j hj=>by simpa using hj) (fun j hj=>by simp;omega)]
       refine WP recs 0 _ _ rfl fun j q hj hq=>tri' j q hj (fun _=>?_) fun _=>?_
       ·have e3:ZfK q.foot.wb r.foot.wb=true:=J4 (by rw [(qf j q hj).2];exact hq) (by rw [fw];exact hd)
        simp only [Foot.clash,e3,Bool.true_or,Bool.or_true]
       ·have e3:ZfK r.foot.wb q.foot.wb=true:=J4 (by rw [fw];exact hd) (by rw [(qf j q hj).2];exact hq)
        simp only [Foot.clash,e3,Bool.true_or,Bool.or_true]
      rw [e2,Zeh recs i r s.b hi]
      have:∃b,ZD r.up x=some b:=by
       generalize r.up=up at hd
       induction up with
       | nil=>simp at hd
       | cons p up ih=>
         obtain ⟨y,b⟩:=p
         simp only [ZD]
         split
         ·exact ⟨b,rfl⟩
         ·rename_i hne
          exact ih (by simp at hd ⊢;rcases hd with h|h;exact absurd h hne;exact h)
      obtain ⟨b,hb⟩:=this
      rw [Qb hb,Qb hb]
     ·have hn:ZD r.up x=none:=by
       generalize r.up=up at hd
       induction up with
       | nil=>rfl
       | cons p up ih=>
         obtain ⟨y,b⟩:=p
         simp only [ZD]
         rw [if_neg (fun e=>hd (by simp [e]))]
         exact ih (fun h=>hd (by simp at h ⊢;exact .inr h))
      rw [QQ hn]
      refine WP recs 0 _ _ rfl fun j q hj hq=>?_
      rw [Nat.zero_add]
      by_cases hji:j=i
      ·subst hji
       rw [hi] at hj;cases hj
       exact absurd hq hd
      ·simp [hji]
    have hg:V9 ops r.o.guard (XM D recs 0 s.t)=some r.want:=by
     rw [Ze8 (T:=UP (recs.take i) s.t) (fun t ht=>agT t (fg t ht))]
     exact hok.grd
    have hwant:=UR h1 hg
    cases hw:r.want with
    | false=>
      rw [hw] at hwant
      rw [if_neg (by rw [hwant];simp)]
      obtain ⟨n1,n2,n3⟩:=hok.no hw
      refine hK _ _ ⟨L,?_,fun x hx hn=>h2 x hx fun k q hk hdk=>hn k q hk (by dsimp only;split <;>first|rfl|exact hdk),?_,hlk⟩
      ·rw [←hT,←hB,n1,n2,Q4]
       exact Zkh h1 (J8 hok.dst) _
      ·rw [←hB,n2,Q4]
       exact h3
    | true=>
      rw [hw] at hwant
      rw [if_pos hwant]
      obtain ⟨y1,y2⟩:=hok.yes hw
      have hrun:(aop P O r.o r.f).run (XM D recs 0 s.t) (Vc D recs 0 s.b)=some (r.v,r.up,r.f'):=by
       rw [Tr.run_congr (T:=UP (recs.take i) s.t) (B:=Kq (recs.take i) s.b) _ (fun t ht=>agT t (by rw [y2];simp [ht])) (fun x hx=>agB x (by rw [y2];exact hx))]
       exact y1
      have hfree:∀x,r.f≤x→x<r.f'→L x=none:=fun x hx1 hx2=>h2 x (by omega) fun k q hk hdk hc=>by
       rcases Nat.lt_trichotomy k i with h|h|h
       ·have:=r7 k i q r hk hi h;omega
       ·subst h;rw [hDi] at hdk;cases hdk
       ·have:=r7 i k r q hi hk h;omega
      refine ZeE hO h1 hrun hfree fun v' w' L' hA hv hnew=>hK _ _ ⟨L',?_,fun x hx hn=>?_,?_,fun i u hi hu=>hA.lk _ _ (hlk i u hi hu)⟩
      ·rw [←hT,←hB]
       exact h1.aft hA hv (J8 hok.dst)
      ·cases hl:L' x with
       | none=>rfl
       | some u=>
         have h9:L x=none:=h2 x hx fun k q hk hdk=>hn k q hk (by dsimp only;split <;>first|rfl|exact hdk)
         have:=hnew x h9 (by rw [hl];simp)
         exact absurd this (hn i r hi (by simp))
      ·rw [←hB]
       exact h3.trans hA.run
   -- the last
   have done:∀(D:Nat→Bool) a w,(∀i,i<recs.length→D i=true)→Inv D a w→Q .normal a w:=fun D a w hD ⟨L,h1,h2,h3,hlk⟩=>by
    have eT:XM D recs 0 s.t=s'.t:=by
     rw [r3]
     funext t
     have:=Uw (D:=fun j=>decide (j<recs.length)) recs 0 recs.length s.t (fun j hj=>by simpa using hj) (fun j hj=>by simp;omega)
     rw [List.take_length] at this
     rw [←this]
     exact Vb recs 0 _ _ rfl fun j q hj _=>by have hlt:=(List.getElem?_eq_some_iff.1 hj).1;rw [Nat.zero_add,hD j hlt];simp [hlt]
    have eB:Vc D recs 0 s.b=s'.b:=by
     rw [r4]
     funext t
     have:=Ub (D:=fun j=>decide (j<recs.length)) recs 0 recs.length s.b (fun j hj=>by simpa using hj) (fun j hj=>by simp;omega)
     rw [List.take_length] at this
     rw [←this]
     exact WP recs 0 _ _ rfl fun j q hj _=>by have hlt:=(List.getElem?_eq_some_iff.1 hj).1;rw [Nat.zero_add,hD j hlt];simp [hlt]
    rw [eT,eB] at h1
    rw [eB] at h3
    refine hQ a w ⟨L,h1,fun x hx=>h2 x (by omega) fun i r hi _ hc=>?_,h3,hlk⟩
    have:=(r6 i r hi).2.2
    omega
   -- any order
   have main:∀(fuel:Nat) (listed:Array Bool) (a:Act) (w:World),listed.size=ops.size→(∀(j:Nat) (o:Oper),ops[j]?=some o→listed.getD j false=true→∀e∈o.after,Region.binds .any e=true→listed.getD e.on false=true)→
     (∃n,n≤fuel∧(List.range ops.size).countP (fun i=>!listed.getD i false)=n)→Inv (fun i=>listed.getD i false) a w→wpAny P .any ops Q fuel listed a w:=by
    have allD:∀(listed:Array Bool),listed.size=ops.size→Region.ready .any ops listed=[]→∀i,i<recs.length→listed.getD i false=true:=fun listed hl hr=>by
     intro i
     induction i using Nat.strongRecOn with
     | _ i ih=>
       intro hi
       cases hx:listed.getD i false with
       | true=>rfl
       | false=>
         have hio:i<ops.size:=by omega
         have hlt:i<listed.size:=by omega
         have hmem:i∈Region.ready .any ops listed:=by
          refine mem_ready.2 ⟨?_,ops[i],Array.getElem?_eq_getElem hio,fun e he hb=>?_⟩
          ·rw [Array.getD_eq_getD_getElem?,Array.getElem?_eq_getElem hlt] at hx ⊢
           exact hx
          ·have h9:ops.toList[i]?=some ops[i]:=by simp [hio]
           have:=Zdo hdeps i _ h9 e he hb
           exact ih e.on (by omega) (by omega)
         rw [hr] at hmem
         cases hmem
    intro fuel
    induction fuel with
    | zero=>
      intro listed a w hl hcl ⟨n,hn,hcount⟩ hI
      have hn0:n=0:=by omega
      subst hn0
      have Wo:∀i,i<ops.size→listed.getD i false=true:=fun i hi=>by
       have:=List.countP_eq_zero.1 hcount i (by simpa using hi)
       simpa using this
      refine ⟨?_,done _ a w (fun i hi=>Wo i (by omega)) hI⟩
      apply List.eq_nil_iff_forall_not_mem.2
      intro i hi
      obtain ⟨h1,o,h2,_⟩:=mem_ready.1 hi
      have hlt:=(Array.getElem?_eq_some_iff.1 h2).1
      have h3:=Wo i hlt
      have h5:i<listed.size:=by omega
      rw [Array.getD_eq_getD_getElem?,Array.getElem?_eq_getElem h5] at h1 h3
      simp at h1 h3
      rw [h1] at h3;cases h3
    | succ fuel ih=>
      intro listed a w hl hcl ⟨n,hn,hcount⟩ hI
      refine ⟨fun hr=>done _ a w (allD listed hl hr) hI,fun i hi=>?_⟩
      obtain ⟨h1,o,h2,Wo⟩:=mem_ready.1 hi
      have hlt:=(Array.getElem?_eq_some_iff.1 h2).1
      have h5:i<listed.size:=by omega
      have hDi:listed.getD i false=false:=by
       rw [Array.getD_eq_getD_getElem?,Array.getElem?_eq_getElem h5] at h1 ⊢
       exact h1
      have hri:recs[i]?=some (recs[i]'(by omega)):=List.getElem?_eq_getElem _
      have hoo:=hro i _ hri
      rw [h2] at hoo
      have hoo':o=(recs[i]'(by omega)).o:=by cases hoo;rfl
      have hset:∀j,(listed.setIfInBounds i true).getD j false=if j=i then true else listed.getD j false:=fun j=>by
       by_cases hji:j=i
       ·subst hji
        rw [if_pos rfl,Array.getD_eq_getD_getElem?,Array.getElem?_setIfInBounds_self_of_lt h5];rfl
       ·rw [if_neg hji,Array.getD_eq_getD_getElem?,Array.getElem?_setIfInBounds_ne (Ne.symm hji),←Array.getD_eq_getD_getElem?]
      have hstep:=step (fun i=>listed.getD i false) i _ hri hDi hcl (by rw [←hoo'];exact Wo) a w hI (wpAny P .any ops Q fuel (listed.setIfInBounds i true)) fun a' w' hI'=>ih _ a' w' (by simpa using hl) (fun j o' hj hdj e he hb=>by
        rw [hset] at hdj ⊢
        by_cases hji:j=i
        ·subst hji
         rw [h2] at hj;cases hj
         have:=Wo e he hb
         split <;>first|rfl|exact this
        ·rw [if_neg hji] at hdj
         have:=hcl j o' hj hdj e he hb
         split <;>first|rfl|exact this) ⟨(List.range ops.size).countP (fun i_1=>!(listed.setIfInBounds i true).getD i_1 false),by
          have hlt2:(List.range ops.size).countP (fun i_1=>!(listed.setIfInBounds i true).getD i_1 false)<(List.range ops.size).countP (fun i=>!listed.getD i false):=by
           refine Ze1 (x:=i) (by simpa using hlt) (by simp [hDi]) (by rw [hset];simp) fun y _ hy=>?_
           rw [hset] at hy
           split at hy
           ·simp at hy
           ·exact hy
          omega,rfl⟩ (by
           have e:(fun i_1=>(listed.setIfInBounds i true).getD i_1 false)=fun j=>if j=i then true else listed.getD j false:=funext hset
           rw [e];exact hI')
      unfold wpOp
      rw [h2]
      dsimp only
      rw [hoo']
      split
      ·rename_i hw
       rw [if_pos hw] at hstep
       exact .inl hstep
      ·rename_i hw
       rw [if_neg hw] at hstep
       exact hstep
   refine wp_region_any hm (main ops.size _ a _ (by simp) (fun j o hj hd=>?_) ⟨_,Nat.le_trans List.countP_le_length (by simp),rfl⟩ ?_)
   ·rw [Array.getD_eq_getD_getElem?,Array.getElem?_replicate] at hd
    split at hd <;>simp at hd
   ·obtain ⟨L,h1,h2,h3,hlk⟩:=hf
    have e:(fun i=>(Array.replicate ops.size false).getD i false)=fun _=>false:=by
     funext i
     rw [Array.getD_eq_getD_getElem?,Array.getElem?_replicate]
     split <;>rfl
    rw [e]
    have eT:XM (fun _=>false) recs 0 s.t=s.t:=by
     have:=Uw (D:=fun _=>false) recs 0 0 s.t (fun j hj=>by omega) (fun _ _=>rfl)
     rw [this];simp [UP]
    have eB:Vc (fun _=>false) recs 0 s.b=s.b:=by
     have:=Ub (D:=fun _=>false) recs 0 0 s.b (fun j hj=>by omega) (fun _ _=>rfl)
     rw [this];simp [Kq]
    refine ⟨L,?_,fun x hx _=>h2 x hx,?_,hlk⟩
    ·rw [eT,eB]
     have hA:Aft E s.b L s.b L w w.drew:=by
      have:=(Step.still (E:=E) (B:=s.b) (L:=L) (Mod.drew (fun _ _=>False) w)).aft h1.bs
      rwa [Q4] at this
     exact ⟨fun t=>hA.rep (h1.slots t),hA.bs,h1.size,h1.defers⟩
    ·rw [eB]
     exact h3.trans ⟨Mod.drew _ _,fun id blk v g k1 k2 k3 _=>⟨id,blk,v,k1,k2,k3,fun _ h=>h⟩⟩
  ·cases hs
 ·cases hs
end
def EM:Ex→Exit→Prop
 | .nrm,.normal=>True
 | .exit i,.exit j=>i=j
 | .ret,.ret=>True
 | _,_=>False
section
variable{P:Program}{E:Nat→Nat→Prop}{w w' w1:World}{m N:Nat}{T:Nat→AV}{B B' B1:Nat→Option AB}{L L' L1:Nat→Option Value}{a:Act}{up:List (Nat × Option AB)}{ok:Nat→Nat→Prop}
theorem Ziv(h:SRel E N T B L a w)(x:Operand):Rep w (okS E B L) L (ZsA x T) (a.eval x):=by
 cases x with
 | tmp t=>exact h.slots t
 | const v=>exact .t (ZjW _ v)
 | global g=>exact .t (.any _)
 | func f=>exact .t (.any _)
theorem Zb9{O:FuncId→Option Orc}{lives:List Nat}{c:Code}{step:St→Option (Ex × St)}{B0:Nat→Option AB}{L0:Nat→Option Value}{w0:World}(hstep:∀(s:St) (ex:Ex) (s':St),step s=some (ex,s')→∀a w,VO E m N B0 L0 w0 s a w→c.wp P (fun e a' w'=>EM ex e∧VO E m N B0 L0 w0 s' a' w') a w):
  ∀(n:Nat) (s:St) (ex:Ex) (s':St),Km m step lives n s=some (ex,s')→ex≠.nrm∧∀a w,VO E m N B0 L0 w0 s a w→Code.rounds P c (fun e a' w'=>EM ex e∧VO E m N B0 L0 w0 s' a' w') n a w
 | 0,s,ex,s',h=>by simp [Km] at h
 | n+1,s,ex,s',h=>by
   simp only [Km] at h
   split at h
   ·rename_i s1 hg
    split at h
    ·rename_i s2 h2
     obtain ⟨h3,h4⟩:=Zb9 (O:=O) hstep n s2 ex s' h
     refine ⟨h3,fun a w hf=>?_⟩
     rw [rounds_succ]
     refine wp_mono (hstep s1 _ s2 h2 a w (Zc4 hg hf)) fun e a' w' ⟨he,hf'⟩=>?_
     cases e with
     | normal=>exact h4 a' w' hf'
     | _=>exact he.elim
    ·rename_i hne
     have h5:ex≠.nrm:=fun e=>by subst e;exact hne s' h
     refine ⟨h5,fun a w hf=>?_⟩
     rw [rounds_succ]
     refine wp_mono (hstep s1 ex s' h a w (Zc4 hg hf)) fun e a' w' ⟨he,hf'⟩=>?_
     cases e with
     | normal=>cases ex <;>first|exact absurd rfl h5|exact he.elim
     | _=>exact ⟨he,hf'⟩
   ·cases h
theorem Zdh{O:FuncId→Option Orc}(hO:OrcOk P O)(hm:P.follows .mixedOrders=true)(lives:Nat→List Nat)(fuel:Nat){B0:Nat→Option AB}{L0:Nat→Option Value}{w0:World}:
  ∀(c:Code) (s:St) (ex:Ex) (s':St),exec P O m N lives fuel c s=some (ex,s')→∀a w,VO E m N B0 L0 w0 s a w→c.wp P (fun e a' w'=>EM ex e∧VO E m N B0 L0 w0 s' a' w') a w:=by
 intro c
 induction c with
 | skip=>
   intro s ex s' h a w hf
   simp only [exec,Option.some.injEq,Prod.mk.injEq] at h
   obtain ⟨rfl,rfl⟩:=h
   exact wp_skip ⟨trivial,hf⟩
 | label l=>
   intro s ex s' h a w hf
   simp only [exec,Option.some.injEq,Prod.mk.injEq] at h
   obtain ⟨rfl,rfl⟩:=h
   exact wp_label ⟨trivial,hf⟩
 | exit id=>
   intro s ex s' h a w hf
   simp only [exec,Option.some.injEq,Prod.mk.injEq] at h
   obtain ⟨rfl,rfl⟩:=h
   exact wp_exit ⟨rfl,hf⟩
 | ret=>
   intro s ex s' h a w hf
   simp only [exec,Option.some.injEq,Prod.mk.injEq] at h
   obtain ⟨rfl,rfl⟩:=h
   exact wp_ret ⟨trivial,hf⟩
 | region id ops d=>
   intro s ex s' h a w hf
   cases d with
   | true=>
     simp only [exec] at h
     split at h
     ·rename_i s1 h1
      simp only [Option.some.injEq,Prod.mk.injEq] at h
      obtain ⟨rfl,rfl⟩:=h
      exact ZiK hO hm h1 hf fun a' w' hf'=>⟨trivial,hf'⟩
     ·cases h
   | false=>
     simp only [exec] at h
     split at h
     ·rename_i s1 h1
      simp only [Option.some.injEq,Prod.mk.injEq] at h
      obtain ⟨rfl,rfl⟩:=h
      exact wp_region_list (Zc1 hO _ s s1 h1 (fun a' w' hf'=>⟨trivial,hf'⟩) a w hf)
     ·cases h
 | seq x y ihx ihy=>
   intro s ex s' h a w hf
   simp only [exec] at h
   split at h
   ·rename_i s1 h1
    refine wp_seq (wp_mono (ihx s _ s1 h1 a w hf) fun e a' w' ⟨he,hf'⟩=>?_)
    cases e with
    | normal=>exact ihy s1 ex s' h a' w' hf'
    | _=>exact he.elim
   ·rename_i hne
    refine wp_seq (wp_mono (ihx s ex s' h a w hf) fun e a' w' ⟨he,hf'⟩=>?_)
    cases e with
    | normal=>
      cases ex with
      | nrm=>exact absurd h (hne s')
      | _=>exact he.elim
    | _=>exact ⟨he,hf'⟩
 | cond c x y ihx ihy=>
   intro s ex s' h a w hf
   obtain ⟨ok,L,hc⟩:∃ok L,Rep w ok L (ZsA c s.t) (a.eval c):=by obtain ⟨L,h1,_⟩:=hf;exact ⟨_,_,Ziv h1 c⟩
   simp only [exec] at h
   split at h
   ·rename_i e
    rw [e] at hc
    exact wp_cond_true (ZY hc) (ihx s ex s' h a w hf)
   ·rename_i e
    rw [e] at hc
    exact wp_cond_false (ZY hc) (ihy s ex s' h a w hf)
   ·cases h
 | block id c ih=>
   intro s ex s' h a w hf
   simp only [exec] at h
   split at h
   ·rename_i i s1 h1
    refine wp_block (wp_mono (ih s _ s1 h1 a w hf) fun e a' w' ⟨he,hf'⟩=>?_)
    cases e with
    | exit j=>
      cases he
      simp only [Exit.inBlock]
      split at h
      ·rename_i e
       cases h
       rw [if_pos e]
       exact ⟨trivial,hf'⟩
      ·rename_i e
       cases h
       rw [if_neg e]
       exact ⟨rfl,hf'⟩
    | _=>exact he.elim
   ·rename_i hne
    refine wp_block (wp_mono (ih s ex s' h a w hf) fun e a' w' ⟨he,hf'⟩=>?_)
    cases e with
    | exit j=>
      cases ex with
      | exit i=>exact absurd h (hne i s')
      | _=>exact he.elim
    | _=>exact ⟨he,hf'⟩
 | loop c ih=>
   intro s ex s' h a w hf
   simp only [exec] at h
   split at h
   ·rename_i ex1 s1 h1
    split at h
    ·rename_i s2 h2
     simp only [Option.some.injEq,Prod.mk.injEq] at h
     obtain ⟨rfl,rfl⟩:=h
     exact wp_mono (wp_loop_rounds fuel ((Zb9 (O:=O) ih fuel s _ s1 h1).2 a w hf)) fun e a' w' ⟨he,hf'⟩=>⟨he,Zc4 h2 hf'⟩
    ·cases h
   ·cases h
 | rangeFunc f ps x y ihx ihy=>intro s ex s' h;simp [exec] at h
 | scope c ih=>
   intro s ex s' h a w hf
   simp only [exec] at h
   refine wp_scope_straight (wp_mono (ih s ex s' h a w hf) fun e a' w' ⟨he,hf'⟩=>?_)
   cases e with
   | goto l=>cases ex <;>exact he.elim
   | _=>exact ⟨he,hf'⟩
 | goto l=>intro s ex s' h;simp [exec] at h
 | refuse y=>intro s ex s' h;simp [exec] at h
def ZeH(tmps:Array Value):ResultVar→Sem Value
 | .tmp t=>pure (tmps.getD t undef)
 | .cell b t=>do loadVar t (←asAddr (tmps.getD b undef))
theorem JQ(fn:Func)(tmps:Array Value):results fn tmps=(do let vs ←fn.results.mapM (ZeH tmps);pure (if h:vs.size=1 then vs[0] else .tuple vs)):=by
 have e:(fun (r:ResultVar)=>(match r with|.tmp t=>pure (tmps.getD t undef)|.cell b t=>(do loadVar t (←asAddr (tmps.getD b undef))):Sem Value))=ZeH tmps:=by
  funext r;cases r <;>rfl
 rw [←e]
 rfl
theorem ZkD{s:St}(h:SRel E N s.t s.b L a w){r:ResultVar}{d:AV}(hd:rvA P s r=some d):
  ∃v,(ZeH a.tmps r).run P w=.ok v w∧Rep w (okS E s.b L) L d v:=by
 cases r with
 | tmp t=>
   simp only [rvA,Option.some.injEq] at hd
   subst hd
   exact ⟨_,by simp [ZeH],h.slots t⟩
 | cell b t=>
   simp only [rvA] at hd
   split at hd
   ·rename_i g n ht
    split at hd
    ·rename_i v up nx hr
     cases hd
     obtain ⟨_,_,u,h1,h2⟩:=Zg7 h.bs ht (h.slots b) hr
     refine ⟨u,?_,h2⟩
     have h3:∃A,a.tmps.getD b undef=.pointer (some A):=by
      have h4:=h.slots b
      generalize a.tmps.getD b undef=x at h1 h4
      unfold ldT at hr
      split at hr
      ·rename_i e
       rw [e] at h4
       obtain ⟨b',o',rfl,_⟩:=(Ky h4).mem_inv
       exact ⟨_,rfl⟩
      ·rename_i e
       rw [e] at h4
       cases h4 with
       | t h4=>cases h4
       | ptr _=>exact ⟨_,rfl⟩
      ·rename_i e
       rw [e] at h4
       cases h4 with
       | t h4=>cases h4
       | rptr _=>exact ⟨_,rfl⟩
      ·simp [Tr.run] at hr
     obtain ⟨A,hA⟩:=h3
     rw [hA] at h1
     simp only [ZeH,hA,asAddr,Sem.run_bind,Sem.run_pure,Result.andThen_ok]
     simpa [Instr.loadAt,Instr.sureAddr] using h1
    ·cases hd
   ·cases hd
theorem Jv{s:St}(h:SRel E N s.t s.b L a w):∀{rs:List ResultVar} {ds:List AV},rvL P s rs=some ds→
  ∃vs,(rs.mapM (ZeH a.tmps)).run P w=.ok vs w∧RV (Rep w (okS E s.b L) L) ds vs
 | [],ds,hd=>by
   simp only [rvL,Option.some.injEq] at hd
   subst hd
   exact ⟨[],by simp,rfl,fun i d hi=>by simp at hi⟩
 | r::rs,ds,hd=>by
   simp only [rvL] at hd
   split at hd
   ·rename_i d ds' h1 h2
    cases hd
    obtain ⟨v,h3,h4⟩:=ZkD h h1
    obtain ⟨vs,h5,h6,h7⟩:=Jv h h2
    refine ⟨v::vs,by rw [List.mapM_cons];simp only [Sem.run_bind,h3,Result.andThen_ok,h5,Sem.run_pure],by simp [h6],fun i d hi=>?_⟩
    cases i with
    | zero=>simp at hi;subst hi;exact ⟨v,rfl,h4⟩
    | succ i=>exact h7 i d (by simpa using hi)
   ·cases hd
theorem Zjf(h:BsRel E B L w){d r:AV}{up:List (Nat × Option AB)}{nx:Nat}(hr:(res 3 d fun d _=>.done d [] 0).run T B=some (r,up,nx)){v:Value}(hv:Rep w (okS E B L) L d v):RepT w E r v:=by
 obtain ⟨d',fs,h1,h2⟩:=Qv h 3 d _ _ hr
 simp only [Tr.run,Option.some.injEq,Prod.mk.injEq] at h1
 obtain ⟨rfl,_,_⟩:=h1
 exact (h2 v hv _ (FrzOk.of h fs)).mono (fun _ _ _ _ h=>h) fun b o _ h3 _=>h3.1
theorem Zd4{s:St}(h:SRel E N s.t s.b L a w){fn:Func}{r:AV}(hr:Jc P s fn.results.toList=some r):∃v,(results fn a.tmps).run P w=.ok v w∧RepT w E r v:=by
 unfold Jc at hr
 split at hr
 ·rename_i d hd
  obtain ⟨vs,h1,h2,h3⟩:=Jv h hd
  split at hr
  ·rename_i v up nx hres
   cases hr
   match vs,h2 with
   | [u],_=>
     obtain ⟨u',h4,h5⟩:=h3 0 d rfl
     simp at h4
     subst h4
     refine ⟨u,?_,Zjf h.bs hres h5⟩
     rw [JQ,Array.mapM_eq_mapM_toList]
     simp only [Sem.run_bind,Sem.run_map,h1,Result.andThen_ok,Sem.run_pure]
     rfl
  ·cases hr
 ·rename_i ds hne hd
  obtain ⟨vs,h1,h2⟩:=Jv h hd
  split at hr
  ·rename_i v up nx hres
   cases hr
   obtain ⟨h3,h4⟩:=RV.getD h2
   refine ⟨.tuple vs.toArray,?_,Zjf h.bs hres (.tup h3 h4)⟩
   rw [JQ,Array.mapM_eq_mapM_toList]
   have hl:¬vs.toArray.size=1:=fun e=>by
    have e1:ds.length=1:=by rw [←h3];exact e
    match ds,e1 with
    | [d],_=>exact hne d rfl
   simp only [Sem.run_bind,Sem.run_map,h1,Result.andThen_ok,Sem.run_pure,dif_neg hl]
  ·cases hr
 ·cases hr
theorem ZbS:∀(l:List AV) (i x:Nat),Zbi (VA l i) x=if i≤x then (l[x-i]?).getD .any else .any
 | [],i,x=>by simp [VA,Zbi]
 | d::l,i,x=>by
   simp only [VA,Zbi]
   split
   ·rename_i e;subst e;simp
   ·rename_i e
    rw [ZbS l (i+1) x]
    by_cases h:i+1≤x
    ·rw [if_pos h,if_pos (by omega),show x-i=(x-(i+1))+1 by omega,List.getElem?_cons_succ]
    ·rw [if_neg h,if_neg (by omega)]
theorem ZfF{O:FuncId→Option Orc}(hO:OrcOk P O)(hm:P.follows .mixedOrders=true){f:FuncId}{fn:Func}{c:Code}(hf:P.funcs[f]?=some fn)(hb:fn.body=some c){lives:Nat→List Nat}{fuel:Nat}{args:List AV}{r:AV}(h:Zjo P O lives fuel fn.ntmps fn.results.toList c args=some r):Con P f args r:=by
 intro w ok vs hgl hvs
 unfold Zjo at h
 split at h
 ·rename_i hN
  have hle:=Nat.le_of_ble_eq_true hN
  have hsz:vs.size=args.length:=by have:=hvs.1;simpa using this
  -- the cells that the run may speak of
  let E:Nat→Nat→Prop:=fun b o=>ok b o∨w.heap.size≤b∨∃z,w.cell? ⟨b,o,none⟩=some (.int .u32 z)
  have hfit:VO E 0 fn.ntmps (fun _=>none) (fun _=>none) w ⟨VA args 0,[],0⟩ {tmps:=vs++Array.replicate (fn.ntmps-vs.size) undef,defers:=[]} w:=by
   refine ⟨fun _=>none,⟨fun t=>?_,⟨fun id blk h=>(by simp [St.b,ZD] at h),fun id blk v g h=>(by simp [St.b,ZD] at h),fun g o hg=>.inr (.inl hg),fun b o z hz=>.inr (.inr ⟨z,hz⟩),fun id id' blk blk' v v' g h=>(by simp [St.b,ZD] at h),hgl.mono (fun _ _ _ _ h=>h) (fun b o _ h3 _=>⟨.inl h3,fun id blk v h=>by simp [St.b,ZD] at h⟩) fun _ _=>rfl⟩,by simp;omega,rfl⟩,fun _ _=>rfl,?_,fun i u hi=>by omega⟩
   ·have e:(⟨VA args 0,[],0⟩:St).t t=(args[t]?).getD .any:=by
     simp only [St.t]
     rw [ZbS]
     simp
    rw [e]
    cases ht:args[t]? with
    | none=>exact .t (.any _)
    | some d=>
      obtain ⟨u,h1,h2⟩:=hvs.2 t d ht
      have hlt:=(List.getElem?_eq_some_iff.1 h1).1
      have e2:(vs++Array.replicate (fn.ntmps-vs.size) undef).getD t undef=u:=by
       rw [Array.getD_eq_getD_getElem?,Array.getElem?_append_left (by simpa using hlt),←Array.getElem?_toList,h1];rfl
      rw [e2]
      exact .t (h2.mono (fun _ _ _ _ h=>h) fun b o _ h3 _=>⟨.inl h3,fun id blk v h=>by simp [St.b,ZD] at h⟩)
   ·have:(⟨VA args 0,[],0⟩:St).b=fun _=>none:=by funext x;rfl
    rw [this]
    exact Run.refl
  have key:∀(ex:Ex) (s:St),exec P O 0 fn.ntmps lives fuel c ⟨VA args 0,[],0⟩=some (ex,s)→(ex=.nrm∨ex=.ret)→Jc P s fn.results.toList=some r→Calls P f vs w (fun e w'=>∃v,e=.returned v∧RepT w' (okN ok w w') r v∧Below w.heap.size w w'):=fun ex s hex hx hres=>by
   refine calls_of_wp hf hb (wp_mono (Zdh hO hm lives fuel c _ ex s hex _ w hfit) fun e a' w' ⟨he,hf'⟩=>?_)
   obtain ⟨L,h1,_,hrun,_⟩:=hf'
   obtain ⟨v,h2,h3⟩:=Zd4 h1 hres
   have hbel:Below w.heap.size w w':=by
    have hm:=hrun.mod
    refine ⟨hm.os,hm.tape,hm.output,hm.size,fun k hk=>hm.block k hk fun o ⟨id,blk,v,h,_⟩=>by cases h⟩
   have fin:a'.defers=[]∧∃v,(results fn a'.tmps).run P w'=.ok v w'∧(∃v',Ending.returned v=.returned v'∧RepT w' (okN ok w w') r v'∧Below w.heap.size w w'):=by
    refine ⟨h1.defers,v,h2,v,rfl,h3.mono (fun _ _ _ _ h=>h) fun b o u h4 h5=>?_,hbel⟩
    rcases h4 with h4|h4|⟨z,h4⟩
    ·exact .inl h4
    ·exact .inr (.inl h4)
    ·refine .inr (.inr ⟨z,?_⟩)
     rw [hbel.cell (p:=⟨b,o,none⟩) (Jx h4)]
     exact h4
   rcases hx with rfl|rfl
   ·cases e with
    | normal=>exact fin
    | _=>exact he.elim
   ·cases e with
    | ret=>exact fin
    | _=>exact he.elim
  split at h
  ·rename_i s hex;exact key _ s hex (.inl rfl) h
  ·rename_i s hex;exact key _ s hex (.inr rfl) h
  ·cases h
 ·cases h
theorem Zec:∀(l:List AB) (i x:Nat),(ZD (KP l i) x).getD none=if i≤x then l[x-i]? else none
 | [],i,x=>by simp [KP,ZD]
 | d::l,i,x=>by
   simp only [KP,ZD]
   split
   ·rename_i e;subst e;simp
   ·rename_i e
    rw [Zec l (i+1) x]
    by_cases h:i+1≤x
    ·rw [if_pos h,if_pos (by omega),show x-i=(x-(i+1))+1 by omega,List.getElem?_cons_succ]
    ·rw [if_neg h,if_neg (by omega)]
theorem WC{b:Nat→Option AB}:∀{l:List Nat} {o:List (Nat × AB)},ZdF b l=some o→∀i blk,YE o i=some blk→b i=some blk∧i∈l
 | [],o,h,i,blk,hl=>by simp [ZdF] at h;subst h;simp [YE] at hl
 | x::l,o,h,i,blk,hl=>by
   simp only [ZdF] at h
   split at h
   ·rename_i r hr
    split at h
    ·rename_i y hy
     cases h
     simp only [YE] at hl
     split at hl
     ·rename_i e;subst e;cases hl;exact ⟨hy,List.mem_cons_self ..⟩
     ·exact ⟨(WC hr i blk hl).1,List.mem_cons_of_mem _ (WC hr i blk hl).2⟩
    ·cases h
     exact ⟨(WC hr i blk hl).1,List.mem_cons_of_mem _ (WC hr i blk hl).2⟩
   ·cases h
theorem BsRel.sub(h:BsRel E B L w)(hs:∀id blk,B' id=some blk→B id=some blk):(∀b o,okS E B L b o→okS E B' L b o)∧BsRel E B' L w:=by
 have hok:∀b o,okS E B L b o→okS E B' L b o:=fun b o hk=>⟨hk.1,fun id blk v h1 h2 h3=>hk.2 id blk v (hs id blk h1) h2 h3⟩
 exact ⟨hok,fun id blk h1=>(h.blk id blk (hs id blk h1)).keep (fun _ _ _ _=>rfl) (fun _ _ _ _ h=>h) (fun b o _ hk _=>hok b o hk) (fun _ _ h=>h),fun id blk v g h1=>h.ext id blk v g (hs id blk h1),h.fresh,h.limb,
  fun id id' blk blk' v v' g h1 h2=>h.inj id id' blk blk' v v' g (hs id blk h1) (hs id' blk' h2),h.glob.mono (fun _ _ _ _ h=>h) (fun b o _ hk _=>hok b o hk) fun _ _=>rfl⟩
theorem Zvv{s:St}(h:SRel E N s.t s.b L a w){fn:Func}{ds:List AV}(hd:rvL P s fn.results.toList=some ds):∃v,(results fn a.tmps).run P w=.ok v w∧Rep w (okS E s.b L) L (Zgr ds) v:=by
 obtain ⟨vs,h1,h2,h3⟩:=Jv h hd
 rw [JQ,Array.mapM_eq_mapM_toList]
 match ds,vs,h2,h3 with
 | [d],[u],_,h3=>
   obtain ⟨u',h4,h5⟩:=h3 0 d rfl
   simp at h4
   subst h4
   refine ⟨u,?_,h5⟩
   simp only [Sem.run_bind,Sem.run_map,h1,Result.andThen_ok,Sem.run_pure]
   rfl
 | [],[],_,h3=>
   refine ⟨.tuple #[],?_,.tup rfl fun i d hi=>by simp at hi⟩
   simp only [Sem.run_bind,Sem.run_map,h1,Result.andThen_ok,Sem.run_pure]
   rfl
 | d::d'::ds,u::u'::vs,h2,h3=>
   obtain ⟨h4,h5⟩:=RV.getD (R:=Rep w (okS E s.b L) L) (cs:=d::d'::ds) (vs:=u::u'::vs) ⟨h2,h3⟩
   refine ⟨.tuple (u::u'::vs).toArray,?_,.tup h4 h5⟩
   have hl:¬(u::u'::vs).toArray.size=1:=by simp
   simp only [Sem.run_bind,Sem.run_map,h1,Result.andThen_ok,Sem.run_pure,dif_neg hl]
theorem Zd1{s:St}{m:Nat}(h:SRel E N s.t s.b L a w){fn:Func}{keep:Bool}{r:AV}{o:List (Nat × AB)}(hr:Jw P s m keep fn.results.toList=some (r,o)):∃v,(results fn a.tmps).run P w=.ok v w∧BsRel E (YE o) L w∧Rep w (okS E (YE o) L) L r v∧∀id blk,YE o id=some blk→s.b id=some blk:=by
 unfold Jw at hr
 split at hr
 ·rename_i ds hds
  obtain ⟨v,hv,hrep⟩:=Zvv h hds
  split at hr
  ·split at hr
   ·rename_i o' ho
    cases hr
    have hsub:∀i blk,YE o i=some blk→s.b i=some blk:=fun i blk hl=>(WC ho i blk hl).1
    obtain ⟨hok,hbs⟩:=h.bs.sub hsub
    exact ⟨v,hv,hbs,hrep.mono (fun _ _ _ _ h=>h) (fun b o _ hk _=>hok b o hk) (fun _ _ h=>h),hsub⟩
   ·cases hr
  ·split at hr
   ·rename_i r' up nx hres
    split at hr
    ·rename_i hup
     split at hr
     ·rename_i o' ho
      cases hr
      obtain ⟨d',fs,h1,h2⟩:=Qv h.bs 3 _ _ _ hres
      simp only [Tr.run,Option.some.injEq,Prod.mk.injEq] at h1
      obtain ⟨rfl,rfl,_⟩:=h1
      have hT:=h2 v hrep _ (FrzOk.of h.bs fs)
      have hsub:∀i blk,YE o i=some blk→s.b i=some blk:=fun i blk hl=>(WC ho i blk hl).1
      obtain ⟨_,hbs⟩:=h.bs.sub hsub
      refine ⟨v,hv,hbs,.t (hT.mono (fun _ _ _ _ h=>h) fun b o' _ hk _=>⟨hk.1,fun id blk u h3 h4 h5=>?_⟩),hsub⟩
      have h6:id ∉ fs:=fun hm=>by
       have h7:=List.all_eq_true.1 hup (id,none) (List.mem_map.2 ⟨id,hm,rfl⟩)
       have h8:=(WC ho id blk h3).2
       have h9:(Zm1 s.b (List.range m)).contains id=true:=List.contains_iff_mem.2 h8
       dsimp only at h7
       rw [h9] at h7
       cases h7
      exact hk.2 id blk u (by rw [QQ (by rw [UC,if_neg h6])];exact hsub id blk h3) h4 h5
     ·cases hr
    ·cases hr
   ·cases hr
 ·cases hr
theorem Zub{O:FuncId→Option Orc}(hO:OrcOk P O)(hm:P.follows .mixedOrders=true){f:FuncId}{fn:Func}{c:Code}(hf:P.funcs[f]?=some fn)(hb:fn.body=some c){lives:Nat→List Nat}{fuel:Nat}{keep:Bool}{args:List AV}{bin:List AB}{r:AV}{outs:List (Nat × AB)}(h:Zui P O lives fuel fn.ntmps fn.results.toList c keep args bin=some (r,outs)):ZnV P f bin args r outs:=by
 intro w E L vs hbs hn hvs
 unfold Zui at h
 split at h
 ·rename_i hN
  have hle:=Nat.le_of_ble_eq_true hN
  have hsz:vs.size=args.length:=by have:=hvs.1;simpa using this
  have eb:(⟨VA args 0,KP bin 0,bin.length⟩:St).b=fun i=>bin[i]?:=by
   funext x
   show (ZD (KP bin 0) x).getD none=_
   rw [Zec]
   simp
  have hfit:VO E bin.length fn.ntmps (fun i=>bin[i]?) L w ⟨VA args 0,KP bin 0,bin.length⟩ {tmps:=vs++Array.replicate (fn.ntmps-vs.size) undef,defers:=[]} w:=by
   refine ⟨L,⟨fun t=>?_,by rw [eb];exact hbs,by simp;omega,rfl⟩,hn,by rw [eb];exact Run.refl,fun i u _ hu=>hu⟩
   have e:(⟨VA args 0,KP bin 0,bin.length⟩:St).t t=(args[t]?).getD .any:=by
    simp only [St.t]
    rw [ZbS]
    simp
   rw [e,eb]
   cases ht:args[t]? with
   | none=>exact .t (.any _)
   | some d=>
     obtain ⟨u,h1,h2⟩:=hvs.2 t d ht
     have hlt:=(List.getElem?_eq_some_iff.1 h1).1
     have e2:(vs++Array.replicate (fn.ntmps-vs.size) undef).getD t undef=u:=by
      rw [Array.getD_eq_getD_getElem?,Array.getElem?_append_left (by simpa using hlt),←Array.getElem?_toList,h1];rfl
     rw [e2]
     exact h2
  have key:∀(ex:Ex) (s:St),exec P O bin.length fn.ntmps lives fuel c ⟨VA args 0,KP bin 0,bin.length⟩=some (ex,s)→(ex=.nrm∨ex=.ret)→Jw P s bin.length keep fn.results.toList=some (r,outs)→
    Calls P f vs w (fun e w'=>∃v L',e=.returned v∧(∀i u,i<bin.length→L i=some u→L' i=some u)∧BsRel E (YE outs) L' w'∧Rep w' (okS E (YE outs) L') L' r v∧Run (fun i=>bin[i]?) L (YE outs) L' w w'):=fun ex s hex hx hres=>by
   refine calls_of_wp hf hb (wp_mono (Zdh hO hm lives fuel c _ ex s hex _ w hfit) fun e a' w' ⟨he,hf'⟩=>?_)
   obtain ⟨L',h1,_,hrun,hlk⟩:=hf'
   obtain ⟨v,h2,h3,h4,h5⟩:=Zd1 h1 hres
   have fin:a'.defers=[]∧∃v,(results fn a'.tmps).run P w'=.ok v w'∧(∃v' L',Ending.returned v=.returned v'∧(∀i u,i<bin.length→L i=some u→L' i=some u)∧BsRel E (YE outs) L' w'∧Rep w' (okS E (YE outs) L') L' r v'∧Run (fun i=>bin[i]?) L (YE outs) L' w w'):=
    ⟨h1.defers,v,h2,v,L',rfl,hlk,h3,h4,⟨hrun.mod,fun id blk u g k1 k2 k3 k4=>hrun.own id blk u g (h5 id blk k1) k2 k3 k4⟩⟩
   rcases hx with rfl|rfl
   ·cases e with
    | normal=>exact fin
    | _=>exact he.elim
   ·cases e with
    | ret=>exact fin
    | _=>exact he.elim
  split at h
  ·rename_i s hex;exact key _ s hex (.inl rfl) h
  ·rename_i s hex;exact key _ s hex (.inr rfl) h
  ·cases h
 ·cases h
end
@[simp] theorem Zs0(b:Bool):AV.cellsOf (.lit (.bool b))=some [.lit (.bool b)]:=rfl
@[simp] theorem Zva(s:ByteArray):AV.cellsOf (.lit (.string s))=some [.lit (.string s)]:=rfl
@[simp] theorem ZuH(a:Option Addr)(n c:Nat):AV.cellsOf (.lit (.slice a n c))=some [.lit (.slice a n c)]:=rfl
@[simp] theorem ZuX(a:Option Addr):AV.cellsOf (.lit (.pointer a))=some [.lit (.pointer a)]:=rfl
@[simp] theorem ZuY(k:IntKind)(z:Int):AV.cellsOf (.lit (.int k z))=some [.lit (.int k z)]:=rfl
@[simp] theorem Zvx(k:Nat)(es:List (List AV)):AV.cellsOf (.sl k es)=some [(.sl k es)]:=rfl
@[simp] theorem ZuT(cs:List AV):AV.cellsOf (.mem cs)=some [(.mem cs)]:=rfl
@[simp] theorem ZuQ(f:FuncId)(cs:List AV):AV.cellsOf (.clo f cs)=some [(.clo f cs)]:=rfl
@[simp] theorem ZuS(b n:Nat):AV.cellsOf (.own b n)=some [(.own b n)]:=rfl
@[simp] theorem ZvY(b o:Nat):AV.cellsOf (.ptr b o)=some [(.ptr b o)]:=rfl
@[simp] theorem Zve(b k i j:Nat):AV.cellsOf (.rptr b k i j)=some [(.rptr b k i j)]:=rfl
@[simp] theorem ZuM(cs:List AV):AV.cellsOf (.agg cs)=some cs:=rfl
@[simp] theorem Zyw(b:Bool):AV.notU (.lit (.bool b))=true:=rfl
@[simp] theorem ZzO(s:ByteArray):AV.notU (.lit (.string s))=true:=rfl
@[simp] theorem ZAo(a:Option Addr)(n c:Nat):AV.notU (.lit (.slice a n c))=true:=rfl
@[simp] theorem ZyJ(a:Option Addr):AV.notU (.lit (.pointer a))=true:=rfl
@[simp] theorem ZAP(z:Int):AV.notU (.lit (.int .i8 z))=true:=rfl
@[simp] theorem ZzX(z:Int):AV.notU (.lit (.int .i16 z))=true:=rfl
@[simp] theorem ZAD(z:Int):AV.notU (.lit (.int .i32 z))=true:=rfl
@[simp] theorem ZzS(z:Int):AV.notU (.lit (.int .i64 z))=true:=rfl
@[simp] theorem ZA6(z:Int):AV.notU (.lit (.int .u8 z))=true:=rfl
@[simp] theorem ZyO(z:Int):AV.notU (.lit (.int .u16 z))=true:=rfl
@[simp] theorem ZyN(z:Int):AV.notU (.lit (.int .u64 z))=true:=rfl
@[simp] theorem Zz8(z:Int):AV.notU (.lit (.int .u32 z))=false:=rfl
@[simp] theorem ZAI(k:Nat)(es:List (List AV)):AV.notU (.sl k es)=true:=rfl
@[simp] theorem ZzH(cs:List AV):AV.notU (.mem cs)=true:=rfl
@[simp] theorem Zzy(f:FuncId)(cs:List AV):AV.notU (.clo f cs)=true:=rfl
@[simp] theorem ZzU(b n:Nat):AV.notU (.own b n)=true:=rfl
@[simp] theorem ZBy(b o:Nat):AV.notU (.ptr b o)=true:=rfl
@[simp] theorem ZAa(b k i j:Nat):AV.notU (.rptr b k i j)=true:=rfl
@[simp] theorem ZCB(e:TypeId)(k:Nat)(es:List (List AV))(fz:Nat):AB.isT (.row e k es fz)=true:=rfl
@[simp] theorem ZB5(t:TypeId)(cs:List AV)(fz:Bool):AB.isT (.box t cs fz)=AV.allT cs:=rfl
@[simp] theorem ZCO(e:TypeId)(k:Nat)(es:List (List AV))(fz:Nat):AB.freeze (.row e k es fz)=.row e k es es.length:=rfl
@[simp] theorem ZB1(t:TypeId)(cs:List AV)(fz:Bool):AB.freeze (.box t cs fz)=.box t cs true:=rfl
@[simp] theorem ZCJ(ρ:Nat→Option Nat)(e:TypeId)(k:Nat)(es:List (List AV))(fz:Nat):AB.ren ρ (.row e k es fz)=.row e k es fz:=rfl
@[simp] theorem ZCv(ρ:Nat→Option Nat)(t:TypeId)(cs:List AV)(fz:Bool):AB.ren ρ (.box t cs fz)=.box t (AV.renL ρ cs) fz:=rfl
@[simp] theorem Zvn(b:Nat):AV.cellsOf (.mp b)=some [.mp b]:=rfl
@[simp] theorem ZAW(b:Nat):AV.notU (.mp b)=true:=rfl
@[simp] theorem ZDc(es:List (ByteArray × Value)):AB.isT (.mp es)=true:=rfl
@[simp] theorem ZDP(es:List (ByteArray × Value)):AB.freeze (.mp es)=.mp es:=rfl
@[simp] theorem ZC9(ρ:Nat→Option Nat)(es:List (ByteArray × Value)):AB.ren ρ (.mp es)=.mp es:=rfl
@[simp] theorem ZAX(n b:Nat)(k:AV→List Nat→Tr):QN n (.mp b) k=res n (.mp b) k:=rfl
@[simp] theorem ZDF(b:Nat):AV.nz (.mp b)=(.mp b):=rfl
@[simp] theorem ZyK(d:AV)(k:AV→List Nat→Tr):res 0 d k=if d.isT then k d [] else .fail:=rfl
@[simp] theorem ZA7(n:Nat)(k:AV→List Nat→Tr):res (n+1) .any k=k .any []:=rfl
@[simp] theorem ZAO(n:Nat)(v:Value)(k:AV→List Nat→Tr):res (n+1) (.lit v) k=k (.lit v) []:=rfl
@[simp] theorem ZCI(n:Nat)(kk:Nat)(es:List (List AV))(k:AV→List Nat→Tr):res (n+1) (.sl kk es) k=k (.sl kk es) []:=rfl
@[simp] theorem ZBP(n:Nat)(cs:List AV)(k:AV→List Nat→Tr):res (n+1) (.mem cs) k=k (.mem cs) []:=rfl
@[simp] theorem ZBb(n:Nat)(cs:List AV)(k:AV→List Nat→Tr):res (n+1) (.agg cs) k=V4 (res n) cs fun cs' fs=>k (.agg cs') fs:=rfl
@[simp] theorem ZBN(n:Nat)(cs:List AV)(k:AV→List Nat→Tr):res (n+1) (.tup cs) k=V4 (res n) cs fun cs' fs=>k (.tup cs') fs:=rfl
@[simp] theorem ZAM(n:Nat)(f:FuncId)(cs:List AV)(k:AV→List Nat→Tr):res (n+1) (.clo f cs) k=V4 (res n) cs fun cs' fs=>k (.clo f cs') fs:=rfl
@[simp] theorem ZBR(n b m:Nat)(k:AV→List Nat→Tr):res (n+1) (.own b m) k=.blk b fun x=>match x with
   | .row _ kk es _=>if es.length=m then k (.sl kk es) [b] else .fail
   | _=>.fail:=rfl
@[simp] theorem ZBd(n b o:Nat)(k:AV→List Nat→Tr):res (n+1) (.ptr b o) k=.blk b fun x=>match x with
   | .box _ cs _=>V4 (res n) cs fun cs' fs=>k (.mem (cs'.drop o)) (b::fs)
   | _=>.fail:=rfl
@[simp] theorem ZwD(k:Nat):AV.cellsOf (.nl k)=some [.nl k]:=rfl
@[simp] theorem ZBe(k:Nat):AV.notU (.nl k)=true:=rfl
@[simp] theorem ZvW(n kk:Nat)(k:AV→List Nat→Tr):res (n+1) (.nl kk) k=k (.sl kk []) []:=rfl
@[simp] theorem Zt3(n kk:Nat)(k:AV→List Nat→Tr):QN n (.nl kk) k=k (.nl kk) []:=rfl
@[simp] theorem ZDS(k:Nat):AV.nz (.nl k)=.sl k []:=rfl
@[simp] theorem Zz6(n:Nat)(v:Value)(k:AV→List Nat→Tr):QN n (.lit v) k=res n (.lit v) k:=rfl
@[simp] theorem ZBU(v:Value):AV.nz (.lit v)=(.lit v):=rfl
@[simp] theorem ZAp(n:Nat)(k:AV→List Nat→Tr):QN n .any k=res n .any k:=rfl
@[simp] theorem ZCH:AV.nz .any=.any:=rfl
@[simp] theorem ZAc(n:Nat)(cs:List AV)(k:AV→List Nat→Tr):QN n (.agg cs) k=res n (.agg cs) k:=rfl
@[simp] theorem ZCh(cs:List AV):AV.nz (.agg cs)=(.agg cs):=rfl
@[simp] theorem Zzb(n:Nat)(cs:List AV)(k:AV→List Nat→Tr):QN n (.tup cs) k=res n (.tup cs) k:=rfl
@[simp] theorem ZBV(cs:List AV):AV.nz (.tup cs)=(.tup cs):=rfl
@[simp] theorem ZBh(n:Nat)(kk:Nat)(es:List (List AV))(k:AV→List Nat→Tr):QN n (.sl kk es) k=res n (.sl kk es) k:=rfl
@[simp] theorem ZCU(kk:Nat)(es:List (List AV)):AV.nz (.sl kk es)=(.sl kk es):=rfl
@[simp] theorem Zzl(n:Nat)(cs:List AV)(k:AV→List Nat→Tr):QN n (.mem cs) k=res n (.mem cs) k:=rfl
@[simp] theorem ZCF(cs:List AV):AV.nz (.mem cs)=(.mem cs):=rfl
@[simp] theorem Zzd(n:Nat)(f:FuncId)(cs:List AV)(k:AV→List Nat→Tr):QN n (.clo f cs) k=res n (.clo f cs) k:=rfl
@[simp] theorem ZB3(f:FuncId)(cs:List AV):AV.nz (.clo f cs)=(.clo f cs):=rfl
@[simp] theorem Zz0(n:Nat)(b m:Nat)(k:AV→List Nat→Tr):QN n (.own b m) k=res n (.own b m) k:=rfl
@[simp] theorem ZCo(b m:Nat):AV.nz (.own b m)=(.own b m):=rfl
@[simp] theorem ZAm(n:Nat)(b o:Nat)(k:AV→List Nat→Tr):QN n (.ptr b o) k=res n (.ptr b o) k:=rfl
@[simp] theorem ZB6(b o:Nat):AV.nz (.ptr b o)=(.ptr b o):=rfl
@[simp] theorem Zyv(n:Nat)(b kk i j:Nat)(k:AV→List Nat→Tr):QN n (.rptr b kk i j) k=res n (.rptr b kk i j) k:=rfl
@[simp] theorem ZBH(b kk i j:Nat):AV.nz (.rptr b kk i j)=(.rptr b kk i j):=rfl
def YG(r:AV→(AV→List Nat→Tr)→Tr):List AV→List AV→List Nat→(List AV→List Nat→Tr)→Tr
 | [],acc,fa,k=>k acc fa
 | c::cs,acc,fa,k=>r c fun c' f1=>YG r cs (acc++[c']) (fa++f1) k
theorem ZjD(r:AV→(AV→List Nat→Tr)→Tr):∀(cs acc:List AV) (fa:List Nat) (k:List AV→List Nat→Tr),YG r cs acc fa k=V4 r cs fun cs' fs=>k (acc++cs') (fa++fs)
 | [],acc,fa,k=>by simp [YG,V4]
 | c::cs,acc,fa,k=>by
   rw [YG,V4]
   congr 1
   funext c' f1
   rw [ZjD r cs]
   simp [List.append_assoc]
@[simp] theorem ZCi(r:AV→(AV→List Nat→Tr)→Tr)(cs:List AV)(k:List AV→List Nat→Tr):V4 r cs k=YG r cs [] [] k:=by rw [ZjD];rfl
@[simp] theorem ZyL(r:AV→(AV→List Nat→Tr)→Tr)(acc:List AV)(fa:List Nat)(k:List AV→List Nat→Tr):YG r [] acc fa k=k acc fa:=rfl
theorem QR{r:AV→(AV→List Nat→Tr)→Tr}{c:AV}(h:∀k,r c k=k c [])(cs acc:List AV)(fa:List Nat)(k:List AV→List Nat→Tr):YG r (c::cs) acc fa k=YG r cs (acc++[c]) fa k:=by
 rw [YG,h,List.append_nil]
@[simp] theorem ZAh(n:Nat)(v:Value)(cs acc:List AV)(fa:List Nat)(k:List AV→List Nat→Tr):YG (res n) ((.lit v)::cs) acc fa k=YG (res n) cs (acc++[(.lit v)]) fa k:=QR (fun k=>by cases n <;>rfl) _ _ _ _
@[simp] theorem Zyt(n:Nat)(v:Value)(cs acc:List AV)(fa:List Nat)(k:List AV→List Nat→Tr):YG (QN n) ((.lit v)::cs) acc fa k=YG (QN n) cs (acc++[(.lit v)]) fa k:=QR (fun k=>by cases n <;>rfl) _ _ _ _
@[simp] theorem Zy7(n:Nat)(cs acc:List AV)(fa:List Nat)(k:List AV→List Nat→Tr):YG (res n) (.any::cs) acc fa k=YG (res n) cs (acc++[.any]) fa k:=QR (fun k=>by cases n <;>rfl) _ _ _ _
@[simp] theorem Zys(n:Nat)(cs acc:List AV)(fa:List Nat)(k:List AV→List Nat→Tr):YG (QN n) (.any::cs) acc fa k=YG (QN n) cs (acc++[.any]) fa k:=QR (fun k=>by cases n <;>rfl) _ _ _ _
@[simp] theorem ZAN(n:Nat)(kk:Nat)(es:List (List AV))(cs acc:List AV)(fa:List Nat)(k:List AV→List Nat→Tr):YG (res n) ((.sl kk es)::cs) acc fa k=YG (res n) cs (acc++[(.sl kk es)]) fa k:=QR (fun k=>by cases n <;>rfl) _ _ _ _
@[simp] theorem Zzr(n:Nat)(kk:Nat)(es:List (List AV))(cs acc:List AV)(fa:List Nat)(k:List AV→List Nat→Tr):YG (QN n) ((.sl kk es)::cs) acc fa k=YG (QN n) cs (acc++[(.sl kk es)]) fa k:=QR (fun k=>by cases n <;>rfl) _ _ _ _
@[simp] theorem Zzp(n:Nat)(as:List AV)(cs acc:List AV)(fa:List Nat)(k:List AV→List Nat→Tr):YG (res n) ((.mem as)::cs) acc fa k=YG (res n) cs (acc++[(.mem as)]) fa k:=QR (fun k=>by cases n <;>rfl) _ _ _ _
@[simp] theorem ZyA(n:Nat)(as:List AV)(cs acc:List AV)(fa:List Nat)(k:List AV→List Nat→Tr):YG (QN n) ((.mem as)::cs) acc fa k=YG (QN n) cs (acc++[(.mem as)]) fa k:=QR (fun k=>by cases n <;>rfl) _ _ _ _
@[simp] theorem ZBf(n kk:Nat)(cs acc:List AV)(fa:List Nat)(k:List AV→List Nat→Tr):YG (res (n+1)) (.nl kk::cs) acc fa k=YG (res (n+1)) cs (acc++[.sl kk []]) fa k:=by
  rw [YG,ZvW,List.append_nil]
@[simp] theorem ZzW(n kk:Nat)(cs acc:List AV)(fa:List Nat)(k:List AV→List Nat→Tr):YG (QN n) (.nl kk::cs) acc fa k=YG (QN n) cs (acc++[.nl kk]) fa k:=by
  rw [YG,Zt3,List.append_nil]
@[simp] theorem ZAx(n:Nat)(ds:List AV)(cs acc:List AV)(fa:List Nat)(k:List AV→List Nat→Tr):YG (res n) ((.agg ds)::cs) acc fa k=res n (.agg ds) fun c' f1=>YG (res n) cs (acc++[c']) (fa++f1) k:=rfl
@[simp] theorem Zyf(n:Nat)(ds:List AV)(cs acc:List AV)(fa:List Nat)(k:List AV→List Nat→Tr):YG (QN n) ((.agg ds)::cs) acc fa k=res n (.agg ds) fun c' f1=>YG (QN n) cs (acc++[c']) (fa++f1) k:=rfl
@[simp] theorem ZAA(n:Nat)(ds:List AV)(cs acc:List AV)(fa:List Nat)(k:List AV→List Nat→Tr):YG (res n) ((.tup ds)::cs) acc fa k=res n (.tup ds) fun c' f1=>YG (res n) cs (acc++[c']) (fa++f1) k:=rfl
@[simp] theorem Zyo(n:Nat)(ds:List AV)(cs acc:List AV)(fa:List Nat)(k:List AV→List Nat→Tr):YG (QN n) ((.tup ds)::cs) acc fa k=res n (.tup ds) fun c' f1=>YG (QN n) cs (acc++[c']) (fa++f1) k:=rfl
@[simp] theorem ZAb(n:Nat)(f:FuncId)(ds:List AV)(cs acc:List AV)(fa:List Nat)(k:List AV→List Nat→Tr):YG (res n) ((.clo f ds)::cs) acc fa k=res n (.clo f ds) fun c' f1=>YG (res n) cs (acc++[c']) (fa++f1) k:=rfl
@[simp] theorem Zyy(n:Nat)(f:FuncId)(ds:List AV)(cs acc:List AV)(fa:List Nat)(k:List AV→List Nat→Tr):YG (QN n) ((.clo f ds)::cs) acc fa k=res n (.clo f ds) fun c' f1=>YG (QN n) cs (acc++[c']) (fa++f1) k:=rfl
@[simp] theorem ZzF(n:Nat)(b m:Nat)(cs acc:List AV)(fa:List Nat)(k:List AV→List Nat→Tr):YG (res n) ((.own b m)::cs) acc fa k=res n (.own b m) fun c' f1=>YG (res n) cs (acc++[c']) (fa++f1) k:=rfl
@[simp] theorem Zyq(n:Nat)(b m:Nat)(cs acc:List AV)(fa:List Nat)(k:List AV→List Nat→Tr):YG (QN n) ((.own b m)::cs) acc fa k=res n (.own b m) fun c' f1=>YG (QN n) cs (acc++[c']) (fa++f1) k:=rfl
@[simp] theorem Zzc(n:Nat)(b o:Nat)(cs acc:List AV)(fa:List Nat)(k:List AV→List Nat→Tr):YG (res n) ((.ptr b o)::cs) acc fa k=res n (.ptr b o) fun c' f1=>YG (res n) cs (acc++[c']) (fa++f1) k:=rfl
@[simp] theorem Zyu(n:Nat)(b o:Nat)(cs acc:List AV)(fa:List Nat)(k:List AV→List Nat→Tr):YG (QN n) ((.ptr b o)::cs) acc fa k=res n (.ptr b o) fun c' f1=>YG (QN n) cs (acc++[c']) (fa++f1) k:=rfl
@[simp] theorem Zyp(k:Nat):Qq k []=true:=rfl
@[simp] theorem Zwu(k:Nat)(e:List AV)(es:List (List AV)):Qq k (e::es)=(decide (e.length=k) && AV.allT e && AV.allNotU e && Qq k es):=rfl
@[simp] theorem Zyx(k:Nat)(es fs:List (List AV)):Qq k (es++fs)=(Qq k es && Qq k fs):=by simp [Qq]
theorem YR{α:Type}{k:Nat}{f:α→List AV}(h:∀x,(decide ((f x).length=k) && AV.allT (f x) && AV.allNotU (f x))=true)(l:List α):Qq k (l.map f)=true:=by
 unfold Qq
 rw [List.all_map,List.all_eq_true]
 exact fun x _=>h x
theorem Zh2(s:ByteArray)(l:List (List AV)):Kt (Zx s++l)=(Kt l).map (s.data.toList++·):=by
 rw [Zx]
 induction s.data.toList with
 | nil=>simp
 | cons b bs ih=>
   have hb:0≤(b.toNat:Int)∧(b.toNat:Int)<256:=⟨by omega,by have:=b.toNat_lt;omega⟩
   have e:UInt8.ofNat (b.toNat:Int).toNat=b:=by rw [Int.toNat_natCast];exact UInt8.ofNat_toNat
   rw [List.map_cons,List.cons_append,Kt,if_pos hb,ih,e,Option.map_map]
   rfl
@[simp] theorem Zyi(s:ByteArray):Zhv (Zx s)=some s:=by
  have h:=Zh2 s []
  rw [List.append_nil,Kt] at h
  rw [Zhv,h]
  simp
@[simp] theorem ZwI(a b:ByteArray):Zx a++Zx b=Zx (a++b):=by
  simp [Zx]
@[simp] theorem Zr2(s:ByteArray):(Zx s).length=s.size:=Vw s
def Zb:Code→List Code
 | .loop c=>[c]
 | .seq a b=>Zb a++Zb b
 | .cond _ a b=>Zb a++Zb b
 | .block _ c=>Zb c
 | .scope c=>Zb c
 | _=>[]
def lv(l:List (Nat × List Nat))(r:Nat):List Nat:=(l.lookup r).getD []
def big:Nat:=4294967296
noncomputable def ZpI(P:Program)(O:FuncId→Option Orc)(m N:Nat)(lives:Nat→List Nat)(fuel r:Nat)(C:Code)(s:St):Option (Ex × St):=
 match Km m (exec P O m N lives fuel C) (lives r) fuel s with
 | some (ex,s')=>(match gc m (lives (Zo r)) s' with|some s2=>some (ex,s2)|none=>none)
 | none=>none
theorem ZmY(P:Program)(O:FuncId→Option Orc)(m N:Nat)(lives:Nat→List Nat)(fuel:Nat)(C:Code)(s:St):exec P O m N lives fuel (.loop C) s=ZpI P O m N lives fuel (Zb1 C) C s:=rfl
def Zj(m:Nat)(step:St→Option (Ex × St))(live:List Nat)(s:St)(ex:Ex)(t:St):Prop:=∃s',step s=some (ex,s')∧gc m live s'=some t
def Zm(m:Nat)(step:St→Option (Ex × St))(live:List Nat)(s t:St):Prop:=∃s',step s=some (.nrm,s')∧gc m live s'=some t
def XO{α β γ:Type}(f:Nat→β→α→Except γ β):Nat→β→List α→Except γ β
 | _,b,[]=>.ok b
 | i,b,x::R=>match f i b x with
   | .ok b'=>XO f (i+1) b' R
   | .error c=>.error c
def VQ{α β:Type}(f:Nat→β→α→β):Nat→β→List α→β
 | _,b,[]=>b
 | i,b,x::R=>VQ f (i+1) (f i b x) R
section
variable{α β γ:Type}{m:Nat}{live:List Nat}{step:St→Option (Ex × St)}{L:List α}{enc:Nat→β→St}
end
section
variable {α β γ : Type} {P : Program} {O : FuncId → Option Orc} {m N : Nat} {lives : Nat → List Nat} {fuel r : Nat} {C : Code} {s : St} {L : List α} {enc : Nat → β → St} {Inv : Nat → β → Prop} {exN : Ex} {out : β → St}
def Zsw(x:Except γ β)(exN:Ex)(out:β→St)(exE:Ex)(outE:γ→St):Ex × St:=
 match x with
 | .ok b=>(exN,out b)
 | .error c=>(exE,outE c)
@[simp] theorem ZBQ(b:β)(exN:Ex)(out:β→St)(exE:Ex)(outE:γ→St):Zsw (.ok b) exN out exE outE=(exN,out b):=rfl
@[simp] theorem ZxX(c:γ)(exN:Ex)(out:β→St)(exE:Ex)(outE:γ→St):Zsw (.error c) exN out exE outE=(exE,outE c):=rfl
end
def ZR(f:Func):Code:=f.body.getD .skip
attribute [simp] isC Zjr Zj0 frzClo flatNil ownLit ZoX ownBox Zkc Zui Zjo Jw Zgr ZdF KP Zmr opS Zkk ZlT Zdq ZdE ZaV Zeu KY KX Foot.clash Zb3 ZfK XQ Tr.asks ZjL V9 aop ZiD Tr.run rd ZtW Zlh ofV VA Zbi St.t St.b Ztf ZD AV.allNotU rdL ldT ret ZbD stT splice ZaU Zkg Zsh US JD Zby Zgh AB.refsL VZ JG Zm1 ZeQ Kp upNew YE XR KT AV.ren AV.renL Zmp Zkt unV ZsA Jc rvL rvA AV.isT AV.allT Nat.blt Nat.ble Zfp Region.binds List.range List.range.loop List.range' Nat.testBit_eq_decide_div_mod_eq ixT ixV idx Zki cvB cvS apT Zxd slT luT muT Zd0 mkT ZhH ZcY ZfT Zaa ZbC Zce Qo KU gcB gcT AV.refs AV.refsL ZcC UA gc gcC ZeA Zfq ZeZ ZhX ph Zcb Zo undef Zb1
attribute [simp] exec.eq_1 exec.eq_2 exec.eq_3 exec.eq_4 exec.eq_5 exec.eq_6 exec.eq_8 exec.eq_9 exec.eq_10 exec.eq_11
attribute [simp] ZR ZmY
@[simp] theorem Zzv(P:Program)(t:TypeId)(s:ByteArray):Zd9 P t (.lit (.string s))=if Zcm P t=true then some s.size else none:=rfl
@[simp] theorem ZBq(P:Program)(t:TypeId)(k:Nat)(es:List (List AV)):Zd9 P t (.sl k es)=if (Wn P t).isSome=true then some es.length else none:=rfl
@[simp] theorem Zy8(P:Program)(t:TypeId)(b n:Nat):Zd9 P t (.own b n)=if (Wn P t).isSome=true then some n else none:=rfl
@[simp] theorem ZA0(P:Program)(t:TypeId)(k:Nat):Zd9 P t (.nl k)=if (Wn P t).isSome=true then some 0 else none:=rfl
@[simp] theorem ZzM(P:Program)(t:TypeId):Zd9 P t (.lit (.slice none 0 0))=if (Wn P t).isSome=true then some 0 else none:=rfl
end Go.Proofs.YtdaonnnlgfhlaaaGreatDoor
