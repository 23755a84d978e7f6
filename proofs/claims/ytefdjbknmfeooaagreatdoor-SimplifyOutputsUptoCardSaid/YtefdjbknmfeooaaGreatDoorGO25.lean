import Derived.Test.YtefdjbknmfeooaaGreatDoorRows
import Derived.Test.YtefdjbknmfeooaaGreatDoorGO16
import Derived.Deep.Slices
import Derived.ChangeArms
import Derived.ChangeSlices
import Derived.DataReads
import Derived.OpenShut
import Derived.Lib.LaidTab
import Derived.Stop.LaidErr
import Derived.Test.YtefdjbknmfeooaaGreatDoorGO24
import Derived.Test.YtefdjbknmfeooaaGreatDoorGO22
import Derived.Test.YtefdjbknmfeooaaGreatDoorGO17
import Derived.Test.YtefdjbknmfeooaaGreatDoorGO18
import Derived.Test.YtefdjbknmfeooaaGreatDoorGO19
set_option linter.all false
set_option maxHeartbeats 6400000
set_option maxRecDepth 100000
namespace Go.Proofs.YtefdjbknmfeooaaGreatDoor
section
open Go.ChangeShapes Go.WideShapes Go.RowKit Go.Deep
def okT:Nat→Nat→Prop:=fun _ _=>True
theorem bulk_one_le{H:Type}(d:DataW H):1≤Rows.uptoBulk d:=by
 cases d with
 | lit l=>cases l <;>simp [Rows.uptoBulk]
 | nil=>simp [Rows.uptoBulk]
 | ptr d=>simp [Rows.uptoBulk]
 | slice elems spare=>simp [Rows.uptoBulk]
 | agg parts=>simp [Rows.uptoBulk]
 | iface t d=>simp [Rows.uptoBulk]
 | map entries=>simp [Rows.uptoBulk]
 | held h=>simp [Rows.uptoBulk]
theorem bulk_part_le{H:Type}{d:DataW H}{l:List (DataW H)}(h:d∈l):Rows.uptoBulk d≤Rows.uptoBulkAll l:=by
 induction l with
 | nil=>cases h
 | cons x r ih=>
   simp only [Rows.uptoBulkAll]
   cases List.mem_cons.1 h with
   | inl e=>subst e;omega
   | inr e=>have:=ih e;omega
theorem bulk_length_le{H:Type}(l:List (DataW H)):l.length≤Rows.uptoBulkAll l:=by
 induction l with
 | nil=>simp [Rows.uptoBulkAll]
 | cons x r ih=>have:=bulk_one_le x;simp only [Rows.uptoBulkAll,List.length_cons];omega
theorem bulk_agg{H:Type}{d:DataW H}{l:List (DataW H)}(h:d∈l):Rows.uptoBulk d≤Rows.uptoBulk (.agg l):=by
 have:=bulk_part_le h
 simp only [Rows.uptoBulk]
 omega
theorem bulk_slice{H:Type}{d:DataW H}{l r:List (DataW H)}(h:d∈l):Rows.uptoBulk d≤Rows.uptoBulk (.slice l r):=by
 have:=bulk_part_le h
 simp only [Rows.uptoBulk]
 omega
theorem bulk_slice_len{H:Type}(l r:List (DataW H)):l.length≤Rows.uptoBulk (.slice l r):=by
 have:=bulk_length_le l
 simp only [Rows.uptoBulk]
 omega
def Opens(w:World)(t:TypeId)(A:Nat→List AV→Prop):Prop:=
 ∀(H:Type) (enc:TypeId × Value→H) (base:Nat) (spare:Nat→Bool) (held:Bool) (fuel:Nat) (cs:List Value) (x:DataW H × List MemPlace),DataW.trod enc Tryz.prog w base spare held fuel t cs=some x→∃us,A (Rows.uptoBulk x.1) us∧RV (RepT w okT) us cs
def Up1(A:Nat→List AV→Prop):Prop:=∀N M us,N≤M→A N us→A M us
theorem Opens.mono{w:World}{t:TypeId}{A B:Nat→List AV→Prop}(h:Opens w t A)(hA:∀N us,A N us→B N us):Opens w t B:=fun H enc base spare held fuel cs x hx=>by
 obtain ⟨us,h1,h2⟩:=h H enc base spare held fuel cs x hx
 exact ⟨us,hA _ _ h1,h2⟩
theorem rvq1{R:AV→Value→Prop}{a:AV}{v:Value}(h:R a v):RV R [a] [v]:=⟨rfl,fun i d hi=>by
 match i,hi with
 | 0,hi=>cases hi;exact ⟨v,rfl,h⟩
 | i+1,hi=>simp at hi⟩
theorem rv_fld{R:AV→Value→Prop}{us bs:List AV}{cs:List Value}{o n:Nat}(h1:RV R us ((cs.drop o).take n))(h2:RV R bs (cs.drop (o+n)))(hn:o+n≤cs.length):RV R (us++bs) (cs.drop o):=by
 have l1:=h1.1
 have l2:=h2.1
 rw [List.length_take,List.length_drop] at l1
 rw [List.length_drop] at l2
 refine ⟨by rw [List.length_append,List.length_drop];omega,fun i d hi=>?_⟩
 by_cases hl:i<us.length
 ·rw [List.getElem?_append_left hl] at hi
  obtain ⟨u,h3,h4⟩:=h1.2 i d hi
  rw [List.getElem?_take,if_pos (by omega)] at h3
  exact ⟨u,h3,h4⟩
 ·rw [List.getElem?_append_right (by omega)] at hi
  obtain ⟨u,h3,h4⟩:=h2.2 _ d hi
  refine ⟨u,?_,h4⟩
  rw [List.getElem?_drop] at h3 ⊢
  rw [←h3]
  congr 1
  omega
theorem rv_end{R:AV→Value→Prop}{cs:List Value}{N:Nat}(h:cs.length=N):RV R [] (cs.drop N):=by
 rw [List.drop_of_length_le (by omega)]
 exact ⟨rfl,fun i d hi=>by simp at hi⟩
section
variable {w : World}
theorem op_int{t:TypeId}{k:IntKind}(ht: Tryz.prog.underlying t=some (.int k)):Opens w t (fun _ us=>∃z,us=[.lit (.int k z)]∧(Lit.int k z).wf=true):=fun H enc base spare held fuel cs x hx=>by
 obtain ⟨n,rfl,rfl,hw⟩:=DataW.trod_int ht hx
 exact ⟨_,⟨n,rfl,hw⟩,rvq1 (.lit _)⟩
theorem op_bool{t:TypeId}(ht: Tryz.prog.underlying t=some .bool):Opens w t (fun _ us=>∃b,us=[.lit (.bool b)]):=fun H enc base spare held fuel cs x hx=>by
 obtain ⟨b,rfl,_⟩:=DataW.trod_bool ht hx
 exact ⟨_,⟨b,rfl⟩,rvq1 (.lit _)⟩
theorem fldB{H:Type}{enc:TypeId × Value→H}{base:Nat}{spare:Nat→Bool}{held:Bool}{t:TypeId}{fs:Array Field}{fuel:Nat}{cs:List Value}{x:DataW H × List MemPlace}(hs: Tryz.prog.underlying t=some (.struct fs))(h:DataW.trod enc Tryz.prog w base spare held fuel t cs=some x):
  cs.length= Tryz.prog.cellsOf t∧∀(i:Nat) (f:Field) (T:TypeId) (o:Nat),fs[i]?=some f→f.type=T→f.offset=o→∃n y,DataW.trod enc Tryz.prog w base spare held n T ((cs.drop o).take (Tryz.prog.cellsOf T))=some y∧Rows.uptoBulk y.1≤Rows.uptoBulk x.1:=by
 obtain ⟨xs,n,_,hx,hl,hlen,hg⟩:=DataW.trod_struct hs h
 refine ⟨hl,fun i f T o hf hT ho=>⟨n,xs[i]'(by rw [hlen];exact (Array.getElem?_eq_some_iff.1 hf).1),?_,?_⟩⟩
 ·subst hT ho
  rw [hg i f hf]
  exact List.getElem?_eq_getElem _
 ·subst hx
  exact bulk_agg (List.mem_map_of_mem (List.getElem_mem _))
theorem addr_at{b o i:Nat}:(⟨b,o,none⟩:Addr).add i=⟨b,o+i,none⟩:=by
 unfold Addr.add
 split
 ·rename_i h;subst h;rfl
 ·rfl
theorem op_sl{t e:TypeId}{k:Nat}{A:Nat→List AV→Prop}(ht: Tryz.prog.underlying t=some (.slice e))(hk: Tryz.prog.cellsOf e=k)(h0k:0<k)(he:Opens w e A)(hA:Up1 A):
  Opens w t (fun N us=>∃es:List (List AV),us=[.sl k es]∧es.length≤N∧∀e∈es,A N e):=fun H enc base spare held fuel cs x hx=>by
 rcases open_slice ht hx with ⟨rfl,_⟩|⟨a,len,cap,m,n,D,Pl,rfl,_,hl,hm,hmm,hxe,hi⟩
 ·exact ⟨_,⟨[],rfl,by simp,fun e he=>by cases he⟩,rvq1 (.nil none 0)⟩
 ·have hlm:len≤m:=by rw [hmm];split <;>omega
  have hb:∀i,i<len→Rows.uptoBulk (D i)≤Rows.uptoBulk x.1:=fun i hil=>by
   subst hxe
   exact bulk_slice (List.mem_map.2 ⟨i,List.mem_range.2 hil,rfl⟩)
  have hbl:len≤Rows.uptoBulk x.1:=by
   subst hxe
   have:=bulk_slice_len ((List.range len).map D) ((List.range (m-len)).map fun j=>D (len+j))
   rw [List.length_map,List.length_range] at this
   exact this
  obtain ⟨U,hU⟩:=choose_lt (n:=len) (p:=fun i (u:List AV)=>A (Rows.uptoBulk x.1) u∧∃cs',RV (RepT w okT) u cs'∧w.cells? base (a.add (i*k)) k=some cs') (fun i hil=>by
   obtain ⟨cs',h1,h2⟩:=hi i (by omega)
   rw [hk] at h1
   obtain ⟨u,hu,hr⟩:=he H enc base spare held _ _ _ h2
   exact ⟨u,hA _ _ _ (hb i hil) hu,cs',hr,h1⟩)
  refine ⟨[.sl k ((List.range len).map U)],⟨_,rfl,by rw [List.length_map,List.length_range];exact hbl,fun e he=>?_⟩,?_⟩
  ·obtain ⟨i,hir,rfl⟩:=List.mem_map.1 he
   exact (hU i (List.mem_range.1 hir)).1
  ·by_cases h0:len=0
   ·subst h0;exact rvq1 (.nil (some a) cap)
   ·have hz:=(hU 0 (by omega)).2.choose_spec.2
    obtain ⟨_,hz1,hz2⟩:=World.cells?_some hz
    have hz3:=hz2 0 h0k
    rw [List.getElem?_eq_getElem (by omega)] at hz3
    have hs0:=World.cell?_spot hz3
    obtain ⟨b,o,sp⟩:=a
    have hsp:sp=none:=by
     simp [Addr.add] at hs0
     exact hs0
    subst hsp
    have key:∀(i j:Nat) (e:List AV) (d:AV),((List.range len).map U)[i]?=some e→e[j]?=some d→∃u,w.cell? ⟨b,o+i*k+j,none⟩=some u∧RepT w okT d u:=fun i j e d hie hjd=>by
     have hil:i<len:=by have:=(List.getElem?_eq_some_iff.1 hie).1;rw [List.length_map,List.length_range] at this;exact this
     rw [List.getElem?_map,List.getElem?_range hil] at hie
     cases hie
     obtain ⟨_,cs',hr,hc⟩:=hU i hil
     obtain ⟨_,q1,q2⟩:=World.cells?_some hc
     obtain ⟨u,g1,g2⟩:=hr.2 j d hjd
     have hj:j<k:=by
      have:=(List.getElem?_eq_some_iff.1 g1).1
      omega
     have:=q2 j hj
     rw [addr_at,addr_at] at this
     exact ⟨u,this.trans g1,g2⟩
    have R:=RepT.sl (w:=w) (ok:=okT) (k:=k) (b:=b) (o:=o) (c:=cap) (es:=(List.range len).map U) (fun e he=>by
      obtain ⟨i,hir,rfl⟩:=List.mem_map.1 he
      obtain ⟨_,cs',hr,hc⟩:=hU i (List.mem_range.1 hir)
      obtain ⟨_,q1,_⟩:=World.cells?_some hc
      have:=hr.1
      omega) (by rw [List.length_map,List.length_range];exact hl) (fun i j e d he hd=>by
      obtain ⟨u,h1,_⟩:=key i j e d he hd
      exact ⟨trivial,by rw [h1];rfl⟩) (fun i j e d he hd=>by
      obtain ⟨u,h1,h2⟩:=key i j e d he hd
      rw [h1]
      exact h2)
    rw [List.length_map,List.length_range] at R
    exact rvq1 R
theorem list_of{α:Type}{enc:α→List AV}{ok:α→Prop}:∀{es:List (List AV)},(∀e∈es,∃x,e=enc x∧ok x)→∃L:List α,es=L.map enc∧∀x∈L,ok x
 | [],_=>⟨[],rfl,fun x hx=>by cases hx⟩
 | e::es,h=>by
   obtain ⟨x,rfl,hx⟩:=h e (List.mem_cons_self ..)
   obtain ⟨L,rfl,hL⟩:=list_of fun e he=>h e (List.mem_cons_of_mem _ he)
   exact ⟨x::L,rfl,fun y hy=>by
    rcases List.mem_cons.1 hy with rfl|hy
    ·exact hx
    ·exact hL y hy⟩
theorem op_list{α:Type}{t e:TypeId}{k:Nat}{enc:α→List AV}{ok:Nat→α→Prop}(ht: Tryz.prog.underlying t=some (.slice e))(hk: Tryz.prog.cellsOf e=k)(h0k:0<k)(he:Opens w e (fun N us=>∃x,us=enc x∧ok N x))(hm:∀N M x,N≤M→ok N x→ok M x):
  Opens w t (fun N us=>∃L:List α,us=[.sl k (L.map enc)]∧L.length≤N∧∀x∈L,ok N x):=
 (op_sl ht hk h0k he (fun N M us hN ⟨x,h1,h2⟩=>⟨x,h1,hm N M x hN h2⟩)).mono fun N us ⟨es,h1,h2,h3⟩=>by
  obtain ⟨L,rfl,hL⟩:=list_of h3
  exact ⟨L,h1,by simpa using h2,hL⟩
def okInt(k:IntKind)(_:Nat)(z:Int):Prop:=(Lit.int k z).wf=true
theorem okInt.up{k:IntKind}{N M:Nat}{z:Int}(hN:N≤M)(h:okInt k N z):okInt k M z:=h
def okBool(_:Nat)(_:Bool):Prop:=True
theorem okBool.up{N M:Nat}{b:Bool}(hN:N≤M)(h:okBool N b):okBool M b:=h
theorem op_intO{t:TypeId}{k:IntKind}(ht: Tryz.prog.underlying t=some (.int k)):Opens w t (fun N us=>∃z,us=[.lit (.int k z)]∧okInt k N z):=op_int ht
theorem op_boolO{t:TypeId}(ht: Tryz.prog.underlying t=some .bool):Opens w t (fun N us=>∃b,us=[.lit (.bool b)]∧okBool N b):=(op_bool ht).mono fun N us ⟨b,h⟩=>⟨b,h,trivial⟩
def okNat(N:Nat)(l:List Nat):Prop:=Lim l∧l.length≤N
theorem okNat.up{N M:Nat}{l:List Nat}(hN:N≤M)(h:okNat N l):okNat M l:=⟨h.1,Nat.le_trans h.2 hN⟩
theorem cU32: Tryz.prog.cellsOf 114=1:=by kernel_rfl
theorem op_natO:Opens w 32 (fun N us=>∃l,us=[natA l]∧okNat N l):=
 (op_list (α:=Nat) (enc:=fun x=>[.lit (.int .u32 (x:Int))]) (ok:=fun _ x=>x<4294967296) Tryz.underlying32 cU32 (by omega) ((op_int Tryz.underlying114).mono fun N us ⟨z,h1,h2⟩=>by
  have h3:0≤z∧z≤4294967295:=by simpa [Lit.wf,IntKind.min,IntKind.max,IntKind.signed,IntKind.bits] using h2
  exact ⟨z.toNat,by rw [h1,Int.toNat_of_nonneg h3.1],by omega⟩) (fun N M x _ h=>h)).mono fun N us ⟨L,h1,h2,h3⟩=>⟨L,h1,fun x hx=>h3 x hx,h2⟩
def okRaw(N:Nat)(r:Raw):Prop:=okNat N r.l1∧okNat N r.l2
theorem okRaw.up{N M:Nat}{r:Raw}(hN:N≤M)(h:okRaw N r):okRaw M r:=⟨h.1.up hN,h.2.up hN⟩
theorem arg_one{d:AV}{v:Value}(hv:v.cells=#[v])(h:RV (RepT w okT) [d] v.cells.toList):RepT w okT d v:=by
 rw [hv] at h
 obtain ⟨u,h1,h2⟩:=h.2 0 d rfl
 cases h1
 exact h2
theorem arg_agg{us:List AV}{cs:Array Value}(h:RV (RepT w okT) us (Value.agg cs).cells.toList):RepT w okT (.agg us) (.agg cs):=by
 have h1:(Value.agg cs).cells=cs:=rfl
 rw [h1] at h
 refine .agg (by have:=h.1;simpa using this) fun i d hi=>?_
 obtain ⟨u,h2,h3⟩:=h.2 i d hi
 have h4:cs[i]?=some u:=by simpa using h2
 rw [Array.getD_eq_getD_getElem?,h4]
 exact h3
theorem rvs_nil{R:AV→Value→Prop}:RV R [] []:=⟨rfl,fun i d hi=>by simp at hi⟩
theorem rvs_cons{R:AV→Value→Prop}{a:AV}{v:Value}{l:List AV}{vs:List Value}(h:R a v)(hl:RV R l vs):RV R (a::l) (v::vs):=⟨by simp [hl.1],fun i d hi=>by
 match i,hi with
 | 0,hi=>cases hi;exact ⟨v,rfl,h⟩
 | i+1,hi=>exact hl.2 i d (by simpa using hi)⟩
end
section
variable {w : World}
theorem cO_Rat: Tryz.prog.cellsOf 34=3:=by kernel_rfl
theorem cO_Rat_0: Tryz.prog.cellsOf 4=1:=by kernel_rfl
theorem cO_Rat_1: Tryz.prog.cellsOf 32=1:=by kernel_rfl
theorem cO_Rat_2: Tryz.prog.cellsOf 32=1:=by kernel_rfl
theorem op_Rat:Opens w 34 (fun N us=>∃x:Raw,us=rawC x∧okRaw N x):=fun H enc base spare held fuel cs x hx=>by
 obtain ⟨hl,hf⟩:=fldB Tryz.underlying34 hx
 rw [cO_Rat] at hl
 obtain ⟨n0,y0,g0,b0⟩:=hf 0 _ 4 0 rfl rfl rfl
 obtain ⟨a0,⟨x0,e0,p0⟩,r0⟩:=(op_boolO Tryz.underlying4) _ _ _ _ _ _ _ _ g0
 rw [cO_Rat_0] at r0
 subst e0
 obtain ⟨n1,y1,g1,b1⟩:=hf 1 _ 32 1 rfl rfl rfl
 obtain ⟨a1,⟨x1,e1,p1⟩,r1⟩:=op_natO _ _ _ _ _ _ _ _ g1
 rw [cO_Rat_1] at r1
 subst e1
 obtain ⟨n2,y2,g2,b2⟩:=hf 2 _ 32 2 rfl rfl rfl
 obtain ⟨a2,⟨x2,e2,p2⟩,r2⟩:=op_natO _ _ _ _ _ _ _ _ g2
 rw [cO_Rat_2] at r2
 subst e2
 exact ⟨_,⟨(⟨x0,x1,x2⟩:Raw),rfl,⟨okNat.up b1 p1,okNat.up b2 p2⟩⟩,rv_fld (o:=0) (n:=1) r0 (rv_fld (o:=1) (n:=1) r1 (rv_fld (o:=2) (n:=1) r2 (rv_end hl) (by omega)) (by omega)) (by omega)⟩
def okO_Term(N:Nat)(x:Int × Raw):Prop:=okInt .i64 N x.1∧okRaw N x.2
theorem okO_Term.up{N M:Nat}{x:Int × Raw}(hN:N≤M)(h:okO_Term N x):okO_Term M x:=⟨okInt.up hN h.1,okRaw.up hN h.2⟩
theorem cO_Term: Tryz.prog.cellsOf 57=4:=by kernel_rfl
theorem cO_Term_0: Tryz.prog.cellsOf 3=1:=by kernel_rfl
theorem cO_Term_1: Tryz.prog.cellsOf 34=3:=by kernel_rfl
theorem op_Term:Opens w 57 (fun N us=>∃x:Int × Raw,us=termRC x∧okO_Term N x):=fun H enc base spare held fuel cs x hx=>by
 obtain ⟨hl,hf⟩:=fldB Tryz.underlying57 hx
 rw [cO_Term] at hl
 obtain ⟨n0,y0,g0,b0⟩:=hf 0 _ 3 0 rfl rfl rfl
 obtain ⟨a0,⟨x0,e0,p0⟩,r0⟩:=(op_intO Tryz.underlying3) _ _ _ _ _ _ _ _ g0
 rw [cO_Term_0] at r0
 subst e0
 obtain ⟨n1,y1,g1,b1⟩:=hf 1 _ 34 1 rfl rfl rfl
 obtain ⟨a1,⟨x1,e1,p1⟩,r1⟩:=op_Rat _ _ _ _ _ _ _ _ g1
 rw [cO_Term_1] at r1
 subst e1
 exact ⟨_,⟨(⟨x0,x1⟩:Int × Raw),rfl,⟨okInt.up b0 p0,okRaw.up b1 p1⟩⟩,rv_fld (o:=0) (n:=1) r0 (rv_fld (o:=1) (n:=3) r1 (rv_end hl) (by omega)) (by omega)⟩
def okO_LTerm(N:Nat)(L:List (Int × Raw)):Prop:=L.length≤N∧∀x∈L,okO_Term N x
theorem okO_LTerm.up{N M:Nat}{L:List (Int × Raw)}(hN:N≤M)(h:okO_LTerm N L):okO_LTerm M L:=⟨Nat.le_trans h.1 hN,fun x hx=>okO_Term.up hN (h.2 x hx)⟩
theorem cO_LTermE: Tryz.prog.cellsOf 57=4:=by kernel_rfl
theorem op_LTerm:Opens w 43 (fun N us=>∃L:List (Int × Raw),us=[.sl 4 (L.map termRC)]∧okO_LTerm N L):=
 (op_list (α:=Int × Raw) (enc:=termRC) (ok:=okO_Term) Tryz.underlying43 cO_LTermE (by omega) op_Term (fun N M x h g=>okO_Term.up h g)).mono fun N us ⟨L,h1,h2,h3⟩=>⟨L,h1,h2,h3⟩
def okO_Affine(N:Nat)(x:FormR):Prop:=okO_LTerm N x.1∧okRaw N x.2
theorem okO_Affine.up{N M:Nat}{x:FormR}(hN:N≤M)(h:okO_Affine N x):okO_Affine M x:=⟨okO_LTerm.up hN h.1,okRaw.up hN h.2⟩
theorem cO_Affine: Tryz.prog.cellsOf 45=4:=by kernel_rfl
theorem cO_Affine_0: Tryz.prog.cellsOf 43=1:=by kernel_rfl
theorem cO_Affine_1: Tryz.prog.cellsOf 34=3:=by kernel_rfl
theorem op_Affine:Opens w 45 (fun N us=>∃x:FormR,us=formRC x∧okO_Affine N x):=fun H enc base spare held fuel cs x hx=>by
 obtain ⟨hl,hf⟩:=fldB Tryz.underlying45 hx
 rw [cO_Affine] at hl
 obtain ⟨n0,y0,g0,b0⟩:=hf 0 _ 43 0 rfl rfl rfl
 obtain ⟨a0,⟨x0,e0,p0⟩,r0⟩:=op_LTerm _ _ _ _ _ _ _ _ g0
 rw [cO_Affine_0] at r0
 subst e0
 obtain ⟨n1,y1,g1,b1⟩:=hf 1 _ 34 1 rfl rfl rfl
 obtain ⟨a1,⟨x1,e1,p1⟩,r1⟩:=op_Rat _ _ _ _ _ _ _ _ g1
 rw [cO_Affine_1] at r1
 subst e1
 exact ⟨_,⟨(⟨x0,x1⟩:FormR),rfl,⟨okO_LTerm.up b0 p0,okRaw.up b1 p1⟩⟩,rv_fld (o:=0) (n:=1) r0 (rv_fld (o:=1) (n:=3) r1 (rv_end hl) (by omega)) (by omega)⟩
def okO_LAffine(N:Nat)(L:List (FormR)):Prop:=L.length≤N∧∀x∈L,okO_Affine N x
theorem okO_LAffine.up{N M:Nat}{L:List (FormR)}(hN:N≤M)(h:okO_LAffine N L):okO_LAffine M L:=⟨Nat.le_trans h.1 hN,fun x hx=>okO_Affine.up hN (h.2 x hx)⟩
theorem cO_LAffineE: Tryz.prog.cellsOf 45=4:=by kernel_rfl
theorem op_LAffine:Opens w 22 (fun N us=>∃L:List (FormR),us=[.sl 4 (L.map formRC)]∧okO_LAffine N L):=
 (op_list (α:=FormR) (enc:=formRC) (ok:=okO_Affine) Tryz.underlying22 cO_LAffineE (by omega) op_Affine (fun N M x h g=>okO_Affine.up h g)).mono fun N us ⟨L,h1,h2,h3⟩=>⟨L,h1,h2,h3⟩
def okO_Graph(N:Nat)(x:TGraphR):Prop:=okInt .i64 N x.Inputs∧okO_LAffine N x.Units∧okO_LAffine N x.Outputs
theorem okO_Graph.up{N M:Nat}{x:TGraphR}(hN:N≤M)(h:okO_Graph N x):okO_Graph M x:=⟨okInt.up hN h.1,okO_LAffine.up hN h.2.1,okO_LAffine.up hN h.2.2⟩
theorem cO_Graph: Tryz.prog.cellsOf 24=3:=by kernel_rfl
theorem cO_Graph_0: Tryz.prog.cellsOf 3=1:=by kernel_rfl
theorem cO_Graph_1: Tryz.prog.cellsOf 22=1:=by kernel_rfl
theorem cO_Graph_2: Tryz.prog.cellsOf 22=1:=by kernel_rfl
theorem op_Graph:Opens w 24 (fun N us=>∃x:TGraphR,us=graphRC x∧okO_Graph N x):=fun H enc base spare held fuel cs x hx=>by
 obtain ⟨hl,hf⟩:=fldB Tryz.underlying24 hx
 rw [cO_Graph] at hl
 obtain ⟨n0,y0,g0,b0⟩:=hf 0 _ 3 0 rfl rfl rfl
 obtain ⟨a0,⟨x0,e0,p0⟩,r0⟩:=(op_intO Tryz.underlying3) _ _ _ _ _ _ _ _ g0
 rw [cO_Graph_0] at r0
 subst e0
 obtain ⟨n1,y1,g1,b1⟩:=hf 1 _ 22 1 rfl rfl rfl
 obtain ⟨a1,⟨x1,e1,p1⟩,r1⟩:=op_LAffine _ _ _ _ _ _ _ _ g1
 rw [cO_Graph_1] at r1
 subst e1
 obtain ⟨n2,y2,g2,b2⟩:=hf 2 _ 22 2 rfl rfl rfl
 obtain ⟨a2,⟨x2,e2,p2⟩,r2⟩:=op_LAffine _ _ _ _ _ _ _ _ g2
 rw [cO_Graph_2] at r2
 subst e2
 exact ⟨_,⟨(⟨x0,x1,x2⟩:TGraphR),rfl,⟨okInt.up b0 p0,okO_LAffine.up b1 p1,okO_LAffine.up b2 p2⟩⟩,rv_fld (o:=0) (n:=1) r0 (rv_fld (o:=1) (n:=1) r1 (rv_fld (o:=2) (n:=1) r2 (rv_end hl) (by omega)) (by omega)) (by omega)⟩
def okO_LRat(N:Nat)(L:List (Raw)):Prop:=L.length≤N∧∀x∈L,okRaw N x
theorem okO_LRat.up{N M:Nat}{L:List (Raw)}(hN:N≤M)(h:okO_LRat N L):okO_LRat M L:=⟨Nat.le_trans h.1 hN,fun x hx=>okRaw.up hN (h.2 x hx)⟩
theorem cO_LRatE: Tryz.prog.cellsOf 34=3:=by kernel_rfl
theorem op_LRat:Opens w 29 (fun N us=>∃L:List (Raw),us=[.sl 3 (L.map rawC)]∧okO_LRat N L):=
 (op_list (α:=Raw) (enc:=rawC) (ok:=okRaw) Tryz.underlying29 cO_LRatE (by omega) op_Rat (fun N M x h g=>okRaw.up h g)).mono fun N us ⟨L,h1,h2,h3⟩=>⟨L,h1,h2,h3⟩
end
theorem gT: Tryz.prog.globalNamed "internal/strconv.uint64pow10"=some 0:=by kernel_rfl
theorem tT:(Tryz.prog.globals[0]?).map (·.type)=some 166:=by kernel_rfl
theorem gtab_pow{g:Nat}{cs:List AV}(h:gtab g=some cs):g= 0∧cs=Lib.pow10Tab.map fun z=>AV.lit (.int .u64 z):=by
 unfold gtab at h
 split at h
 ·rename_i e
  subst e
  cases h
  exact ⟨rfl,rfl⟩
 ·cases h
theorem glob_laid {w:World} (hT:Lib.TabIs Tryz.prog w "internal/strconv.uint64pow10" .u64 Lib.pow10Tab):Glob w okT:=by
 refine ⟨fun g cs hg=>?_,fun g hg=>?_,fun g hg=>absurd hg (by simp [gint])⟩
 ·obtain ⟨rfl,rfl⟩:=gtab_pow hg
  unfold Lib.TabIs World.var? at hT
  rw [gT] at hT
  simp only [Option.bind_some] at hT
  split at hT
  ·rename_i c t fr hc
   cases hT
   have key:∀(j:Nat) (d:AV),(Lib.pow10Tab.map fun z=>AV.lit (.int .u64 z))[j]?=some d→∃v,w.cell? ⟨0,0+j,none⟩=some v∧d=.lit v:=fun j d hj=>by
    rw [List.getElem?_map] at hj
    obtain ⟨z,hz,rfl⟩:=Option.map_eq_some_iff.1 hj
    refine ⟨.int .u64 z,?_,rfl⟩
    rw [Nat.zero_add]
    simp only [World.cell?,hc]
    simp [hz]
   refine ⟨.mem (fun j d hj=>?_) (fun j d hj=>?_),t,?_⟩
   ·obtain ⟨v,h1,_⟩:=key j d hj
    exact ⟨trivial,by rw [h1];rfl⟩
   ·obtain ⟨v,h1,rfl⟩:=key j d hj
    rw [h1]
    exact .lit _
   ·simp [World.shape?,hc]
  ·cases hT
 ·exact absurd hg (by simp [gerr])
theorem laid_glob {W:World} (h:laidMet Tryz.prog [("math/bits.deBruijn32tab",Rows.laid_math_bits_deBruijn32tab),("math/bits.deBruijn64tab",Rows.laid_math_bits_deBruijn64tab),("internal/strconv.uint64pow10",Rows.laid_internal_strconv_uint64pow10)] W):Glob W okT:=by
 have h3:=laidMet.tail (laidMet.tail h)
 have hT:Lib.TabIs Tryz.prog W "internal/strconv.uint64pow10" .u64 Lib.pow10Tab:=Lib.tabIs_of_head gT tT Tryz.underlying166 Tryz.underlying94 (by kernel_rfl) (by kernel_rfl) h3
 exact glob_laid hT
theorem true_end{w:World}{ok:Nat→Nat→Prop}{e:Ending}{w':World}(h:∃v,e=.returned v∧RepT w' (okN ok w w') (.lit (.bool true)) v∧Below w.heap.size w w'):RetB true w e w':=by
 obtain ⟨v,rfl,h2,h3⟩:=h
 cases h2
 exact ⟨rfl,h3⟩
theorem okF_lim7{N:Nat}{f:FormR}(h:okO_Affine N f):LimF f:=⟨fun t ht=>⟨(h.1.2 t ht).2.1.1,(h.1.2 t ht).2.2.1⟩,h.2.1.1,h.2.2.1⟩
theorem okG_lim7{N:Nat}{g:TGraphR}(h:okO_Graph N g):Lim7 g:=⟨fun f hf=>okF_lim7 (h.2.1.2 f hf),fun f hf=>okF_lim7 (h.2.2.2 f hf)⟩
end
section
open Go.RowKit
noncomputable def vs_C5:Code:=(loopsOf (bodyOf Tryz.f68)).getD 0 .skip
noncomputable def vs_C9:Code:=(loopsOf (bodyOf Tryz.f68)).getD 1 .skip
def vs_h5(a0:TGraph)(a1:List Rat)(out_5:List Rat)(i_5:Nat):St:=
 ⟨[(1,.sl 3 (a1.map ratC)),(2,.ptr 0 0),(6,.own 1 out_5.length),(7,.lit (.int .i64 (i_5:Int)))],
  [(0,some (.box 24 [.lit (.int .i64 (a0.Inputs)),.sl 4 (a0.Units.map formC),.sl 4 (a0.Outputs.map formC)] false)),
   (1,some (.row 34 3 (out_5.map ratC) 0))],2⟩
def vs_h9(a0:TGraph)(out_9:List Rat)(i_9:Nat)(fz_9:Nat):St:=
 ⟨[(2,.ptr 0 0),(6,.own 1 out_9.length),(8,.lit (.int .i64 (i_9:Int)))],
  [(0,some (.box 24 [.lit (.int .i64 (a0.Inputs)),.sl 4 (a0.Units.map formC),.sl 4 (a0.Outputs.map formC)] false)),
   (1,some (.row 34 3 (out_9.map ratC) fz_9))],2⟩
def vs_o5a(a0:TGraph)(out_5:List Rat):St:=
 ⟨[(2,.ptr 0 0),(6,.own 1 out_5.length)],
  [(0,some (.box 24 [.lit (.int .i64 (a0.Inputs)),.sl 4 (a0.Units.map formC),.sl 4 (a0.Outputs.map formC)] false)),
   (1,some (.row 34 3 (out_5.map ratC) 0))],2⟩
def vs_o9a(out_9:List Rat)(fz_9:Nat):St:=
 ⟨[(6,.own 0 out_9.length)],
  [(0,some (.row 34 3 (out_9.map ratC) fz_9))],1⟩
section
variable{n:Nat}{x3:Rat}{a1:List Rat}{out_5:List Rat}{a0:TGraph}{i_5:Nat}{q3:Rat}{F3:List (Int × Rat)}{i_9:Nat}{fz_9:Nat}{out_9:List Rat}{r8:Rat}{r10:Rat}{r9:Int}{r:Bool}
theorem vs_r5_1(C1:(i_5:Int)<(a1.length:Int))(E2:a1[i_5]?=some x3)(B3a:H x3≤17179869184)(M4:out_5.length+1≤100000000)(W5:InI ((i_5:Int)+1)):
  Cont 0 (exec Tryz.prog (tab (n+3)) 0 59 (livesOf 68) big vs_C5) (livesOf 68 5) (vs_h5 a0 a1 out_5 i_5) (vs_h5 a0 a1 (out_5++[x3]) (i_5+1)):=by
 have C1_:i_5<a1.length:=by omega
 obtain ⟨EL2,EG2⟩:=List.getElem?_eq_some_iff.1 E2
 have K3:=r_canon (p:=x3) B3a
 have M4_:∀b,b≤10000→roomy (out_5.length+1) b=true:=fun b hb=>roomy_s M4 hb
 have W5_:IntKind.i64.wrap ((i_5:Int)+1)=(i_5:Int)+1:=wr64 W5.1 W5.2
 unfold Cont
 simp+decide [vs_h5,loopsOf, Tryz.f68,vs_C5,C1,C1_,EL2,EG2,E2,K3,M4_,W5_]
theorem vs_x5_1(C1:¬(i_5:Int)<(a1.length:Int)):
  Leave 0 (exec Tryz.prog (tab (n+3)) 0 59 (livesOf 68) big vs_C5) (livesOf 68 (outOf 5)) (vs_h5 a0 a1 out_5 i_5) (.exit 0) (vs_o5a a0 out_5):=by
 have C1_:¬i_5<a1.length:=by omega
 unfold Leave
 simp+decide [vs_h5,loopsOf, Tryz.f68,vs_o5a,vs_C5,C1,C1_]
theorem vs_r9_1(C1:(i_9:Int)<(a0.Units.length:Int))(E2:a0.Units[i_9]?=some (F3,q3))(K3:run (n+2) 69 [formV (F3,q3),.sl 3 (out_9.map ratC)]=some (.tup [ratV r8,.lit (.int .i64 r9)]))(K4:run (n+2) 38 [ratV r8,.agg [.lit (.bool false),.sl 1 [],.sl 1 []]]=some (ratV r10))(M5:out_9.length+1≤100000000)(W6:InI ((i_9:Int)+1)):
  Cont 0 (exec Tryz.prog (tab (n+3)) 0 59 (livesOf 68) big vs_C9) (livesOf 68 9) (vs_h9 a0 out_9 i_9 fz_9) (vs_h9 a0 (out_9++[r10]) (i_9+1) out_9.length):=by
 have C1_:i_9<a0.Units.length:=by omega
 obtain ⟨EL2,EG2⟩:=List.getElem?_eq_some_iff.1 E2
 simp only [ratV,formV] at K3
 simp only [ratV] at K4
 have M5_:∀b,b≤10000→roomy (out_9.length+1) b=true:=fun b hb=>roomy_s M5 hb
 have W6_:IntKind.i64.wrap ((i_9:Int)+1)=(i_9:Int)+1:=wr64 W6.1 W6.2
 unfold Cont
 simp+decide [vs_h9,loopsOf, Tryz.f68,vs_C9,C1,C1_,EL2,EG2,E2,K3,K4,M5_,W6_]
theorem vs_x9_1(C1:¬(i_9:Int)<(a0.Units.length:Int)):
  Leave 0 (exec Tryz.prog (tab (n+3)) 0 59 (livesOf 68) big vs_C9) (livesOf 68 (outOf 9)) (vs_h9 a0 out_9 i_9 fz_9) (.exit 2) (vs_o9a out_9 fz_9):=by
 have C1_:¬i_9<a0.Units.length:=by omega
 unfold Leave
 simp+decide [vs_h9,loopsOf, Tryz.f68,vs_o9a,vs_C9,C1,C1_]
theorem vs_f3(K1:run (n+2) 21 [graphV a0]=some (.lit (.bool r)))(C2:r=true)(C3:(a1.length:Int)=a0.Inputs)(L4:loopG Tryz.prog (tab (n+3)) 0 59 (livesOf 68) 5 vs_C5 (vs_h5 a0 a1 [] 0)=some (.exit 0,vs_o5a a0 out_5))(L5:loopG Tryz.prog (tab (n+3)) 0 59 (livesOf 68) 9 vs_C9 (vs_h9 a0 out_5 0 0)=some (.exit 2,vs_o9a out_9 fz_9)):
  run (n+3) 68 [graphV a0,.sl 3 (a1.map ratC)]=some (.tup [.sl 3 (out_9.map ratC),.lit (.int .i64 0)]):=by
 simp only [graphV] at K1
 have C3_:((a1.length:Int)==a0.Inputs)=true:=by rw [C3];simp
 have C3_n:((a1.length:Int) !=a0.Inputs)=false:=by rw [C3];simp
 unfold run fnP
 simp+decide [Tryz.f68,K1,C2,C3_,C3_n]
 rw [loopX_G (C':=vs_C5) (e:=(vs_h5 a0 a1 [] 0)) ?_ ?_,L4]
 rotate_left
 ·kernel_rfl
 ·simp+decide [vs_h5,K1,C2,C3_,C3_n]
 simp+decide [vs_o5a,K1,C2,C3_,C3_n]
 rw [loopX_G (C':=vs_C9) (e:=(vs_h9 a0 out_5 0 0)) ?_ ?_,L5]
 rotate_left
 ·kernel_rfl
 ·simp+decide [vs_h9,K1,C2,C3_,C3_n]
 simp+decide [vs_o9a,K1,C2,C3_,C3_n]
end
noncomputable def fm_C6:Code:=(loopsOf (bodyOf Tryz.f46)).getD 0 .skip
def fm_h6(a1:List Form)(r:List Rat)(out_6:List Rat)(i_6:Nat):St:=
 ⟨[(1,.sl 4 (a1.map formC)),(8,.sl 3 (r.map ratC)),(10,.own 0 out_6.length),(11,.lit (.int .i64 (i_6:Int)))],
  [(0,some (.row 34 3 (out_6.map ratC) 0))],1⟩
def fm_o6a(out_6:List Rat):St:=
 ⟨[(10,.own 0 out_6.length)],
  [(0,some (.row 34 3 (out_6.map ratC) 0))],1⟩
section
variable{n:Nat}{a1:List Form}{out_6:List Rat}{q3:Rat}{i_6:Nat}{F3:List (Int × Rat)}{r7:Rat}{r8:Int}{r:List Rat}{r2:Int}{a0:TGraph}{a2:List Rat}
theorem fm_r6_1(C1:(i_6:Int)<(a1.length:Int))(E2:a1[i_6]?=some (F3,q3))(K3:run (n+3) 69 [formV (F3,q3),.sl 3 (r.map ratC)]=some (.tup [ratV r7,.lit (.int .i64 r8)]))(M4:out_6.length+1≤100000000)(W5:InI ((i_6:Int)+1)):
  Cont 0 (exec Tryz.prog (tab (n+4)) 0 43 (livesOf 46) big fm_C6) (livesOf 46 6) (fm_h6 a1 r out_6 i_6) (fm_h6 a1 r (out_6++[r7]) (i_6+1)):=by
 have C1_:i_6<a1.length:=by omega
 obtain ⟨EL2,EG2⟩:=List.getElem?_eq_some_iff.1 E2
 simp only [ratV,formV] at K3
 have M4_:∀b,b≤10000→roomy (out_6.length+1) b=true:=fun b hb=>roomy_s M4 hb
 have W5_:IntKind.i64.wrap ((i_6:Int)+1)=(i_6:Int)+1:=wr64 W5.1 W5.2
 unfold Cont
 simp+decide [fm_h6,loopsOf, Tryz.f46,fm_C6,C1,C1_,EL2,EG2,E2,K3,M4_,W5_]
theorem fm_x6_1(C1:¬(i_6:Int)<(a1.length:Int)):
  Leave 0 (exec Tryz.prog (tab (n+4)) 0 43 (livesOf 46) big fm_C6) (livesOf 46 (outOf 6)) (fm_h6 a1 r out_6 i_6) (.exit 0) (fm_o6a out_6):=by
 have C1_:¬i_6<a1.length:=by omega
 unfold Leave
 simp+decide [fm_h6,loopsOf, Tryz.f46,fm_o6a,fm_C6,C1,C1_]
theorem fm_f2(K1:run (n+3) 68 [graphV a0,.sl 3 (a2.map ratC)]=some (.tup [.sl 3 (r.map ratC),.lit (.int .i64 r2)]))(C2:r2=0)(L3:loopG Tryz.prog (tab (n+4)) 0 43 (livesOf 46) 6 fm_C6 (fm_h6 a1 r [] 0)=some (.exit 0,fm_o6a out_6)):
  run (n+4) 46 [graphV a0,.sl 4 (a1.map formC),.sl 3 (a2.map ratC)]=some (.tup [.sl 3 (out_6.map ratC),.lit (.int .i64 0)]):=by
 simp only [graphV] at K1
 have C2_:(r2==0)=true:=by rw [C2];simp
 have C2_n:(r2 !=0)=false:=by rw [C2];simp
 unfold run fnP
 simp+decide [Tryz.f46,K1,C2_,C2_n]
 rw [loopX_G (C':=fm_C6) (e:=(fm_h6 a1 r [] 0)) ?_ ?_,L3]
 rotate_left
 ·kernel_rfl
 ·simp+decide [fm_h6,K1,C2_,C2_n]
 simp+decide [fm_o6a,K1,C2_,C2_n]
end
end
section
open Go.RowKit
attribute [local irreducible] run runL loopG exec
def max0(q:Rat):Rat:=if 0≤q then q else 0
theorem max0_H(q:Rat):H (max0 q)≤H q:=by
 unfold max0
 split
 ·exact Nat.le_refl _
 ·have:H 0≤1:=by decide
  have h2:H 0=1∨H 0=0:=by decide
  unfold H
  have:(lmb (q.den)).length ≥ 1:=by
   have:=q.den_pos
   rcases Nat.eq_zero_or_pos (lmb q.den).length with h|h
   ·have e:lmb q.den=[]:=List.eq_nil_of_length_eq_zero h
    have e2:=val_lmb q.den
    rw [e] at e2
    have:q.den=0:=by rw [←e2];rfl
    omega
   ·exact h
  have h3:(max (lmb (0:Rat).num.natAbs).length (lmb (0:Rat).den).length)≤1:=by decide
  omega
theorem max0_c{n:Nat}{q:Rat}(hq:H q≤17179869184):run n 38 [ratV q,.agg [.lit (.bool false),.sl 1 [],.sl 1 []]]=some (ratV (max0 q)):=by
 have e:ratV 0=.agg [.lit (.bool false),.sl 1 [],.sl 1 []]:=by simp
 have e2:q-0=q:=by grind
 rw [←e]
 have h0:H 0≤17179869184:=by decide
 unfold max0
 split
 ·rename_i h
  exact mx_f1 hq h0 (by rw [e2];exact sgq_nonneg.2 h)
 ·rename_i h
  exact mx_f2 hq h0 (by rw [e2];exact fun h2=>h (sgq_nonneg.1 h2))
def valV(U:List Form)(X:List Rat):List Rat:=foldI (fun _ out f=>out++[max0 (evV out f)]) 0 X U
end
section
open Go.RowKit
theorem ou_f1{n:Nat}{a0:TGraph}{a1:List Rat}{r:List Rat}{r2:Int}(K1:run (n+4) 46 [graphV a0,.sl 4 (a0.Outputs.map formC),.sl 3 (a1.map ratC)]=some (.tup [.sl 3 (r.map ratC),.lit (.int .i64 r2)])):
  run (n+5) 23 [graphV a0,.sl 3 (a1.map ratC)]=some (.tup [.sl 3 (r.map ratC),.lit (.int .i64 r2)]):=by
 simp only [graphV] at K1
 unfold run fnP
 simp+decide [Tryz.f23,K1]
end
section
open Go.RowKit
attribute [local irreducible] run runL loopG exec
theorem evV_eq(X:List Rat)(f:Form):evV X f=f.2+evS X f.1:=evS_fold X f.1 f.2
theorem evS_ext{X Y:List Rat}:∀{F:List (Int × Rat)},(∀t∈F,X.getD t.1.toNat 0=Y.getD t.1.toNat 0)→evS X F=evS Y F
 | [],_=>rfl
 | t::F,h=>by
   unfold evS
   rw [h t (by simp),evS_ext fun u hu=>h u (by simp [hu])]
theorem evV_app{X R:List Rat}{f:Form}(h:InR X.length f.1):evV (X++R) f=evV X f:=by
 rw [evV_eq,evV_eq,evS_ext fun t ht=>?_]
 have:=h t ht
 rw [List.getD_eq_getElem?_getD,List.getD_eq_getElem?_getD,List.getElem?_append_left (by omega)]
theorem valV_step{X:List Rat}{U:List Form}{f:Form}:valV (f::U) X=valV U (X++[max0 (evV X f)]):=by
 have key:∀(U:List Form) (i j:Nat) (o:List Rat),foldI (fun _ out f=>out++[max0 (evV out f)]) i o U=foldI (fun _ out f=>out++[max0 (evV out f)]) j o U:=fun U=>by
  induction U with
  | nil=>intro i j o;rfl
  | cons f U ih=>intro i j o;exact ih _ _ _
 exact key U 1 0 _
theorem valV_ext:∀(U:List Form) (X:List Rat),∃R,valV U X=X++R∧R.length=U.length
 | [],X=>⟨[],by simp [valV,foldI],rfl⟩
 | f::U,X=>by
   obtain ⟨R,h,hl⟩:=valV_ext U (X++[max0 (evV X f)])
   exact ⟨max0 (evV X f)::R,by rw [valV_step,h,List.append_assoc];rfl,by simp [hl]⟩
def Back(k:Nat)(U:List Form):Prop:=∀i f,U[i]?=some f→InR (k+i) f.1
theorem Back.tail{k:Nat}{f:Form}{U:List Form}(h:Back k (f::U)):Back (k+1) U:=fun i g hg=>by
 have:=h (i+1) g (by simpa using hg)
 rwa [show k+(i+1)=k+1+i from by omega] at this
theorem Back.head{k:Nat}{f:Form}{U:List Form}(h:Back k (f::U)):InR k f.1:=h 0 f rfl
theorem OkGr.out{g:TGraph}(h:OkGr g){f:Form}(hf:f∈g.Outputs):∀t∈f.1,0≤t.1∧t.1<g.Inputs+(g.Units.length:Int):=fun t ht=>by
 obtain ⟨j,hj⟩:=List.mem_iff_getElem?.1 ht
 have:=h.ou f hf j (List.getElem?_eq_some_iff.1 hj).1 t.1 t.2 hj
 exact ⟨this.1,this.2.1⟩
theorem GrOk.lu{g:TGraph}(h:GrOk g):∀f∈g.Units,f.1.length≤7:=fun f hf=>by
 obtain ⟨i,hi⟩:=List.mem_iff_getElem?.1 hf
 have hlt:=(List.getElem?_eq_some_iff.1 hi).1
 have:=(h.un i f hi).l.len
 have:=h.i1
 have:=h.u
 omega
theorem GrOk.lo{g:TGraph}(h:GrOk g):∀f∈g.Outputs,f.1.length≤7:=fun f hf=>by
 have:=(h.ou f hf).l.len
 have:=h.i1
 have:=h.u
 omega
theorem getD_app{X:List Rat}{x:Rat}{k:Nat}:(X++[x]).getD k 0=if k=X.length then x else X.getD k 0:=by
 rw [List.getD_eq_getElem?_getD,List.getD_eq_getElem?_getD]
 by_cases h:k<X.length
 ·rw [List.getElem?_append_left h,if_neg (by omega)]
 ·rw [List.getElem?_append_right (by omega)]
  by_cases e:k=X.length
  ·subst e;simp
  ·rw [if_neg e,List.getElem?_eq_none (by rw [List.length_singleton];omega),List.getElem?_eq_none (by omega)]
theorem SmF.srt{N:Nat}{f:Form}(h:SmF N f):Srt f.1:=(h.ok (vars:=N) (Int.le_refl _)).srt.1
theorem SmF.inr{N:Nat}{f:Form}(h:SmF N f):InR N f.1:=(h.ok (vars:=N) (Int.le_refl _)).srt.2
end
section
open Go.RowKit
end
section
open Go.RowKit
attribute [local irreducible] run runL loopG exec
theorem val_get{U:List Form}{X:List Rat}(hB:Back X.length U):(valV U X).length=X.length+U.length∧(∀k,k<X.length→(valV U X).getD k 0=X.getD k 0)∧∀i f,U[i]?=some f→(valV U X).getD (X.length+i) 0=max0 (evV (valV U X) f):=by
 induction U generalizing X with
 | nil=>exact ⟨rfl,fun k hk=>rfl,fun i f h=>by simp at h⟩
 | cons f U ih=>
   have hb:Back (X++[max0 (evV X f)]).length U:=by rw [List.length_append];exact hB.tail
   obtain ⟨h1,h2,h3⟩:=ih hb
   rw [List.length_append,List.length_singleton] at h1 h2 h3
   rw [valV_step]
   refine ⟨by rw [h1,List.length_cons];omega,fun k hk=>?_,fun i g hg=>?_⟩
   ·rw [h2 k (by omega),getD_app,if_neg (by omega)]
   ·cases i with
    | zero=>
      rw [List.getElem?_cons_zero] at hg
      cases hg
      rw [Nat.add_zero,h2 _ (by omega),getD_app,if_pos rfl]
      obtain ⟨R,hR,_⟩:=valV_ext U (X++[max0 (evV X f)])
      rw [hR,List.append_assoc,evV_app hB.head]
    | succ i=>
      rw [List.getElem?_cons_succ] at hg
      have:=h3 i g hg
      rwa [show X.length+1+i=X.length+(i+1) from by omega] at this
structure PlI (m:Nat) (ord:List Int) (k:Nat) (P:List Int):Prop where
 len:P.length=m
 cnt:P.count (-1)+k=m
 val:∀(i:Nat) (y:Int),P[i]?=some y→y=-1∨∃j:Nat,j<k∧y=(j:Int)∧ord[j]?=some (i:Int)
 get:∀(j:Nat) (x:Int),j<k→ord[j]?=some x→0≤x∧x<(m:Int)∧P[x.toNat]?=some (j:Int)
theorem PlI.step{m:Nat}{ord:List Int}{k:Nat}{P:List Int}{x y:Int}(h:PlI m ord k P)(hx:ord[k]?=some x)(h0:0≤x)(h1:x<(m:Int))(hy:P[x.toNat]?=some y)(hn:¬0≤y):PlI m ord (k+1) (P.set x.toNat (k:Int)):=by
 have hlt:=(List.getElem?_eq_some_iff.1 hy).1
 have ey:y=-1:=by
  rcases h.val _ _ hy with e|⟨j,_,e,_⟩
  ·exact e
  ·omega
 subst ey
 have hc:=h.cnt
 refine ⟨by rw [List.length_set];exact h.len,?_,fun i z hz=>?_,fun j z hj hz=>?_⟩
 ·have hm:-1∈P:=List.mem_of_getElem? hy
  have hp:=List.count_pos_iff.2 hm
  rw [List.count_set hlt]
  have e1:P[x.toNat]=-1:=(List.getElem?_eq_some_iff.1 hy).2
  have e2:((k:Int)==-1)=false:=by simpa using (by omega:(k:Int)≠-1)
  rw [e1,e2]
  simp
  omega
 ·rw [List.getElem?_set] at hz
  by_cases e:x.toNat=i
  ·rw [if_pos e,if_pos (by omega)] at hz
   cases hz
   exact .inr ⟨k,by omega,rfl,by rw [hx];congr 1;omega⟩
  ·rw [if_neg e] at hz
   rcases h.val _ _ hz with a|⟨j,a,b,c⟩
   ·exact .inl a
   ·exact .inr ⟨j,by omega,b,c⟩
 ·by_cases e:j=k
  ·subst e
   rw [hx] at hz;cases hz
   exact ⟨h0,h1,by rw [List.getElem?_set,if_pos rfl,if_pos hlt]⟩
  ·obtain ⟨a,b,c⟩:=h.get j z (by omega) hz
   refine ⟨a,b,?_⟩
   rw [List.getElem?_set]
   by_cases e2:x.toNat=z.toNat
   ·rw [e2,c] at hy
    cases hy
   ·rw [if_neg e2];exact c
structure Perm2 (m:Nat) (ord P:List Int):Prop where
 len:P.length=m
 val:∀i:Nat,i<m→∃j:Nat,j<m∧P[i]?=some (j:Int)∧ord[j]?=some (i:Int)
 get:∀(j:Nat) (x:Int),j<m→ord[j]?=some x→0≤x∧x<(m:Int)∧P[x.toNat]?=some (j:Int)
theorem valV_nil(X:List Rat):valV [] X=X:=rfl
theorem valV_app:∀(A B:List Form) (X:List Rat),valV (A++B) X=valV B (valV A X)
 | [],_,_=>rfl
 | f::A,B,X=>by rw [List.cons_append,valV_step,valV_step,valV_app A B]
theorem valV_len(U:List Form)(X:List Rat):(valV U X).length=X.length+U.length:=by
 obtain ⟨R,h,hl⟩:=valV_ext U X
 rw [h,List.length_append,hl]
theorem er_app(P R:List Rat)(x:Rat):(P++x::R).eraseIdx P.length=P++R:=by
 rw [List.eraseIdx_append_of_length_le (Nat.le_refl _),Nat.sub_self];rfl
theorem getD_mid(P R:List Rat)(x:Rat):(P++x::R).getD P.length 0=x:=by
 rw [List.getD_eq_getElem?_getD,List.getElem?_append_right (Nat.le_refl _),Nat.sub_self];rfl
theorem evV_bef{P R:List Rat}{b:Form}(hb:Bef (P.length:Int) b):evV (P++R) b=evV P b:=evV_ap fun t ht=>hb.r t ht
theorem val_rp{P:List Rat}{x:Rat}{b:Form}(hb:Bef (P.length:Int) b):∀(B:List Form) (R:List Rat),(∀(i:Nat) (f:Form),B[i]?=some f→Srt f.1∧InR (P.length+1+R.length+i) f.1)→(∀f∈B,cof f.1 (P.length:Int)=0∨x=evV P b)→
  valV (B.map (rpF (P.length:Int) b)) (P++R)=(valV B (P++x::R)).eraseIdx P.length
 | [],R,_,_=>by rw [List.map_nil,valV_nil,valV_nil,er_app]
 | f::B,R,h,hc=>by
   obtain ⟨a1,a2⟩:=h 0 f rfl
   have e:evV (P++R) (rpF (P.length:Int) b f)=evV (P++x::R) f:=by
    have e2:=evV_rp (X:=P++x::R) (v:=(P.length:Int)) (b:=b) (f:=f) a1 (fun t ht=>(a2 t ht).1) hb (by omega) (by
     rcases hc f (by simp) with c|c
     ·exact .inl c
     ·refine .inr ?_
      rw [Int.toNat_natCast,getD_mid,evV_bef hb];exact c)
    rwa [Int.toNat_natCast,er_app] at e2
   rw [List.map_cons,valV_step,valV_step,e,List.append_assoc,List.append_assoc,List.cons_append]
   refine val_rp hb B (R++[max0 (evV (P++x::R) f)]) (fun i g hg=>?_) fun g hg=>hc g (by simp [hg])
   obtain ⟨b1,b2⟩:=h (i+1) g (by simpa using hg)
   refine ⟨b1,?_⟩
   rw [List.length_append,List.length_singleton]
   have e3:P.length+1+(R.length+1)+i=P.length+1+R.length+(i+1):=by omega
   rw [e3];exact b2
def outV(g:TGraph)(X:List Rat):List Rat:=g.Outputs.map fun f=>evV (valV g.Units X) f
theorem outV_rp{g:TGraph}{j:Nat}{b f:Form}{X:List Rat}(h:SG g)(hf:g.Units[j]?=some f)(hb:ByOk g j b)(hX:(X.length:Int)=g.Inputs)(hv:(∀i f2,j<i→g.Units[i]?=some f2→cof f2.1 (g.Inputs+(j:Int))=0)∧(∀f2∈g.Outputs,cof f2.1 (g.Inputs+(j:Int))=0)∨max0 (evV (valV (g.Units.take j) X) f)=evV (valV (g.Units.take j) X) b):
  outV (rpG g j b) X=outV g X:=by
 have hj:=(List.getElem?_eq_some_iff.1 hf).1
 have hP:=valV_len (g.Units.take j) X
 rw [List.length_take,Nat.min_eq_left (by omega)] at hP
 generalize hPe:valV (g.Units.take j) X=P at hP hv
 have hPI:(P.length:Int)=g.Inputs+(j:Int):=by omega
 have bf:=hb.bef h.i0
 rw [←hPI] at bf hv
 have hU:g.Units=g.Units.take j++f::g.Units.drop (j+1):=by
  obtain ⟨h1,h2⟩:=List.getElem?_eq_some_iff.1 hf
  rw [←h2,List.getElem_cons_drop,List.take_append_drop]
 have hV:valV g.Units X=valV (g.Units.drop (j+1)) (P++[max0 (evV P f)]):=by
  rw [hU,valV_app,hPe,valV_step,←hU]
 generalize hx:max0 (evV P f)=x at hV hv
 have hW:valV (rpG g j b).Units X=(valV g.Units X).eraseIdx P.length:=by
  show valV (g.Units.take j++(g.Units.drop (j+1)).map (rpF (g.Inputs+(j:Int)) b)) X=_
  rw [valV_app,hPe,←hPI,hV]
  have:=val_rp (x:=x) bf (g.Units.drop (j+1)) [] (fun i f2 hf2=>?_) fun f2 hf2=>?_
  ·rwa [List.append_nil] at this
  ·rw [List.getElem?_drop] at hf2
   obtain ⟨a1,a2⟩:=h.us _ _ hf2
   refine ⟨a1,?_⟩
   have e:P.length+1+([]:List Rat).length+i=g.Inputs.toNat+(j+1+i):=by
    rw [List.length_nil];omega
   rw [e];exact a2
  ·rcases hv with ⟨v1,_⟩|v1
   ·obtain ⟨i,hi⟩:=List.mem_iff_getElem?.1 hf2
    rw [List.getElem?_drop] at hi
    exact .inl (v1 _ _ (by omega) hi)
   ·exact .inr v1
 obtain ⟨R,hR,_⟩:=valV_ext (g.Units.drop (j+1)) (P++[x])
 rw [←hV,List.append_assoc,List.singleton_append] at hR
 unfold outV
 rw [hW]
 show ((g.Outputs.map (rpF (g.Inputs+(j:Int)) b)).map _)=_
 rw [List.map_map]
 refine List.map_congr_left fun o ho=>?_
 obtain ⟨a1,a2⟩:=h.os o ho
 show evV _ (rpF (g.Inputs+(j:Int)) b o)=_
 rw [←hPI]
 have e2:=evV_rp (X:=valV g.Units X) (v:=(P.length:Int)) (b:=b) (f:=o) a1 (fun t ht=>(a2 t ht).1) bf (by omega) (by
  rcases hv with ⟨_,v2⟩|v2
  ·exact .inl (v2 o ho)
  ·refine .inr ?_
   rw [Int.toNat_natCast,hR,getD_mid,evV_bef bf];exact v2)
 rwa [Int.toNat_natCast] at e2
theorem max0_max(q:Rat):max0 q=max q 0:=by
 unfold max0
 rw [Rat.max_def]
 split <;>split <;>grind
theorem outV_co:∀(n:Nat) {g:TGraph} {j:Nat} {X:List Rat},SG g→(X.length:Int)=g.Inputs→outV (cnL n g j) X=outV g X
 | 0,_,_,_,_,_=>rfl
 | n+1,g,j,X,h,hX=>by
   rw [cnL]
   cases e:g.Units[j]? with
   | none=>rfl
   | some f=>
     dsimp only
     have hj:=(List.getElem?_eq_some_iff.1 e).1
     split
     ·rename_i c
      rw [outV_co n (rpG_sg h hj (coB_ok h e)) hX]
      refine outV_rp h e (coB_ok h e) hX (.inr ?_)
      rw [evV_s,evV_s,c]
      show max0 (f.2+0)=max f.2 0+0
      rw [max0_max];grind
     ·exact outV_co n h hX
theorem back_take{U:List Form}{I j:Nat}(h:∀(i:Nat) (f:Form),U[i]?=some f→Srt f.1∧InR (I+i) f.1):Back I (U.take j):=fun i f hf=>by
 rw [List.getElem?_take] at hf
 split at hf
 ·exact (h i f hf).2
 ·cases hf
theorem outV_du:∀(n:Nat) {g:TGraph} {j:Nat} {X:List Rat},SG g→(X.length:Int)=g.Inputs→outV (duL n g j) X=outV g X
 | 0,_,_,_,_,_=>rfl
 | n+1,g,j,X,h,hX=>by
   rw [duL]
   cases e:g.Units[j]? with
   | none=>rfl
   | some f=>
     dsimp only
     have hj:=(List.getElem?_eq_some_iff.1 e).1
     split
     ·rename_i c
      rw [outV_du n (rpG_sg h hj (duB_ok h c)) hX]
      refine outV_rp h e (duB_ok h c) hX (.inr ?_)
      obtain ⟨s1,s2,_⟩:=fstI_spec e
      have hl:X.length=g.Inputs.toNat:=by omega
      have hB:Back X.length (g.Units.take j):=by rw [hl];exact back_take h.us
      have k3:=(val_get hB).2.2 (fstI g.Units j) f (by rw [List.getElem?_take,if_pos c];exact s2)
      rw [evV_s _ (duB _ _)]
      show _=0+(1*(valV (g.Units.take j) X).getD (g.Inputs+(fstI g.Units j:Int)).toNat 0+0)
      have i0:=h.i0
      rw [show (g.Inputs+(fstI g.Units j:Int)).toNat=X.length+fstI g.Units j from by omega,k3];grind
     ·exact outV_du n h hX
theorem outV_de:∀(j:Nat) {g:TGraph} {X:List Rat},SG g→j≤g.Units.length→(∀i,j≤i→i<g.Units.length→Need g i)→(X.length:Int)=g.Inputs→outV (deR j g) X=outV g X
 | 0,_,_,_,_,_,_=>rfl
 | j+1,g,X,h,hj,hN,hX=>by
   rw [deR]
   have hf:g.Units[j]?=some g.Units[j]:=List.getElem?_eq_getElem (by omega)
   by_cases c:Need g j
   ·rw [if_pos (tv_t c)]
    exact outV_de j h (by omega) (fun i h1 h2=>by
     by_cases e:i=j
     ·rw [e];exact c
     ·exact hN i (by omega) h2) hX
   ·rw [if_neg (by rw [tv_f c];simp)]
    have hl:=rpG_len (b:=zF) (show j<g.Units.length by omega)
    rw [outV_de j (rpG_sg h (show j<g.Units.length by omega) (zF_ok h)) (by omega) (fun i h1 h2=>(need_rp h (by omega) c i).2 (by
     rw [show shv j i=i+1 from if_neg (by omega)]
     exact hN (i+1) (by omega) (by omega))) hX]
    refine outV_rp h hf (zF_ok h) hX (.inl ⟨fun i f2 hi hf2=>?_,fun f2 hf2=>?_⟩)
    ·false_or_by_contra
     rename_i h2
     exact c (.unit hf2 (hN i (by omega) (List.getElem?_eq_some_iff.1 hf2).1) ((has_cof (h.us _ _ hf2).1).2 h2))
    ·false_or_by_contra
     rename_i h2
     exact c (.out hf2 ((has_cof (h.os _ hf2).1).2 h2))
theorem outV_coP{g:TGraph}{X:List Rat}(h:SG g)(hX:(X.length:Int)=g.Inputs):outV (coP g) X=outV g X:=outV_co _ h hX
theorem outV_duP{g:TGraph}{X:List Rat}(h:SG g)(hX:(X.length:Int)=g.Inputs):outV (duP g) X=outV g X:=outV_du _ h hX
theorem outV_deP{g:TGraph}{X:List Rat}(h:SG g)(hX:(X.length:Int)=g.Inputs):outV (deP g) X=outV g X:=outV_de _ h (Nat.le_refl _) (fun i h1 h2=>by omega) hX
theorem outV_simS{g:TGraph}{X:List Rat}(h:SG g)(hX:(X.length:Int)=g.Inputs):outV (simS g) X=outV g X:=by
 obtain ⟨a1,a2,a3⟩:=coP_sg h
 obtain ⟨b1,b2,b3⟩:=duP_sg a1
 unfold simS
 rw [outV_deP b1 (by omega),outV_duP a1 (by omega),outV_coP h hX]
theorem outV_simL:∀(n:Nat) {g:TGraph} {X:List Rat},SG g→(X.length:Int)=g.Inputs→outV (simL n g) X=outV g X
 | 0,_,_,_,_=>rfl
 | n+1,g,X,h,hX=>by
   rw [simL]
   obtain ⟨a1,a2,a3⟩:=simS_sg h
   split
   ·exact outV_simS h hX
   ·rw [outV_simL n a1 (by omega),outV_simS h hX]
theorem outV_simP{g:TGraph}{X:List Rat}(h:SG g)(hX:(X.length:Int)=g.Inputs):outV (simP g) X=outV g X:=outV_simL _ h hX
end
end Go.Proofs.YtefdjbknmfeooaaGreatDoor
