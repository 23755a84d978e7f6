import Derived.Test.YtdaonnnlgfhlaaaGreatDoorRows
import Derived.Test.YtdaonnnlgfhlaaaGreatDoorGA16
import Derived.Deep.Slices
import Derived.ChangeArms
import Derived.ChangeSlices
import Derived.DataReads
import Derived.OpenShut
import Derived.Lib.LaidTab
import Derived.Stop.LaidErr
import Derived.Test.YtdaonnnlgfhlaaaGreatDoorGA21
import Derived.Test.YtdaonnnlgfhlaaaGreatDoorGA17
set_option linter.all false
set_option maxHeartbeats 6400000
set_option maxRecDepth 100000
namespace Go.Proofs.YtdaonnnlgfhlaaaGreatDoor
section
open Go.ChangeShapes Go.WideShapes Go.RowKit Go.Deep
def okT:Nat→Nat→Prop:=fun _ _=>True
theorem bulk_one_le{H:Type}(d:DataW H):1≤Rows.uptoBulk d:=by
 cases d with
 | lit l=>cases l <;>simp [Rows.uptoBulk]
 | nil=>simp [Rows.uptoBulk]
 | ptr d=>simp [Rows.uptoBulk]
 | slice elems spare=>simp [Rows.uptoBulk]
 | agg parts=>simp [Rows.uptoBulk]
 | iface t d=>simp [Rows.uptoBulk]
 | map entries=>simp [Rows.uptoBulk]
 | held h=>simp [Rows.uptoBulk]
theorem bulk_part_le{H:Type}{d:DataW H}{l:List (DataW H)}(h:d∈l):Rows.uptoBulk d≤Rows.uptoBulkAll l:=by
 induction l with
 | nil=>cases h
 | cons x r ih=>
   simp only [Rows.uptoBulkAll]
   cases List.mem_cons.1 h with
   | inl e=>subst e;omega
   | inr e=>have:=ih e;omega
theorem bulk_length_le{H:Type}(l:List (DataW H)):l.length≤Rows.uptoBulkAll l:=by
 induction l with
 | nil=>simp [Rows.uptoBulkAll]
 | cons x r ih=>have:=bulk_one_le x;simp only [Rows.uptoBulkAll,List.length_cons];omega
theorem bulk_agg{H:Type}{d:DataW H}{l:List (DataW H)}(h:d∈l):Rows.uptoBulk d≤Rows.uptoBulk (.agg l):=by
 have:=bulk_part_le h
 simp only [Rows.uptoBulk]
 omega
theorem bulk_slice{H:Type}{d:DataW H}{l r:List (DataW H)}(h:d∈l):Rows.uptoBulk d≤Rows.uptoBulk (.slice l r):=by
 have:=bulk_part_le h
 simp only [Rows.uptoBulk]
 omega
theorem bulk_slice_len{H:Type}(l r:List (DataW H)):l.length≤Rows.uptoBulk (.slice l r):=by
 have:=bulk_length_le l
 simp only [Rows.uptoBulk]
 omega
def Opens(w:World)(t:TypeId)(A:Nat→List AV→Prop):Prop:=
 ∀(H:Type) (enc:TypeId × Value→H) (base:Nat) (spare:Nat→Bool) (held:Bool) (fuel:Nat) (cs:List Value) (x:DataW H × List MemPlace),DataW.trod enc Tryz.prog w base spare held fuel t cs=some x→∃us,A (Rows.uptoBulk x.1) us∧RV (RepT w okT) us cs
def Up1(A:Nat→List AV→Prop):Prop:=∀N M us,N≤M→A N us→A M us
theorem Opens.mono{w:World}{t:TypeId}{A B:Nat→List AV→Prop}(h:Opens w t A)(hA:∀N us,A N us→B N us):Opens w t B:=fun H enc base spare held fuel cs x hx=>by
 obtain ⟨us,h1,h2⟩:=h H enc base spare held fuel cs x hx
 exact ⟨us,hA _ _ h1,h2⟩
theorem rvq1{R:AV→Value→Prop}{a:AV}{v:Value}(h:R a v):RV R [a] [v]:=⟨rfl,fun i d hi=>by
 match i,hi with
 | 0,hi=>cases hi;exact ⟨v,rfl,h⟩
 | i+1,hi=>simp at hi⟩
theorem rv_fld{R:AV→Value→Prop}{us bs:List AV}{cs:List Value}{o n:Nat}(h1:RV R us ((cs.drop o).take n))(h2:RV R bs (cs.drop (o+n)))(hn:o+n≤cs.length):RV R (us++bs) (cs.drop o):=by
 have l1:=h1.1
 have l2:=h2.1
 rw [List.length_take,List.length_drop] at l1
 rw [List.length_drop] at l2
 refine ⟨by rw [List.length_append,List.length_drop];omega,fun i d hi=>?_⟩
 by_cases hl:i<us.length
 ·rw [List.getElem?_append_left hl] at hi
  obtain ⟨u,h3,h4⟩:=h1.2 i d hi
  rw [List.getElem?_take,if_pos (by omega)] at h3
  exact ⟨u,h3,h4⟩
 ·rw [List.getElem?_append_right (by omega)] at hi
  obtain ⟨u,h3,h4⟩:=h2.2 _ d hi
  refine ⟨u,?_,h4⟩
  rw [List.getElem?_drop] at h3 ⊢
  rw [←h3]
  congr 1
  omega
theorem rv_end{R:AV→Value→Prop}{cs:List Value}{N:Nat}(h:cs.length=N):RV R [] (cs.drop N):=by
 rw [List.drop_of_length_le (by omega)]
 exact ⟨rfl,fun i d hi=>by simp at hi⟩
section
variable {w : World}
theorem op_int{t:TypeId}{k:IntKind}(ht: Tryz.prog.underlying t=some (.int k)):Opens w t (fun _ us=>∃z,us=[.lit (.int k z)]∧(Lit.int k z).wf=true):=fun H enc base spare held fuel cs x hx=>by
 obtain ⟨n,rfl,rfl,hw⟩:=DataW.trod_int ht hx
 exact ⟨_,⟨n,rfl,hw⟩,rvq1 (.lit _)⟩
theorem op_bool{t:TypeId}(ht: Tryz.prog.underlying t=some .bool):Opens w t (fun _ us=>∃b,us=[.lit (.bool b)]):=fun H enc base spare held fuel cs x hx=>by
 obtain ⟨b,rfl,_⟩:=DataW.trod_bool ht hx
 exact ⟨_,⟨b,rfl⟩,rvq1 (.lit _)⟩
theorem fldB{H:Type}{enc:TypeId × Value→H}{base:Nat}{spare:Nat→Bool}{held:Bool}{t:TypeId}{fs:Array Field}{fuel:Nat}{cs:List Value}{x:DataW H × List MemPlace}(hs: Tryz.prog.underlying t=some (.struct fs))(h:DataW.trod enc Tryz.prog w base spare held fuel t cs=some x):
  cs.length= Tryz.prog.cellsOf t∧∀(i:Nat) (f:Field) (T:TypeId) (o:Nat),fs[i]?=some f→f.type=T→f.offset=o→∃n y,DataW.trod enc Tryz.prog w base spare held n T ((cs.drop o).take (Tryz.prog.cellsOf T))=some y∧Rows.uptoBulk y.1≤Rows.uptoBulk x.1:=by
 obtain ⟨xs,n,_,hx,hl,hlen,hg⟩:=DataW.trod_struct hs h
 refine ⟨hl,fun i f T o hf hT ho=>⟨n,xs[i]'(by rw [hlen];exact (Array.getElem?_eq_some_iff.1 hf).1),?_,?_⟩⟩
 ·subst hT ho
  rw [hg i f hf]
  exact List.getElem?_eq_getElem _
 ·subst hx
  exact bulk_agg (List.mem_map_of_mem (List.getElem_mem _))
theorem addr_at{b o i:Nat}:(⟨b,o,none⟩:Addr).add i=⟨b,o+i,none⟩:=by
 unfold Addr.add
 split
 ·rename_i h;subst h;rfl
 ·rfl
theorem op_sl{t e:TypeId}{k:Nat}{A:Nat→List AV→Prop}(ht: Tryz.prog.underlying t=some (.slice e))(hk: Tryz.prog.cellsOf e=k)(h0k:0<k)(he:Opens w e A)(hA:Up1 A):
  Opens w t (fun N us=>∃es:List (List AV),us=[.sl k es]∧es.length≤N∧∀e∈es,A N e):=fun H enc base spare held fuel cs x hx=>by
 rcases open_slice ht hx with ⟨rfl,_⟩|⟨a,len,cap,m,n,D,Pl,rfl,_,hl,hm,hmm,hxe,hi⟩
 ·exact ⟨_,⟨[],rfl,by simp,fun e he=>by cases he⟩,rvq1 (.nil none 0)⟩
 ·have hlm:len≤m:=by rw [hmm];split <;>omega
  have hb:∀i,i<len→Rows.uptoBulk (D i)≤Rows.uptoBulk x.1:=fun i hil=>by
   subst hxe
   exact bulk_slice (List.mem_map.2 ⟨i,List.mem_range.2 hil,rfl⟩)
  have hbl:len≤Rows.uptoBulk x.1:=by
   subst hxe
   have:=bulk_slice_len ((List.range len).map D) ((List.range (m-len)).map fun j=>D (len+j))
   rw [List.length_map,List.length_range] at this
   exact this
  obtain ⟨U,hU⟩:=choose_lt (n:=len) (p:=fun i (u:List AV)=>A (Rows.uptoBulk x.1) u∧∃cs',RV (RepT w okT) u cs'∧w.cells? base (a.add (i*k)) k=some cs') (fun i hil=>by
   obtain ⟨cs',h1,h2⟩:=hi i (by omega)
   rw [hk] at h1
   obtain ⟨u,hu,hr⟩:=he H enc base spare held _ _ _ h2
   exact ⟨u,hA _ _ _ (hb i hil) hu,cs',hr,h1⟩)
  refine ⟨[.sl k ((List.range len).map U)],⟨_,rfl,by rw [List.length_map,List.length_range];exact hbl,fun e he=>?_⟩,?_⟩
  ·obtain ⟨i,hir,rfl⟩:=List.mem_map.1 he
   exact (hU i (List.mem_range.1 hir)).1
  ·by_cases h0:len=0
   ·subst h0;exact rvq1 (.nil (some a) cap)
   ·have hz:=(hU 0 (by omega)).2.choose_spec.2
    obtain ⟨_,hz1,hz2⟩:=World.cells?_some hz
    have hz3:=hz2 0 h0k
    rw [List.getElem?_eq_getElem (by omega)] at hz3
    have hs0:=World.cell?_spot hz3
    obtain ⟨b,o,sp⟩:=a
    have hsp:sp=none:=by
     simp [Addr.add] at hs0
     exact hs0
    subst hsp
    have key:∀(i j:Nat) (e:List AV) (d:AV),((List.range len).map U)[i]?=some e→e[j]?=some d→∃u,w.cell? ⟨b,o+i*k+j,none⟩=some u∧RepT w okT d u:=fun i j e d hie hjd=>by
     have hil:i<len:=by have:=(List.getElem?_eq_some_iff.1 hie).1;rw [List.length_map,List.length_range] at this;exact this
     rw [List.getElem?_map,List.getElem?_range hil] at hie
     cases hie
     obtain ⟨_,cs',hr,hc⟩:=hU i hil
     obtain ⟨_,q1,q2⟩:=World.cells?_some hc
     obtain ⟨u,g1,g2⟩:=hr.2 j d hjd
     have hj:j<k:=by
      have:=(List.getElem?_eq_some_iff.1 g1).1
      omega
     have:=q2 j hj
     rw [addr_at,addr_at] at this
     exact ⟨u,this.trans g1,g2⟩
    have R:=RepT.sl (w:=w) (ok:=okT) (k:=k) (b:=b) (o:=o) (c:=cap) (es:=(List.range len).map U) (fun e he=>by
      obtain ⟨i,hir,rfl⟩:=List.mem_map.1 he
      obtain ⟨_,cs',hr,hc⟩:=hU i (List.mem_range.1 hir)
      obtain ⟨_,q1,_⟩:=World.cells?_some hc
      have:=hr.1
      omega) (by rw [List.length_map,List.length_range];exact hl) (fun i j e d he hd=>by
      obtain ⟨u,h1,_⟩:=key i j e d he hd
      exact ⟨trivial,by rw [h1];rfl⟩) (fun i j e d he hd=>by
      obtain ⟨u,h1,h2⟩:=key i j e d he hd
      rw [h1]
      exact h2)
    rw [List.length_map,List.length_range] at R
    exact rvq1 R
theorem list_of{α:Type}{enc:α→List AV}{ok:α→Prop}:∀{es:List (List AV)},(∀e∈es,∃x,e=enc x∧ok x)→∃L:List α,es=L.map enc∧∀x∈L,ok x
 | [],_=>⟨[],rfl,fun x hx=>by cases hx⟩
 | e::es,h=>by
   obtain ⟨x,rfl,hx⟩:=h e (List.mem_cons_self ..)
   obtain ⟨L,rfl,hL⟩:=list_of fun e he=>h e (List.mem_cons_of_mem _ he)
   exact ⟨x::L,rfl,fun y hy=>by
    rcases List.mem_cons.1 hy with rfl|hy
    ·exact hx
    ·exact hL y hy⟩
theorem op_list{α:Type}{t e:TypeId}{k:Nat}{enc:α→List AV}{ok:Nat→α→Prop}(ht: Tryz.prog.underlying t=some (.slice e))(hk: Tryz.prog.cellsOf e=k)(h0k:0<k)(he:Opens w e (fun N us=>∃x,us=enc x∧ok N x))(hm:∀N M x,N≤M→ok N x→ok M x):
  Opens w t (fun N us=>∃L:List α,us=[.sl k (L.map enc)]∧L.length≤N∧∀x∈L,ok N x):=
 (op_sl ht hk h0k he (fun N M us hN ⟨x,h1,h2⟩=>⟨x,h1,hm N M x hN h2⟩)).mono fun N us ⟨es,h1,h2,h3⟩=>by
  obtain ⟨L,rfl,hL⟩:=list_of h3
  exact ⟨L,h1,by simpa using h2,hL⟩
def okInt(k:IntKind)(_:Nat)(z:Int):Prop:=(Lit.int k z).wf=true
theorem okInt.up{k:IntKind}{N M:Nat}{z:Int}(hN:N≤M)(h:okInt k N z):okInt k M z:=h
def okBool(_:Nat)(_:Bool):Prop:=True
theorem okBool.up{N M:Nat}{b:Bool}(hN:N≤M)(h:okBool N b):okBool M b:=h
theorem op_intO{t:TypeId}{k:IntKind}(ht: Tryz.prog.underlying t=some (.int k)):Opens w t (fun N us=>∃z,us=[.lit (.int k z)]∧okInt k N z):=op_int ht
theorem op_boolO{t:TypeId}(ht: Tryz.prog.underlying t=some .bool):Opens w t (fun N us=>∃b,us=[.lit (.bool b)]∧okBool N b):=(op_bool ht).mono fun N us ⟨b,h⟩=>⟨b,h,trivial⟩
def okNat(N:Nat)(l:List Nat):Prop:=Lim l∧l.length≤N
theorem okNat.up{N M:Nat}{l:List Nat}(hN:N≤M)(h:okNat N l):okNat M l:=⟨h.1,Nat.le_trans h.2 hN⟩
theorem cU32: Tryz.prog.cellsOf 114=1:=by kernel_rfl
theorem op_natO:Opens w 24 (fun N us=>∃l,us=[natA l]∧okNat N l):=
 (op_list (α:=Nat) (enc:=fun x=>[.lit (.int .u32 (x:Int))]) (ok:=fun _ x=>x<4294967296) Tryz.underlying24 cU32 (by omega) ((op_int Tryz.underlying114).mono fun N us ⟨z,h1,h2⟩=>by
  have h3:0≤z∧z≤4294967295:=by simpa [Lit.wf,IntKind.min,IntKind.max,IntKind.signed,IntKind.bits] using h2
  exact ⟨z.toNat,by rw [h1,Int.toNat_of_nonneg h3.1],by omega⟩) (fun N M x _ h=>h)).mono fun N us ⟨L,h1,h2,h3⟩=>⟨L,h1,fun x hx=>h3 x hx,h2⟩
def okRaw(N:Nat)(r:Raw):Prop:=okNat N r.l1∧okNat N r.l2
theorem okRaw.up{N M:Nat}{r:Raw}(hN:N≤M)(h:okRaw N r):okRaw M r:=⟨h.1.up hN,h.2.up hN⟩
theorem arg_one{d:AV}{v:Value}(hv:v.cells=#[v])(h:RV (RepT w okT) [d] v.cells.toList):RepT w okT d v:=by
 rw [hv] at h
 obtain ⟨u,h1,h2⟩:=h.2 0 d rfl
 cases h1
 exact h2
theorem arg_agg{us:List AV}{cs:Array Value}(h:RV (RepT w okT) us (Value.agg cs).cells.toList):RepT w okT (.agg us) (.agg cs):=by
 have h1:(Value.agg cs).cells=cs:=rfl
 rw [h1] at h
 refine .agg (by have:=h.1;simpa using this) fun i d hi=>?_
 obtain ⟨u,h2,h3⟩:=h.2 i d hi
 have h4:cs[i]?=some u:=by simpa using h2
 rw [Array.getD_eq_getD_getElem?,h4]
 exact h3
theorem rvs_nil{R:AV→Value→Prop}:RV R [] []:=⟨rfl,fun i d hi=>by simp at hi⟩
theorem rvs_cons{R:AV→Value→Prop}{a:AV}{v:Value}{l:List AV}{vs:List Value}(h:R a v)(hl:RV R l vs):RV R (a::l) (v::vs):=⟨by simp [hl.1],fun i d hi=>by
 match i,hi with
 | 0,hi=>cases hi;exact ⟨v,rfl,h⟩
 | i+1,hi=>exact hl.2 i d (by simpa using hi)⟩
end
end
section
open Go.ChangeShapes Go.WideShapes Go.RowKit Go.Deep
section
variable {w : World}
theorem cO_Rat: Tryz.prog.cellsOf 26=3:=by kernel_rfl
theorem cO_Rat_0: Tryz.prog.cellsOf 4=1:=by kernel_rfl
theorem cO_Rat_1: Tryz.prog.cellsOf 24=1:=by kernel_rfl
theorem cO_Rat_2: Tryz.prog.cellsOf 24=1:=by kernel_rfl
set_option maxRecDepth 100000 in
theorem op_Rat:Opens w 26 (fun N us=>∃x:Raw,us=rawC x∧okRaw N x):=fun H enc base spare held fuel cs x hx=>by
 obtain ⟨hl,hf⟩:=fldB Tryz.underlying26 hx
 rw [cO_Rat] at hl
 obtain ⟨n0,y0,g0,b0⟩:=hf 0 _ 4 0 rfl rfl rfl
 obtain ⟨a0,⟨x0,e0,p0⟩,r0⟩:=(op_boolO Tryz.underlying4) _ _ _ _ _ _ _ _ g0
 rw [cO_Rat_0] at r0
 subst e0
 obtain ⟨n1,y1,g1,b1⟩:=hf 1 _ 24 1 rfl rfl rfl
 obtain ⟨a1,⟨x1,e1,p1⟩,r1⟩:=op_natO _ _ _ _ _ _ _ _ g1
 rw [cO_Rat_1] at r1
 subst e1
 obtain ⟨n2,y2,g2,b2⟩:=hf 2 _ 24 2 rfl rfl rfl
 obtain ⟨a2,⟨x2,e2,p2⟩,r2⟩:=op_natO _ _ _ _ _ _ _ _ g2
 rw [cO_Rat_2] at r2
 subst e2
 exact ⟨_,⟨(⟨x0,x1,x2⟩:Raw),rfl,⟨okNat.up b1 p1,okNat.up b2 p2⟩⟩,rv_fld (o:=0) (n:=1) r0 (rv_fld (o:=1) (n:=1) r1 (rv_fld (o:=2) (n:=1) r2 (rv_end hl) (by omega)) (by omega)) (by omega)⟩
def okO_Term(N:Nat)(x:Int × Raw):Prop:=okInt .i64 N x.1∧okRaw N x.2
theorem okO_Term.up{N M:Nat}{x:Int × Raw}(hN:N≤M)(h:okO_Term N x):okO_Term M x:=⟨okInt.up hN h.1,okRaw.up hN h.2⟩
theorem cO_Term: Tryz.prog.cellsOf 68=4:=by kernel_rfl
theorem cO_Term_0: Tryz.prog.cellsOf 3=1:=by kernel_rfl
theorem cO_Term_1: Tryz.prog.cellsOf 26=3:=by kernel_rfl
set_option maxRecDepth 100000 in
theorem op_Term:Opens w 68 (fun N us=>∃x:Int × Raw,us=termRC x∧okO_Term N x):=fun H enc base spare held fuel cs x hx=>by
 obtain ⟨hl,hf⟩:=fldB Tryz.underlying68 hx
 rw [cO_Term] at hl
 obtain ⟨n0,y0,g0,b0⟩:=hf 0 _ 3 0 rfl rfl rfl
 obtain ⟨a0,⟨x0,e0,p0⟩,r0⟩:=(op_intO Tryz.underlying3) _ _ _ _ _ _ _ _ g0
 rw [cO_Term_0] at r0
 subst e0
 obtain ⟨n1,y1,g1,b1⟩:=hf 1 _ 26 1 rfl rfl rfl
 obtain ⟨a1,⟨x1,e1,p1⟩,r1⟩:=op_Rat _ _ _ _ _ _ _ _ g1
 rw [cO_Term_1] at r1
 subst e1
 exact ⟨_,⟨(⟨x0,x1⟩:Int × Raw),rfl,⟨okInt.up b0 p0,okRaw.up b1 p1⟩⟩,rv_fld (o:=0) (n:=1) r0 (rv_fld (o:=1) (n:=3) r1 (rv_end hl) (by omega)) (by omega)⟩
def okO_LTerm(N:Nat)(L:List (Int × Raw)):Prop:=L.length≤N∧∀x∈L,okO_Term N x
theorem okO_LTerm.up{N M:Nat}{L:List (Int × Raw)}(hN:N≤M)(h:okO_LTerm N L):okO_LTerm M L:=⟨Nat.le_trans h.1 hN,fun x hx=>okO_Term.up hN (h.2 x hx)⟩
theorem cO_LTermE: Tryz.prog.cellsOf 68=4:=by kernel_rfl
theorem op_LTerm:Opens w 22 (fun N us=>∃L:List (Int × Raw),us=[.sl 4 (L.map termRC)]∧okO_LTerm N L):=
 (op_list (α:=Int × Raw) (enc:=termRC) (ok:=okO_Term) Tryz.underlying22 cO_LTermE (by omega) op_Term (fun N M x h g=>okO_Term.up h g)).mono fun N us ⟨L,h1,h2,h3⟩=>⟨L,h1,h2,h3⟩
def okO_Affine(N:Nat)(x:FormR):Prop:=okO_LTerm N x.1∧okRaw N x.2
theorem okO_Affine.up{N M:Nat}{x:FormR}(hN:N≤M)(h:okO_Affine N x):okO_Affine M x:=⟨okO_LTerm.up hN h.1,okRaw.up hN h.2⟩
theorem cO_Affine: Tryz.prog.cellsOf 28=4:=by kernel_rfl
theorem cO_Affine_0: Tryz.prog.cellsOf 22=1:=by kernel_rfl
theorem cO_Affine_1: Tryz.prog.cellsOf 26=3:=by kernel_rfl
set_option maxRecDepth 100000 in
theorem op_Affine:Opens w 28 (fun N us=>∃x:FormR,us=formRC x∧okO_Affine N x):=fun H enc base spare held fuel cs x hx=>by
 obtain ⟨hl,hf⟩:=fldB Tryz.underlying28 hx
 rw [cO_Affine] at hl
 obtain ⟨n0,y0,g0,b0⟩:=hf 0 _ 22 0 rfl rfl rfl
 obtain ⟨a0,⟨x0,e0,p0⟩,r0⟩:=op_LTerm _ _ _ _ _ _ _ _ g0
 rw [cO_Affine_0] at r0
 subst e0
 obtain ⟨n1,y1,g1,b1⟩:=hf 1 _ 26 1 rfl rfl rfl
 obtain ⟨a1,⟨x1,e1,p1⟩,r1⟩:=op_Rat _ _ _ _ _ _ _ _ g1
 rw [cO_Affine_1] at r1
 subst e1
 exact ⟨_,⟨(⟨x0,x1⟩:FormR),rfl,⟨okO_LTerm.up b0 p0,okRaw.up b1 p1⟩⟩,rv_fld (o:=0) (n:=1) r0 (rv_fld (o:=1) (n:=3) r1 (rv_end hl) (by omega)) (by omega)⟩
def okO_LRat(N:Nat)(L:List (Raw)):Prop:=L.length≤N∧∀x∈L,okRaw N x
theorem okO_LRat.up{N M:Nat}{L:List (Raw)}(hN:N≤M)(h:okO_LRat N L):okO_LRat M L:=⟨Nat.le_trans h.1 hN,fun x hx=>okRaw.up hN (h.2 x hx)⟩
theorem cO_LRatE: Tryz.prog.cellsOf 26=3:=by kernel_rfl
theorem op_LRat:Opens w 29 (fun N us=>∃L:List (Raw),us=[.sl 3 (L.map rawC)]∧okO_LRat N L):=
 (op_list (α:=Raw) (enc:=rawC) (ok:=okRaw) Tryz.underlying29 cO_LRatE (by omega) op_Rat (fun N M x h g=>okRaw.up h g)).mono fun N us ⟨L,h1,h2,h3⟩=>⟨L,h1,h2,h3⟩
def okO_LAffine(N:Nat)(L:List (FormR)):Prop:=L.length≤N∧∀x∈L,okO_Affine N x
theorem okO_LAffine.up{N M:Nat}{L:List (FormR)}(hN:N≤M)(h:okO_LAffine N L):okO_LAffine M L:=⟨Nat.le_trans h.1 hN,fun x hx=>okO_Affine.up hN (h.2 x hx)⟩
theorem cO_LAffineE: Tryz.prog.cellsOf 28=4:=by kernel_rfl
theorem op_LAffine:Opens w 40 (fun N us=>∃L:List (FormR),us=[.sl 4 (L.map formRC)]∧okO_LAffine N L):=
 (op_list (α:=FormR) (enc:=formRC) (ok:=okO_Affine) Tryz.underlying40 cO_LAffineE (by omega) op_Affine (fun N M x h g=>okO_Affine.up h g)).mono fun N us ⟨L,h1,h2,h3⟩=>⟨L,h1,h2,h3⟩
end
end
section
open Go.ChangeShapes Go.WideShapes Go.RowKit Go.Deep
theorem gT: Tryz.prog.globalNamed "internal/strconv.uint64pow10"=some 0:=by kernel_rfl
theorem tT:(Tryz.prog.globals[0]?).map (·.type)=some 178:=by kernel_rfl
theorem gtab_pow{g:Nat}{cs:List AV}(h:gtab g=some cs):g= 0∧cs=Lib.pow10Tab.map fun z=>AV.lit (.int .u64 z):=by
 unfold gtab at h
 split at h
 ·rename_i e
  subst e
  cases h
  exact ⟨rfl,rfl⟩
 ·cases h
theorem glob_laid {w:World} (hT:Lib.TabIs Tryz.prog w "internal/strconv.uint64pow10" .u64 Lib.pow10Tab):Glob w okT:=by
 refine ⟨fun g cs hg=>?_,fun g hg=>?_,fun g hg=>absurd hg (by simp [gint])⟩
 ·obtain ⟨rfl,rfl⟩:=gtab_pow hg
  unfold Lib.TabIs World.var? at hT
  rw [gT] at hT
  simp only [Option.bind_some] at hT
  split at hT
  ·rename_i c t fr hc
   cases hT
   have key:∀(j:Nat) (d:AV),(Lib.pow10Tab.map fun z=>AV.lit (.int .u64 z))[j]?=some d→∃v,w.cell? ⟨0,0+j,none⟩=some v∧d=.lit v:=fun j d hj=>by
    rw [List.getElem?_map] at hj
    obtain ⟨z,hz,rfl⟩:=Option.map_eq_some_iff.1 hj
    refine ⟨.int .u64 z,?_,rfl⟩
    rw [Nat.zero_add]
    simp only [World.cell?,hc]
    simp [hz]
   refine ⟨.mem (fun j d hj=>?_) (fun j d hj=>?_),t,?_⟩
   ·obtain ⟨v,h1,_⟩:=key j d hj
    exact ⟨trivial,by rw [h1];rfl⟩
   ·obtain ⟨v,h1,rfl⟩:=key j d hj
    rw [h1]
    exact .lit _
   ·simp [World.shape?,hc]
  ·cases hT
 ·exact absurd hg (by simp [gerr])
theorem laid_glob {W:World} (h:laidMet Tryz.prog [("math/bits.deBruijn32tab",Rows.laid_math_bits_deBruijn32tab),("math/bits.deBruijn64tab",Rows.laid_math_bits_deBruijn64tab),("internal/strconv.uint64pow10",Rows.laid_internal_strconv_uint64pow10)] W):Glob W okT:=by
 have h3:=laidMet.tail (laidMet.tail h)
 have hT:Lib.TabIs Tryz.prog W "internal/strconv.uint64pow10" .u64 Lib.pow10Tab:=Lib.tabIs_of_head gT tT Tryz.underlying178 Tryz.underlying91 (by kernel_rfl) (by kernel_rfl) h3
 exact glob_laid hT
theorem true_end{w:World}{ok:Nat→Nat→Prop}{e:Ending}{w':World}(h:∃v,e=.returned v∧RepT w' (okN ok w w') (.lit (.bool true)) v∧Below w.heap.size w w'):RetB true w e w':=by
 obtain ⟨v,rfl,h2,h3⟩:=h
 cases h2
 exact ⟨rfl,h3⟩
end
section
open Go.ChangeShapes Go.WideShapes Go.RowKit Go.Deep
theorem okQ31{N:Nat}{r:Raw}(h:okRaw N r)(hN:N≤1048576):RawB r:=⟨h.1.1,h.2.1,by have:=h.1.2;omega,by have:=h.2.2;omega⟩
theorem okF31{N:Nat}{f:FormR}(h:okO_Affine N f)(hN:N≤1048576):RawF f:=⟨fun t ht=>okQ31 (h.1.2 t ht).2 hN,okQ31 h.2 hN⟩
theorem ln_use(w:World){v0 v1:Value}{f:FormR}{xs:List Raw}{N M:Nat}(r0:RepT w okT (.agg (formRC f)) v0)(r1:RepT w okT (.sl 3 (xs.map rawC)) v1)(k0:okO_Affine N f)(k1:okO_LRat M xs)(hN:N≤1048576)(hM:M≤1048576)(hG:Glob w okT):
  Calls Tryz.prog 3 #[v0,v1] w (RetB true w):=
 (lnR_con (ln_law (n:=0) (okF31 k0 hN) (fun r hr=>okQ31 (k1.2 r hr) hM)) w okT _ hG (rvs_cons r0 (rvs_cons r1 rvs_nil))).mono fun _ _ h=>true_end h
end
section
open Go.RowKit
noncomputable def leRT(n:Nat):FuncId→Option Orc:=ext (tab (n+13)) 8 (.pure awG)
theorem leRT_ok(n:Nat):OrcOk Tryz.prog (leRT n):=(tab_ok (n+13)).extP (by kernel_rfl) con_awake
noncomputable def leR(n:Nat)(args:List AV):Option AV:=fnP Tryz.prog (leRT n) (livesOf 4) big (fnOf 4) args
theorem leR_con{n:Nat}{args:List AV}{r:AV}(h:leR n args=some r):Con Tryz.prog 4 args r:=
 con_of (leRT_ok n) mixed (plain_fn (by kernel_rfl)) (body_some (by kernel_rfl) (plain_fn (by kernel_rfl))) h
theorem leR_aw(n:Nat):leRT n 8=some (.pure awG):=by unfold leRT ext;rw [if_pos rfl]
theorem leR_l16(n:Nat):leRT n 16=some (.pure (run (n+12) 16)):=by unfold leRT ext;rw [if_neg (by decide)];exact tb_16 _
theorem leR_l17(n:Nat):leRT n 17=some (.pure (run (n+12) 17)):=by unfold leRT ext;rw [if_neg (by decide)];exact tb_17 _
theorem leR_l18(n:Nat):leRT n 18=some (.pure (run (n+12) 18)):=by unfold leRT ext;rw [if_neg (by decide)];exact tb_18 _
theorem leR_l19(n:Nat):leRT n 19=some (.pure (run (n+12) 19)):=by unfold leRT ext;rw [if_neg (by decide)];exact tb_19 _
section
variable {r : Bool} {a1 : Int} {n : Nat} {a0 : List FormR} {r2 : List Form} {r4 : List Form} {r5 : Int} {r6 : Bool} {r3 : Int}
theorem leR_f1(K1:run (n+12) 16 [.sl 4 (a0.map formRC)]=some (.lit (.bool r)))(C2:r=false):
  leR n [.sl 4 (a0.map formRC),.lit (.int .i64 a1)]=some (.lit (.bool true)):=by
 unfold leR fnP
 simp+decide [Tryz.f4,K1,C2,leR_aw,awG,leR_l16,leR_l17,leR_l18,leR_l19]
theorem leR_f2(K1:run (n+12) 16 [.sl 4 (a0.map formRC)]=some (.lit (.bool r)))(C2:r=true)(K3:run (n+12) 17 [.sl 4 (a0.map formRC),.lit (.int .i64 a1)]=some (.tup [.sl 4 (r2.map formC),.lit (.int .i64 r3)]))(K4:run (n+12) 18 [.sl 4 (a0.map formRC),.lit (.int .i64 a1)]=some (.tup [.sl 4 (r4.map formC),.lit (.int .i64 r5)]))(C5:r3=r5)(K6:run (n+12) 19 [.sl 4 (r2.map formC),.sl 4 (r4.map formC)]=some (.lit (.bool r6))):
  leR n [.sl 4 (a0.map formRC),.lit (.int .i64 a1)]=some (.lit (.bool r6)):=by
 have C5_:(r3==r5)=true:=by rw [C5];simp
 have C5_n:(r3 !=r5)=false:=by rw [C5];simp
 unfold leR fnP
 simp+decide [Tryz.f4,K1,C2,K3,K4,C5_,C5_n,K6,leR_aw,awG,leR_l16,leR_l17,leR_l18,leR_l19]
end
end
section
open Go.RowKit
noncomputable def fca_C2:Code:=(loopsOf (bodyOf Tryz.f44)).getD 0 .skip
def fca_h2(a0:List Form)(a1:Int)(i_2:Nat):St:=
 ⟨[(1,.lit (.int .i64 a1)),(7,.sl 4 (a0.map formC)),(8,.lit (.int .i64 (a0.length:Int))),(9,.lit (.int .i64 (i_2:Int)))],
  [],0⟩
def fca_o2a:St:=
 ⟨[(4,.lit (.bool false))],
  [],0⟩
def fca_o2b:St:=
 ⟨[(4,.any)],
  [],0⟩
section
variable{a1:Int}{n:Nat}{a0:List Form}{q3:Rat}{r3:Bool}{i_2:Nat}{F3:List (Int × Rat)}
section
variable(C1:(i_2:Int)<(a0.length:Int))(E2:a0[i_2]?=some (F3,q3))(K3:run n 67 [formV (F3,q3),.lit (.int .i64 a1)]=some (.lit (.bool r3)))
include C1 E2 K3
theorem fca_r2_1(C4:r3=true)(W5:InI ((i_2:Int)+1)):
  Cont 0 (exec Tryz.prog (tab (n+1)) 0 18 (livesOf 44) big fca_C2) (livesOf 44 2) (fca_h2 a0 a1 i_2) (fca_h2 a0 a1 (i_2+1)):=by
 have C1_:i_2<a0.length:=by omega
 obtain ⟨EL2,EG2⟩:=List.getElem?_eq_some_iff.1 E2
 simp only [formV] at K3
 have W5_:IntKind.i64.wrap ((i_2:Int)+1)=(i_2:Int)+1:=wr64 W5.1 W5.2
 unfold Cont
 simp+decide [fca_h2,loopsOf, Tryz.f44,fca_C2,C1,C1_,EL2,EG2,E2,K3,C4,W5_]
theorem fca_x2_1(C4:r3=false):
  Leave 0 (exec Tryz.prog (tab (n+1)) 0 18 (livesOf 44) big fca_C2) (livesOf 44 (outOf 2)) (fca_h2 a0 a1 i_2) (.ret) (fca_o2a):=by
 have C1_:i_2<a0.length:=by omega
 obtain ⟨EL2,EG2⟩:=List.getElem?_eq_some_iff.1 E2
 simp only [formV] at K3
 unfold Leave
 simp+decide [fca_h2,loopsOf, Tryz.f44,fca_o2a,fca_C2,C1,C1_,EL2,EG2,E2,K3,C4]
end
theorem fca_x2_2(C1:¬(i_2:Int)<(a0.length:Int)):
  Leave 0 (exec Tryz.prog (tab (n+1)) 0 18 (livesOf 44) big fca_C2) (livesOf 44 (outOf 2)) (fca_h2 a0 a1 i_2) (.exit 0) (fca_o2b):=by
 have C1_:¬i_2<a0.length:=by omega
 unfold Leave
 simp+decide [fca_h2,loopsOf, Tryz.f44,fca_o2b,fca_C2,C1,C1_]
theorem fca_f1(L1:loopG Tryz.prog (tab (n+1)) 0 18 (livesOf 44) 2 fca_C2 (fca_h2 a0 a1 0)=some (.ret,fca_o2a)):
  run (n+1) 44 [.sl 4 (a0.map formC),.lit (.int .i64 a1)]=some (.lit (.bool false)):=by
 unfold run fnP
 simp+decide [Tryz.f44]
 rw [loopX_G (C':=fca_C2) (e:=(fca_h2 a0 a1 0)) ?_ ?_,L1]
 rotate_left
 ·kernel_rfl
 ·simp+decide [fca_h2]
 simp+decide [fca_o2a]
theorem fca_f2(L1:loopG Tryz.prog (tab (n+1)) 0 18 (livesOf 44) 2 fca_C2 (fca_h2 a0 a1 0)=some (.exit 0,fca_o2b)):
  run (n+1) 44 [.sl 4 (a0.map formC),.lit (.int .i64 a1)]=some (.lit (.bool true)):=by
 unfold run fnP
 simp+decide [Tryz.f44]
 rw [loopX_G (C':=fca_C2) (e:=(fca_h2 a0 a1 0)) ?_ ?_,L1]
 rotate_left
 ·kernel_rfl
 ·simp+decide [fca_h2]
 simp+decide [fca_o2b]
end
noncomputable def fel_C6:Code:=(loopsOf (bodyOf Tryz.f17)).getD 0 .skip
noncomputable def fel_C16:Code:=(loopsOf (bodyOf Tryz.f17)).getD 1 .skip
noncomputable def fel_C20:Code:=(loopsOf fel_C16).getD 0 .skip
def fel_h6(a0:List Form)(a1:Int)(out_6:List Form)(out2_6:List Form)(i_6:Nat)(out3_6:List Form)(mp_6:List (ByteArray × Value)):St:=
 ⟨[(1,.lit (.int .i64 a1)),(6,.ptr 0 0),(7,.own 3 out_6.length),(8,.own 4 out2_6.length),(27,.sl 4 (a0.map formC)),(28,.lit (.int .i64 (a0.length:Int))),(29,.lit (.int .i64 (i_6:Int)))],
  [(0,some (.box 78 [.own 1 out3_6.length,.mp 2] false)),
   (1,some (.row 28 4 (out3_6.map formC) 0)),
   (2,some (.mp mp_6)),
   (3,some (.row 28 4 (out_6.map formC) 0)),
   (4,some (.row 28 4 (out2_6.map formC) 0))],5⟩
def fel_h20(a1:Int)(out2_6:List Form)(out_6:List Form)(i_16:Nat)(i_20:Nat)(out_20:List Form)(mp_20:List (ByteArray × Value))(F12:List (Int × Rat))(q12:Rat)(r31:Rat):St:=
 ⟨[(1,.lit (.int .i64 a1)),(6,.ptr 0 0),(8,.own 3 out2_6.length),(12,.ptr 4 0),(13,.ptr 5 0),(53,.own 6 out_6.length),(54,.lit (.int .i64 (out_6.length:Int))),(55,.lit (.int .i64 (i_16:Int))),(62,.own 3 out2_6.length),(63,.lit (.int .i64 (out2_6.length:Int))),(64,.lit (.int .i64 (i_20:Int)))],
  [(0,some (.box 78 [.own 1 out_20.length,.mp 2] false)),
   (1,some (.row 28 4 (out_20.map formC) 0)),
   (2,some (.mp mp_20)),
   (3,some (.row 28 4 (out2_6.map formC) 0)),
   (4,some (.box 28 [.sl 4 (F12.map termC),.lit (.bool (rawQ q12).s),natA (rawQ q12).l1,natA (rawQ q12).l2] false)),
   (5,some (.box 26 [.lit (.bool (rawQ r31).s),natA (rawQ r31).l1,natA (rawQ r31).l2] false)),
   (6,some (.row 28 4 (out_6.map formC) 0))],7⟩
def fel_h16(a1:Int)(out2_6:List Form)(out_6:List Form)(i_16:Nat)(out_16:List Form)(mp_16:List (ByteArray × Value)):St:=
 ⟨[(1,.lit (.int .i64 a1)),(6,.ptr 0 0),(8,.own 3 out2_6.length),(53,.own 4 out_6.length),(54,.lit (.int .i64 (out_6.length:Int))),(55,.lit (.int .i64 (i_16:Int)))],
  [(0,some (.box 78 [.own 1 out_16.length,.mp 2] false)),
   (1,some (.row 28 4 (out_16.map formC) 0)),
   (2,some (.mp mp_16)),
   (3,some (.row 28 4 (out2_6.map formC) 0)),
   (4,some (.row 28 4 (out_6.map formC) 0))],5⟩
def fel_o6a(a1:Int)(out_6:List Form)(out2_6:List Form)(out3_6:List Form)(mp_6:List (ByteArray × Value)):St:=
 ⟨[(1,.lit (.int .i64 a1)),(6,.ptr 0 0),(7,.own 3 out_6.length),(8,.own 4 out2_6.length)],
  [(0,some (.box 78 [.own 1 out3_6.length,.mp 2] false)),
   (1,some (.row 28 4 (out3_6.map formC) 0)),
   (2,some (.mp mp_6)),
   (3,some (.row 28 4 (out_6.map formC) 0)),
   (4,some (.row 28 4 (out2_6.map formC) 0))],5⟩
def fel_o20a(a1:Int)(out2_6:List Form)(out_6:List Form)(i_16:Nat)(out_20:List Form)(mp_20:List (ByteArray × Value)):St:=
 ⟨[(1,.lit (.int .i64 a1)),(6,.ptr 0 0),(8,.own 3 out2_6.length),(53,.own 4 out_6.length),(54,.lit (.int .i64 (out_6.length:Int))),(55,.lit (.int .i64 (i_16:Int)))],
  [(0,some (.box 78 [.own 1 out_20.length,.mp 2] false)),
   (1,some (.row 28 4 (out_20.map formC) 0)),
   (2,some (.mp mp_20)),
   (3,some (.row 28 4 (out2_6.map formC) 0)),
   (4,some (.row 28 4 (out_6.map formC) 0))],5⟩
def fel_o16a(out_16:List Form)(mp_16:List (ByteArray × Value)):St:=
 ⟨[(6,.ptr 0 0)],
  [(0,some (.box 78 [.own 1 out_16.length,.mp 2] false)),
   (1,some (.row 28 4 (out_16.map formC) 0)),
   (2,some (.mp mp_16))],3⟩
section
variable{a1:Int}{r4:Rat}{n:Nat}{out_6:List Form}{a0:List Form}{q3:Rat}{out3_6:List Form}{out2_6:List Form}{i_6:Nat}{mp_6:List (ByteArray × Value)}{F3:List (Int × Rat)}{R3:List Form}{mR3:List (ByteArray × Value)}{q15:Rat}{r42:Form}{i_16:Nat}{i_20:Nat}{mp_20:List (ByteArray × Value)}{out_20:List Form}{r43:Form}{F12:List (Int × Rat)}{F15:List (Int × Rat)}{r40:Rat}{r41:Form}{r31:Rat}{q12:Rat}{mR12:List (ByteArray × Value)}{R12:List Form}{mp_16:List (ByteArray × Value)}{out_16:List Form}{r:Bool}
section
variable(C1:(i_6:Int)<(a0.length:Int))(E2:a0[i_6]?=some (F3,q3))(K3:run (n+8) 45 [formV (F3,q3),.lit (.int .i64 a1)]=some (ratV r4))(B4a:H r4≤17179869184)
include C1 E2 K3 B4a
theorem fel_r6_1(C5:sgR r4=0)(K6:runL (n+8) 46 [.ptr 0 0,formV (F3,q3)] [.box 78 [.own 1 out3_6.length,.mp 2] false,.row 28 4 (out3_6.map formC) 0,.mp mp_6]=some (.tup [],[(0,.box 78 [.own 1 out3_6.length,.mp 2] false),(1,.row 28 4 (out3_6.map formC) 0),(2,.mp mp_6)]))(W7:InI ((i_6:Int)+1)):
  Cont 0 (exec Tryz.prog (tab (n+9)) 0 93 (livesOf 17) big fel_C6) (livesOf 17 6) (fel_h6 a0 a1 out_6 out2_6 i_6 out3_6 mp_6) (fel_h6 a0 a1 out_6 out2_6 (i_6+1) out3_6 mp_6):=by
 have C1_:i_6<a0.length:=by omega
 obtain ⟨EL2,EG2⟩:=List.getElem?_eq_some_iff.1 E2
 simp only [ratV,formV] at K3
 have K4:=r_sign (p:=r4) B4a
 have C5_:(sgR r4==0)=true:=by rw [C5];simp
 have C5_n:(sgR r4 !=0)=false:=by rw [C5];simp
 simp only [formV] at K6
 have W7_:IntKind.i64.wrap ((i_6:Int)+1)=(i_6:Int)+1:=wr64 W7.1 W7.2
 unfold Cont
 simp+decide [fel_h6,loopsOf, Tryz.f17,fel_C6,C1,C1_,EL2,EG2,E2,K3,K4,C5_,C5_n,K6,W7_]
theorem fel_r6_2(C5:sgR r4=0)(K6:runL (n+8) 46 [.ptr 0 0,formV (F3,q3)] [.box 78 [.own 1 out3_6.length,.mp 2] false,.row 28 4 (out3_6.map formC) 0,.mp mp_6]=some (.tup [],[(0,.box 78 [.own 6 R3.length,.mp 2] false),(2,.mp mR3),(6,.row 28 4 (R3.map formC) 0)]))(W7:InI ((i_6:Int)+1)):
  Cont 0 (exec Tryz.prog (tab (n+9)) 0 93 (livesOf 17) big fel_C6) (livesOf 17 6) (fel_h6 a0 a1 out_6 out2_6 i_6 out3_6 mp_6) (fel_h6 a0 a1 out_6 out2_6 (i_6+1) R3 mR3):=by
 have C1_:i_6<a0.length:=by omega
 obtain ⟨EL2,EG2⟩:=List.getElem?_eq_some_iff.1 E2
 simp only [ratV,formV] at K3
 have K4:=r_sign (p:=r4) B4a
 have C5_:(sgR r4==0)=true:=by rw [C5];simp
 have C5_n:(sgR r4 !=0)=false:=by rw [C5];simp
 simp only [formV] at K6
 have W7_:IntKind.i64.wrap ((i_6:Int)+1)=(i_6:Int)+1:=wr64 W7.1 W7.2
 unfold Cont
 simp+decide [fel_h6,loopsOf, Tryz.f17,fel_C6,C1,C1_,EL2,EG2,E2,K3,K4,C5_,C5_n,K6,W7_]
theorem fel_r6_3(C5:¬sgR r4=0)(C6:sgR r4=1)(M7:out_6.length+1≤100000000)(W8:InI ((i_6:Int)+1)):
  Cont 0 (exec Tryz.prog (tab (n+9)) 0 93 (livesOf 17) big fel_C6) (livesOf 17 6) (fel_h6 a0 a1 out_6 out2_6 i_6 out3_6 mp_6) (fel_h6 a0 a1 (out_6++[(F3,q3)]) out2_6 (i_6+1) out3_6 mp_6):=by
 have C1_:i_6<a0.length:=by omega
 obtain ⟨EL2,EG2⟩:=List.getElem?_eq_some_iff.1 E2
 simp only [ratV,formV] at K3
 have K4:=r_sign (p:=r4) B4a
 have C5_:(sgR r4==0)=false:=by simpa using C5
 have C5_n:(sgR r4 !=0)=true:=by simpa using C5
 have C6_:(sgR r4==1)=true:=by rw [C6];simp
 have C6_n:(sgR r4 !=1)=false:=by rw [C6];simp
 have M7_:∀b,b≤10000→roomy (out_6.length+1) b=true:=fun b hb=>roomy_s M7 hb
 have W8_:IntKind.i64.wrap ((i_6:Int)+1)=(i_6:Int)+1:=wr64 W8.1 W8.2
 unfold Cont
 simp+decide [fel_h6,loopsOf, Tryz.f17,fel_C6,C1,C1_,EL2,EG2,E2,K3,K4,C5_,C5_n,C6_,C6_n,M7_,W8_]
theorem fel_r6_4(C5:¬sgR r4=0)(C6:¬sgR r4=1)(M7:out2_6.length+1≤100000000)(W8:InI ((i_6:Int)+1)):
  Cont 0 (exec Tryz.prog (tab (n+9)) 0 93 (livesOf 17) big fel_C6) (livesOf 17 6) (fel_h6 a0 a1 out_6 out2_6 i_6 out3_6 mp_6) (fel_h6 a0 a1 out_6 (out2_6++[(F3,q3)]) (i_6+1) out3_6 mp_6):=by
 have C1_:i_6<a0.length:=by omega
 obtain ⟨EL2,EG2⟩:=List.getElem?_eq_some_iff.1 E2
 simp only [ratV,formV] at K3
 have K4:=r_sign (p:=r4) B4a
 have C5_:(sgR r4==0)=false:=by simpa using C5
 have C5_n:(sgR r4 !=0)=true:=by simpa using C5
 have C6_:(sgR r4==1)=false:=by simpa using C6
 have C6_n:(sgR r4 !=1)=true:=by simpa using C6
 have M7_:∀b,b≤10000→roomy (out2_6.length+1) b=true:=fun b hb=>roomy_s M7 hb
 have W8_:IntKind.i64.wrap ((i_6:Int)+1)=(i_6:Int)+1:=wr64 W8.1 W8.2
 unfold Cont
 simp+decide [fel_h6,loopsOf, Tryz.f17,fel_C6,C1,C1_,EL2,EG2,E2,K3,K4,C5_,C5_n,C6_,C6_n,M7_,W8_]
end
theorem fel_x6_1(C1:¬(i_6:Int)<(a0.length:Int)):
  Leave 0 (exec Tryz.prog (tab (n+9)) 0 93 (livesOf 17) big fel_C6) (livesOf 17 (outOf 6)) (fel_h6 a0 a1 out_6 out2_6 i_6 out3_6 mp_6) (.exit 0) (fel_o6a a1 out_6 out2_6 out3_6 mp_6):=by
 have C1_:¬i_6<a0.length:=by omega
 unfold Leave
 simp+decide [fel_h6,loopsOf, Tryz.f17,fel_o6a,fel_C6,C1,C1_]
section
variable(C1:(i_20:Int)<(out2_6.length:Int))(G2:i_20<out2_6.length)(E3:out2_6[i_20]?=some (F15,q15))(K4:run (n+8) 45 [formV (F15,q15),.lit (.int .i64 a1)]=some (ratV r40))(B5a:H r40≤17179869184)(K6:run (n+8) 37 [formV (F12,q12),ratV (-r40)]=some (formV r41))(K7:run (n+8) 37 [formV (F15,q15),ratV r31]=some (formV r42))(K8:run (n+8) 48 [formV r41,formV r42]=some (formV r43))
include C1 G2 E3 K4 B5a K6 K7 K8
theorem fel_r20_1(K9:runL (n+8) 46 [.ptr 0 0,formV r43] [.box 78 [.own 1 out_20.length,.mp 2] false,.row 28 4 (out_20.map formC) 0,.mp mp_20]=some (.tup [],[(0,.box 78 [.own 1 out_20.length,.mp 2] false),(1,.row 28 4 (out_20.map formC) 0),(2,.mp mp_20)]))(W10:InI ((i_20:Int)+1)):
  Cont 0 (exec Tryz.prog (tab (n+9)) 0 93 (livesOf 17) big fel_C20) (livesOf 17 20) (fel_h20 a1 out2_6 out_6 i_16 i_20 out_20 mp_20 F12 q12 r31) (fel_h20 a1 out2_6 out_6 i_16 (i_20+1) out_20 mp_20 F12 q12 r31):=by
 have C1_:i_20<out2_6.length:=by omega
 obtain ⟨EL3,EG3⟩:=List.getElem?_eq_some_iff.1 E3
 simp only [ratV,formV] at K4
 have K5:=r_neg (p:=r40) B5a
 simp only [ratV,formV] at K6
 simp only [ratV,formV] at K7
 simp only [formV] at K8
 simp only [formV] at K9
 have W10_:IntKind.i64.wrap ((i_20:Int)+1)=(i_20:Int)+1:=wr64 W10.1 W10.2
 unfold Cont
 simp+decide [fel_h20,loopsOf, Tryz.f17,fel_C16,fel_C20,C1,C1_,G2,EL3,EG3,E3,K4,K5,K6,K7,K8,K9,W10_]
theorem fel_r20_2(K9:runL (n+8) 46 [.ptr 0 0,formV r43] [.box 78 [.own 1 out_20.length,.mp 2] false,.row 28 4 (out_20.map formC) 0,.mp mp_20]=some (.tup [],[(0,.box 78 [.own 6 R12.length,.mp 2] false),(2,.mp mR12),(6,.row 28 4 (R12.map formC) 0)]))(W10:InI ((i_20:Int)+1)):
  Cont 0 (exec Tryz.prog (tab (n+9)) 0 93 (livesOf 17) big fel_C20) (livesOf 17 20) (fel_h20 a1 out2_6 out_6 i_16 i_20 out_20 mp_20 F12 q12 r31) (fel_h20 a1 out2_6 out_6 i_16 (i_20+1) R12 mR12 F12 q12 r31):=by
 have C1_:i_20<out2_6.length:=by omega
 obtain ⟨EL3,EG3⟩:=List.getElem?_eq_some_iff.1 E3
 simp only [ratV,formV] at K4
 have K5:=r_neg (p:=r40) B5a
 simp only [ratV,formV] at K6
 simp only [ratV,formV] at K7
 simp only [formV] at K8
 simp only [formV] at K9
 have W10_:IntKind.i64.wrap ((i_20:Int)+1)=(i_20:Int)+1:=wr64 W10.1 W10.2
 unfold Cont
 simp+decide [fel_h20,loopsOf, Tryz.f17,fel_C16,fel_C20,C1,C1_,G2,EL3,EG3,E3,K4,K5,K6,K7,K8,K9,W10_]
end
theorem fel_x20_1(C1:¬(i_20:Int)<(out2_6.length:Int)):
  Leave 0 (exec Tryz.prog (tab (n+9)) 0 93 (livesOf 17) big fel_C20) (livesOf 17 (outOf 20)) (fel_h20 a1 out2_6 out_6 i_16 i_20 out_20 mp_20 F12 q12 r31) (.exit 5) (fel_o20a a1 out2_6 out_6 i_16 out_20 mp_20):=by
 have C1_:¬i_20<out2_6.length:=by omega
 unfold Leave
 simp+decide [fel_h20,loopsOf, Tryz.f17,fel_o20a,fel_C16,fel_C20,C1,C1_]
theorem fel_r16_1(C1:(i_16:Int)<(out_6.length:Int))(G2:i_16<out_6.length)(E3:out_6[i_16]?=some (F12,q12))(K4:run (n+8) 45 [formV (F12,q12),.lit (.int .i64 a1)]=some (ratV r31))(L5:loopG Tryz.prog (tab (n+9)) 0 93 (livesOf 17) 20 fel_C20 (fel_h20 a1 out2_6 out_6 i_16 0 out_16 mp_16 F12 q12 r31)=some (.exit 5,fel_o20a a1 out2_6 out_6 i_16 out_20 mp_20))(W6:InI ((i_16:Int)+1)):
  Cont 0 (exec Tryz.prog (tab (n+9)) 0 93 (livesOf 17) big fel_C16) (livesOf 17 16) (fel_h16 a1 out2_6 out_6 i_16 out_16 mp_16) (fel_h16 a1 out2_6 out_6 (i_16+1) out_20 mp_20):=by
 have C1_:i_16<out_6.length:=by omega
 obtain ⟨EL3,EG3⟩:=List.getElem?_eq_some_iff.1 E3
 simp only [ratV,formV] at K4
 have W6_:IntKind.i64.wrap ((i_16:Int)+1)=(i_16:Int)+1:=wr64 W6.1 W6.2
 unfold Cont
 simp+decide [fel_h16,loopsOf, Tryz.f17,fel_C16,C1,C1_,G2,EL3,EG3,E3,K4,W6_]
 rw [loopX_G (C':=fel_C20) (e:=(fel_h20 a1 out2_6 out_6 i_16 0 out_16 mp_16 F12 q12 r31)) ?_ ?_,L5]
 rotate_left
 ·kernel_rfl
 ·simp+decide [fel_h20,loopsOf, Tryz.f17,fel_C16,C1,C1_,G2,EL3,EG3,E3,K4,W6_]
 simp+decide [fel_o20a,loopsOf, Tryz.f17,fel_C16,C1,C1_,G2,EL3,EG3,E3,K4,W6_]
theorem fel_x16_1(C1:¬(i_16:Int)<(out_6.length:Int)):
  Leave 0 (exec Tryz.prog (tab (n+9)) 0 93 (livesOf 17) big fel_C16) (livesOf 17 (outOf 16)) (fel_h16 a1 out2_6 out_6 i_16 out_16 mp_16) (.exit 3) (fel_o16a out_16 mp_16):=by
 have C1_:¬i_16<out_6.length:=by omega
 unfold Leave
 simp+decide [fel_h16,loopsOf, Tryz.f17,fel_o16a,fel_C16,C1,C1_]
theorem fel_f1(C1:a1<0):
  run (n+9) 17 [.sl 4 (a0.map formC),.lit (.int .i64 a1)]=some (.tup [.sl 4 [],.lit (.int .i64 1)]):=by
 unfold run fnP
 simp+decide [Tryz.f17,C1]
theorem fel_f4(C1:¬a1<0)(K2:run (n+8) 44 [.sl 4 (a0.map formC),.lit (.int .i64 4611686018427387904)]=some (.lit (.bool r)))(C3:r=true)(L4:loopG Tryz.prog (tab (n+9)) 0 93 (livesOf 17) 6 fel_C6 (fel_h6 a0 a1 [] [] 0 [] [])=some (.exit 0,fel_o6a a1 out_6 out2_6 out3_6 mp_6))(L5:loopG Tryz.prog (tab (n+9)) 0 93 (livesOf 17) 16 fel_C16 (fel_h16 a1 out2_6 out_6 0 out3_6 mp_6)=some (.exit 3,fel_o16a out_16 mp_16))(C6:¬4096<(out_16.length:Int)):
  run (n+9) 17 [.sl 4 (a0.map formC),.lit (.int .i64 a1)]=some (.tup [.sl 4 (out_16.map formC),.lit (.int .i64 0)]):=by
 have C6_:¬4096<out_16.length:=by omega
 unfold run fnP
 simp+decide [Tryz.f17,C1,K2,C3,C6,C6_]
 rw [loopX_G (C':=fel_C6) (e:=(fel_h6 a0 a1 [] [] 0 [] [])) ?_ ?_,L4]
 rotate_left
 ·kernel_rfl
 ·simp+decide [fel_h6,C1,K2,C3,C6,C6_]
 simp+decide [fel_o6a,C1,K2,C3,C6,C6_]
 rw [loopX_G (C':=fel_C16) (e:=(fel_h16 a1 out2_6 out_6 0 out3_6 mp_6)) ?_ ?_,L5]
 rotate_left
 ·kernel_rfl
 ·simp+decide [fel_h16,C1,K2,C3,C6,C6_]
 simp+decide [fel_o16a,C1,K2,C3,C6,C6_]
end
end
section
open Go.RowKit
noncomputable def rel_C5:Code:=(loopsOf (bodyOf Tryz.f18)).getD 0 .skip
noncomputable def rel_C16:Code:=(loopsOf (bodyOf Tryz.f18)).getD 1 .skip
noncomputable def rel_C19:Code:=(loopsOf rel_C16).getD 0 .skip
def rel_h5(a0:List Form)(a1:Int)(out_5:List Form)(out2_5:List Form)(out3_5:List Form)(i_5:Nat):St:=
 ⟨[(0,.sl 4 (a0.map formC)),(1,.lit (.int .i64 a1)),(6,.own 0 out_5.length),(7,.own 1 out2_5.length),(8,.own 2 out3_5.length),(9,.lit (.int .i64 (i_5:Int)))],
  [(0,some (.row 28 4 (out_5.map formC) 0)),
   (1,some (.row 28 4 (out2_5.map formC) 0)),
   (2,some (.row 28 4 (out3_5.map formC) 0))],3⟩
def rel_h19(a1:Int)(out_19:List Form)(out2_5:List Form)(out3_5:List Form)(i_16:Nat)(i_19:Nat):St:=
 ⟨[(1,.lit (.int .i64 a1)),(6,.own 0 out_19.length),(7,.own 1 out2_5.length),(8,.own 2 out3_5.length),(10,.lit (.int .i64 (i_16:Int))),(11,.lit (.int .i64 (i_19:Int)))],
  [(0,some (.row 28 4 (out_19.map formC) 0)),
   (1,some (.row 28 4 (out2_5.map formC) 0)),
   (2,some (.row 28 4 (out3_5.map formC) 0))],3⟩
def rel_h16(a1:Int)(out_16:List Form)(out2_5:List Form)(out3_5:List Form)(i_16:Nat):St:=
 ⟨[(1,.lit (.int .i64 a1)),(6,.own 0 out_16.length),(7,.own 1 out2_5.length),(8,.own 2 out3_5.length),(10,.lit (.int .i64 (i_16:Int)))],
  [(0,some (.row 28 4 (out_16.map formC) 0)),
   (1,some (.row 28 4 (out2_5.map formC) 0)),
   (2,some (.row 28 4 (out3_5.map formC) 0))],3⟩
def rel_o5b(a1:Int)(out_5:List Form)(out2_5:List Form)(out3_5:List Form):St:=
 ⟨[(1,.lit (.int .i64 a1)),(4,.any),(5,.any),(6,.own 0 out_5.length),(7,.own 1 out2_5.length),(8,.own 2 out3_5.length)],
  [(0,some (.row 28 4 (out_5.map formC) 0)),
   (1,some (.row 28 4 (out2_5.map formC) 0)),
   (2,some (.row 28 4 (out3_5.map formC) 0))],3⟩
def rel_o19a(a1:Int)(out_19:List Form)(out2_5:List Form)(out3_5:List Form)(i_16:Nat):St:=
 ⟨[(1,.lit (.int .i64 a1)),(6,.own 0 out_19.length),(7,.own 1 out2_5.length),(8,.own 2 out3_5.length),(10,.lit (.int .i64 (i_16:Int)))],
  [(0,some (.row 28 4 (out_19.map formC) 0)),
   (1,some (.row 28 4 (out2_5.map formC) 0)),
   (2,some (.row 28 4 (out3_5.map formC) 0))],3⟩
def rel_o16a(out_16:List Form):St:=
 ⟨[(6,.own 0 out_16.length)],
  [(0,some (.row 28 4 (out_16.map formC) 0))],1⟩
section
variable{out_5:List Form}{a1:Int}{n:Nat}{r5:Bool}{a0:List Form}{q3:Rat}{out2_5:List Form}{i_5:Nat}{r6:Rat}{F3:List (Int × Rat)}{out3_5:List Form}{R3:List Form}{out_19:List Form}{i_16:Nat}{i_19:Nat}{r50:Form}{q21:Rat}{r49:Form}{F20:List (Int × Rat)}{r51:Form}{q20:Rat}{r47:Rat}{r48:Rat}{F21:List (Int × Rat)}{R12:List Form}{out_16:List Form}
section
variable(C1:(i_5:Int)<(a0.length:Int))(E2:a0[i_5]?=some (F3,q3))(K3:run (n+8) 21 [formV (F3,q3),.lit (.int .i64 1099511627776)]=some (.lit (.bool r5)))(C4:r5=true)(K5:run (n+8) 22 [formV (F3,q3),.lit (.int .i64 a1)]=some (ratV r6))(B6a:H r6≤17179869184)
include C1 E2 K3 C4 K5 B6a
theorem rel_r5_1(C7:sgR r6=0)(K8:runL (n+8) 49 [.own 0 out_5.length,formV (F3,q3)] [.row 28 4 (out_5.map formC) 0]=some (.own 0 out_5.length,[(0,.row 28 4 (out_5.map formC) 0)]))(W9:InI ((i_5:Int)+1)):
  Cont 0 (exec Tryz.prog (tab (n+9)) 0 103 (livesOf 18) big rel_C5) (livesOf 18 5) (rel_h5 a0 a1 out_5 out2_5 out3_5 i_5) (rel_h5 a0 a1 out_5 out2_5 out3_5 (i_5+1)):=by
 have C1_:i_5<a0.length:=by omega
 obtain ⟨EL2,EG2⟩:=List.getElem?_eq_some_iff.1 E2
 simp only [formV] at K3
 simp only [ratV,formV] at K5
 have K6:=r_sign (p:=r6) B6a
 have C7_:(sgR r6==0)=true:=by rw [C7];simp
 have C7_n:(sgR r6 !=0)=false:=by rw [C7];simp
 simp only [formV] at K8
 have W9_:IntKind.i64.wrap ((i_5:Int)+1)=(i_5:Int)+1:=wr64 W9.1 W9.2
 unfold Cont
 simp+decide [rel_h5,loopsOf, Tryz.f18,rel_C5,C1,C1_,EL2,EG2,E2,K3,C4,K5,K6,C7_,C7_n,K8,W9_]
theorem rel_r5_2(C7:sgR r6=0)(K8:runL (n+8) 49 [.own 0 out_5.length,formV (F3,q3)] [.row 28 4 (out_5.map formC) 0]=some (.own 3 R3.length,[(3,.row 28 4 (R3.map formC) 0)]))(W9:InI ((i_5:Int)+1)):
  Cont 0 (exec Tryz.prog (tab (n+9)) 0 103 (livesOf 18) big rel_C5) (livesOf 18 5) (rel_h5 a0 a1 out_5 out2_5 out3_5 i_5) (rel_h5 a0 a1 R3 out2_5 out3_5 (i_5+1)):=by
 have C1_:i_5<a0.length:=by omega
 obtain ⟨EL2,EG2⟩:=List.getElem?_eq_some_iff.1 E2
 simp only [formV] at K3
 simp only [ratV,formV] at K5
 have K6:=r_sign (p:=r6) B6a
 have C7_:(sgR r6==0)=true:=by rw [C7];simp
 have C7_n:(sgR r6 !=0)=false:=by rw [C7];simp
 simp only [formV] at K8
 have W9_:IntKind.i64.wrap ((i_5:Int)+1)=(i_5:Int)+1:=wr64 W9.1 W9.2
 unfold Cont
 simp+decide [rel_h5,loopsOf, Tryz.f18,rel_C5,C1,C1_,EL2,EG2,E2,K3,C4,K5,K6,C7_,C7_n,K8,W9_]
theorem rel_r5_3(C7:¬sgR r6=0)(C8:sgR r6=1)(M9:out2_5.length+1≤100000000)(W10:InI ((i_5:Int)+1)):
  Cont 0 (exec Tryz.prog (tab (n+9)) 0 103 (livesOf 18) big rel_C5) (livesOf 18 5) (rel_h5 a0 a1 out_5 out2_5 out3_5 i_5) (rel_h5 a0 a1 out_5 (out2_5++[(F3,q3)]) out3_5 (i_5+1)):=by
 have C1_:i_5<a0.length:=by omega
 obtain ⟨EL2,EG2⟩:=List.getElem?_eq_some_iff.1 E2
 simp only [formV] at K3
 simp only [ratV,formV] at K5
 have K6:=r_sign (p:=r6) B6a
 have C7_:(sgR r6==0)=false:=by simpa using C7
 have C7_n:(sgR r6 !=0)=true:=by simpa using C7
 have C8_:(sgR r6==1)=true:=by rw [C8];simp
 have C8_n:(sgR r6 !=1)=false:=by rw [C8];simp
 have M9_:∀b,b≤10000→roomy (out2_5.length+1) b=true:=fun b hb=>roomy_s M9 hb
 have W10_:IntKind.i64.wrap ((i_5:Int)+1)=(i_5:Int)+1:=wr64 W10.1 W10.2
 unfold Cont
 simp+decide [rel_h5,loopsOf, Tryz.f18,rel_C5,C1,C1_,EL2,EG2,E2,K3,C4,K5,K6,C7_,C7_n,C8_,C8_n,M9_,W10_]
theorem rel_r5_4(C7:¬sgR r6=0)(C8:¬sgR r6=1)(M9:out3_5.length+1≤100000000)(W10:InI ((i_5:Int)+1)):
  Cont 0 (exec Tryz.prog (tab (n+9)) 0 103 (livesOf 18) big rel_C5) (livesOf 18 5) (rel_h5 a0 a1 out_5 out2_5 out3_5 i_5) (rel_h5 a0 a1 out_5 out2_5 (out3_5++[(F3,q3)]) (i_5+1)):=by
 have C1_:i_5<a0.length:=by omega
 obtain ⟨EL2,EG2⟩:=List.getElem?_eq_some_iff.1 E2
 simp only [formV] at K3
 simp only [ratV,formV] at K5
 have K6:=r_sign (p:=r6) B6a
 have C7_:(sgR r6==0)=false:=by simpa using C7
 have C7_n:(sgR r6 !=0)=true:=by simpa using C7
 have C8_:(sgR r6==1)=false:=by simpa using C8
 have C8_n:(sgR r6 !=1)=true:=by simpa using C8
 have M9_:∀b,b≤10000→roomy (out3_5.length+1) b=true:=fun b hb=>roomy_s M9 hb
 have W10_:IntKind.i64.wrap ((i_5:Int)+1)=(i_5:Int)+1:=wr64 W10.1 W10.2
 unfold Cont
 simp+decide [rel_h5,loopsOf, Tryz.f18,rel_C5,C1,C1_,EL2,EG2,E2,K3,C4,K5,K6,C7_,C7_n,C8_,C8_n,M9_,W10_]
end
theorem rel_x5_2(C1:¬(i_5:Int)<(a0.length:Int)):
  Leave 0 (exec Tryz.prog (tab (n+9)) 0 103 (livesOf 18) big rel_C5) (livesOf 18 (outOf 5)) (rel_h5 a0 a1 out_5 out2_5 out3_5 i_5) (.exit 0) (rel_o5b a1 out_5 out2_5 out3_5):=by
 have C1_:¬i_5<a0.length:=by omega
 unfold Leave
 simp+decide [rel_h5,loopsOf, Tryz.f18,rel_o5b,rel_C5,C1,C1_]
section
variable(C1:(i_19:Int)<(out3_5.length:Int))(G2:i_16<out2_5.length)(E3:out2_5[i_16]?=some (F20,q20))(K4:run (n+8) 22 [formV (F20,q20),.lit (.int .i64 a1)]=some (ratV r47))(G5:i_19<out3_5.length)(E6:out3_5[i_19]?=some (F21,q21))(K7:run (n+8) 22 [formV (F21,q21),.lit (.int .i64 a1)]=some (ratV r48))(B8a:H r48≤17179869184)(K10:run (n+8) 41 [formV (F20,q20),ratV (-r48)]=some (formV r49))(K12:run (n+8) 41 [formV (F21,q21),ratV r47]=some (formV r50))(K13:run (n+8) 50 [formV r49,formV r50]=some (formV r51))
include C1 G2 E3 K4 G5 E6 K7 B8a K10 K12 K13
theorem rel_r19_1(K14:runL (n+8) 49 [.own 0 out_19.length,formV r51] [.row 28 4 (out_19.map formC) 0]=some (.own 0 out_19.length,[(0,.row 28 4 (out_19.map formC) 0)]))(W15:InI ((i_19:Int)+1)):
  Cont 0 (exec Tryz.prog (tab (n+9)) 0 103 (livesOf 18) big rel_C19) (livesOf 18 19) (rel_h19 a1 out_19 out2_5 out3_5 i_16 i_19) (rel_h19 a1 out_19 out2_5 out3_5 i_16 (i_19+1)):=by
 have C1_:i_19<out3_5.length:=by omega
 obtain ⟨EL3,EG3⟩:=List.getElem?_eq_some_iff.1 E3
 simp only [ratV,formV] at K4
 obtain ⟨EL6,EG6⟩:=List.getElem?_eq_some_iff.1 E6
 simp only [ratV,formV] at K7
 have K8:=r_neg (p:=r48) B8a
 simp only [ratV,formV] at K10
 simp only [ratV,formV] at K12
 simp only [formV] at K13
 simp only [formV] at K14
 have W15_:IntKind.i64.wrap ((i_19:Int)+1)=(i_19:Int)+1:=wr64 W15.1 W15.2
 unfold Cont
 simp+decide [rel_h19,loopsOf, Tryz.f18,rel_C16,rel_C19,C1,C1_,G2,EL3,EG3,E3,K4,G5,EL6,EG6,E6,K7,K8,K10,K12,K13,K14,W15_]
theorem rel_r19_2(K14:runL (n+8) 49 [.own 0 out_19.length,formV r51] [.row 28 4 (out_19.map formC) 0]=some (.own 3 R12.length,[(3,.row 28 4 (R12.map formC) 0)]))(W15:InI ((i_19:Int)+1)):
  Cont 0 (exec Tryz.prog (tab (n+9)) 0 103 (livesOf 18) big rel_C19) (livesOf 18 19) (rel_h19 a1 out_19 out2_5 out3_5 i_16 i_19) (rel_h19 a1 R12 out2_5 out3_5 i_16 (i_19+1)):=by
 have C1_:i_19<out3_5.length:=by omega
 obtain ⟨EL3,EG3⟩:=List.getElem?_eq_some_iff.1 E3
 simp only [ratV,formV] at K4
 obtain ⟨EL6,EG6⟩:=List.getElem?_eq_some_iff.1 E6
 simp only [ratV,formV] at K7
 have K8:=r_neg (p:=r48) B8a
 simp only [ratV,formV] at K10
 simp only [ratV,formV] at K12
 simp only [formV] at K13
 simp only [formV] at K14
 have W15_:IntKind.i64.wrap ((i_19:Int)+1)=(i_19:Int)+1:=wr64 W15.1 W15.2
 unfold Cont
 simp+decide [rel_h19,loopsOf, Tryz.f18,rel_C16,rel_C19,C1,C1_,G2,EL3,EG3,E3,K4,G5,EL6,EG6,E6,K7,K8,K10,K12,K13,K14,W15_]
end
theorem rel_x19_1(C1:¬(i_19:Int)<(out3_5.length:Int)):
  Leave 0 (exec Tryz.prog (tab (n+9)) 0 103 (livesOf 18) big rel_C19) (livesOf 18 (outOf 19)) (rel_h19 a1 out_19 out2_5 out3_5 i_16 i_19) (.exit 5) (rel_o19a a1 out_19 out2_5 out3_5 i_16):=by
 have C1_:¬i_19<out3_5.length:=by omega
 unfold Leave
 simp+decide [rel_h19,loopsOf, Tryz.f18,rel_o19a,rel_C16,rel_C19,C1,C1_]
theorem rel_r16_1(C1:(i_16:Int)<(out2_5.length:Int))(L2:loopG Tryz.prog (tab (n+9)) 0 103 (livesOf 18) 19 rel_C19 (rel_h19 a1 out_16 out2_5 out3_5 i_16 0)=some (.exit 5,rel_o19a a1 out_19 out2_5 out3_5 i_16))(W3:InI ((i_16:Int)+1)):
  Cont 0 (exec Tryz.prog (tab (n+9)) 0 103 (livesOf 18) big rel_C16) (livesOf 18 16) (rel_h16 a1 out_16 out2_5 out3_5 i_16) (rel_h16 a1 out_19 out2_5 out3_5 (i_16+1)):=by
 have C1_:i_16<out2_5.length:=by omega
 have W3_:IntKind.i64.wrap ((i_16:Int)+1)=(i_16:Int)+1:=wr64 W3.1 W3.2
 unfold Cont
 simp+decide [rel_h16,loopsOf, Tryz.f18,rel_C16,C1,C1_,W3_]
 rw [loopX_G (C':=rel_C19) (e:=(rel_h19 a1 out_16 out2_5 out3_5 i_16 0)) ?_ ?_,L2]
 rotate_left
 ·kernel_rfl
 ·simp+decide [rel_h19,loopsOf, Tryz.f18,rel_C16,C1,C1_,W3_]
 simp+decide [rel_o19a,loopsOf, Tryz.f18,rel_C16,C1,C1_,W3_]
theorem rel_x16_1(C1:¬(i_16:Int)<(out2_5.length:Int)):
  Leave 0 (exec Tryz.prog (tab (n+9)) 0 103 (livesOf 18) big rel_C16) (livesOf 18 (outOf 16)) (rel_h16 a1 out_16 out2_5 out3_5 i_16) (.exit 3) (rel_o16a out_16):=by
 have C1_:¬i_16<out2_5.length:=by omega
 unfold Leave
 simp+decide [rel_h16,loopsOf, Tryz.f18,rel_o16a,rel_C16,C1,C1_]
theorem rel_f1(C1:a1<0):
  run (n+9) 18 [.sl 4 (a0.map formC),.lit (.int .i64 a1)]=some (.tup [.sl 4 [],.lit (.int .i64 1)]):=by
 unfold run fnP
 simp+decide [Tryz.f18,C1]
theorem rel_f4(C1:¬a1<0)(L2:loopG Tryz.prog (tab (n+9)) 0 103 (livesOf 18) 5 rel_C5 (rel_h5 a0 a1 [] [] [] 0)=some (.exit 0,rel_o5b a1 out_5 out2_5 out3_5))(L3:loopG Tryz.prog (tab (n+9)) 0 103 (livesOf 18) 16 rel_C16 (rel_h16 a1 out_5 out2_5 out3_5 0)=some (.exit 3,rel_o16a out_16))(C4:¬4096<(out_16.length:Int)):
  run (n+9) 18 [.sl 4 (a0.map formC),.lit (.int .i64 a1)]=some (.tup [.sl 4 (out_16.map formC),.lit (.int .i64 0)]):=by
 have C4_:¬4096<out_16.length:=by omega
 unfold run fnP
 simp+decide [Tryz.f18,C1,C4,C4_]
 rw [loopX_G (C':=rel_C5) (e:=(rel_h5 a0 a1 [] [] [] 0)) ?_ ?_,L2]
 rotate_left
 ·kernel_rfl
 ·simp+decide [rel_h5,C1,C4,C4_]
 simp+decide [rel_o5b,C1,C4,C4_]
 rw [loopX_G (C':=rel_C16) (e:=(rel_h16 a1 out_5 out2_5 out3_5 0)) ?_ ?_,L3]
 rotate_left
 ·kernel_rfl
 ·simp+decide [rel_h16,C1,C4,C4_]
 simp+decide [rel_o16a,C1,C4,C4_]
end
end
section
open Go.RowKit
noncomputable def lva_C2:Code:=(loopsOf (bodyOf Tryz.f67)).getD 0 .skip
def lva_h2(a0:Form)(a1:Int)(i_2:Nat):St:=
 ⟨[(1,.lit (.int .i64 a1)),(2,.ptr 0 0),(8,.sl 4 (a0.1.map termC)),(9,.lit (.int .i64 (a0.1.length:Int))),(10,.lit (.int .i64 (i_2:Int)))],
  [(0,some (.box 28 [.sl 4 (a0.1.map termC),.lit (.bool (rawQ a0.2).s),natA (rawQ a0.2).l1,natA (rawQ a0.2).l2] false))],1⟩
def lva_o2a(a0:Form):St:=
 ⟨[(2,.ptr 0 0),(4,.lit (.bool false))],
  [(0,some (.box 28 [.sl 4 (a0.1.map termC),.lit (.bool (rawQ a0.2).s),natA (rawQ a0.2).l1,natA (rawQ a0.2).l2] false))],1⟩
def lva_o2b(a0:Form):St:=
 ⟨[(2,.ptr 0 0),(4,.any)],
  [(0,some (.box 28 [.sl 4 (a0.1.map termC),.lit (.bool (rawQ a0.2).s),natA (rawQ a0.2).l1,natA (rawQ a0.2).l2] false))],1⟩
section
variable {a1 : Int} {n : Nat} {a0 : Form} {q5 : Rat} {q4 : Rat} {v5 : Int} {v4 : Int} {i_2 : Nat}
section
variable(C1:(i_2:Int)<(a0.1.length:Int))(E2:a0.1[i_2]?=some (v4,q4))
include C1 E2
theorem lva_r2_1(C3:¬v4<0)(C4:¬a1≤v4)(C5:0<(i_2:Int))(W6:InI ((i_2:Int)-1))(E7:a0.1[i_2-1]?=some (v5,q5))(Z7:1≤i_2)(C8:¬v4≤v5)(B9a:H q4≤17179869184)(C10:¬sgR q4=0)(W12:InI ((i_2:Int)+1)):
  Cont 0 (exec Tryz.prog (tab n) 0 56 (livesOf 67) big lva_C2) (livesOf 67 2) (lva_h2 a0 a1 i_2) (lva_h2 a0 a1 (i_2+1)):=by
 have C1_:i_2<a0.1.length:=by omega
 obtain ⟨EL2,EG2⟩:=List.getElem?_eq_some_iff.1 E2
 have C5_:0<i_2:=by omega
 have C5_z:(i_2:Int)≠0:=by omega
 have C5_e:((i_2:Int)==0)=false:=by simpa using C5_z
 have C5_g:((i_2:Int) !=0)=true:=by simpa using C5_z
 have W6_:IntKind.i64.wrap ((i_2:Int)-1)=(i_2:Int)-1:=wr64 W6.1 W6.2
 obtain ⟨EL7,EG7⟩:=List.getElem?_eq_some_iff.1 E7
 have Z7_0:(1:Int)≤(i_2:Int):=by omega
 have Z7_1:0≤(i_2:Int)-1:=by omega
 have K9:=r_sign (p:=q4) B9a
 have C10_:(sgR q4==0)=false:=by simpa using C10
 have C10_n:(sgR q4 !=0)=true:=by simpa using C10
 have K11:=r_valid (p:=q4) B9a
 have W12_:IntKind.i64.wrap ((i_2:Int)+1)=(i_2:Int)+1:=wr64 W12.1 W12.2
 unfold Cont
 simp+decide [lva_h2,loopsOf, Tryz.f67,lva_C2,C1,C1_,EL2,EG2,E2,C3,C4,C5,C5_,C5_e,C5_g,W6_,EL7,EG7,E7,Z7,Z7_0,Z7_1,C8,K9,C10_,C10_n,K11,W12_]
theorem lva_r2_2(C3:¬v4<0)(C4:¬a1≤v4)(C5:¬0<(i_2:Int))(B6a:H q4≤17179869184)(C7:¬sgR q4=0)(W9:InI ((i_2:Int)+1)):
  Cont 0 (exec Tryz.prog (tab n) 0 56 (livesOf 67) big lva_C2) (livesOf 67 2) (lva_h2 a0 a1 i_2) (lva_h2 a0 a1 (i_2+1)):=by
 have C1_:i_2<a0.1.length:=by omega
 obtain ⟨EL2,EG2⟩:=List.getElem?_eq_some_iff.1 E2
 have C5_:¬0<i_2:=by omega
 have C5_z:(i_2:Int)=0:=by omega
 have C5_e:((i_2:Int)==0)=true:=by rw [C5_z];simp
 have C5_g:((i_2:Int) !=0)=false:=by rw [C5_z];simp
 have K6:=r_sign (p:=q4) B6a
 have C7_:(sgR q4==0)=false:=by simpa using C7
 have C7_n:(sgR q4 !=0)=true:=by simpa using C7
 have K8:=r_valid (p:=q4) B6a
 have W9_:IntKind.i64.wrap ((i_2:Int)+1)=(i_2:Int)+1:=wr64 W9.1 W9.2
 unfold Cont
 simp+decide [lva_h2,loopsOf, Tryz.f67,lva_C2,C1,C1_,EL2,EG2,E2,C3,C4,C5,C5_,C5_e,C5_g,K6,C7_,C7_n,K8,W9_]
theorem lva_x2_1(C3:v4<0):
  Leave 0 (exec Tryz.prog (tab n) 0 56 (livesOf 67) big lva_C2) (livesOf 67 (outOf 2)) (lva_h2 a0 a1 i_2) (.ret) (lva_o2a a0):=by
 have C1_:i_2<a0.1.length:=by omega
 obtain ⟨EL2,EG2⟩:=List.getElem?_eq_some_iff.1 E2
 unfold Leave
 simp+decide [lva_h2,loopsOf, Tryz.f67,lva_o2a,lva_C2,C1,C1_,EL2,EG2,E2,C3]
theorem lva_x2_2(C3:¬v4<0)(C4:a1≤v4):
  Leave 0 (exec Tryz.prog (tab n) 0 56 (livesOf 67) big lva_C2) (livesOf 67 (outOf 2)) (lva_h2 a0 a1 i_2) (.ret) (lva_o2a a0):=by
 have C1_:i_2<a0.1.length:=by omega
 obtain ⟨EL2,EG2⟩:=List.getElem?_eq_some_iff.1 E2
 unfold Leave
 simp+decide [lva_h2,loopsOf, Tryz.f67,lva_o2a,lva_C2,C1,C1_,EL2,EG2,E2,C3,C4]
theorem lva_x2_3(C3:¬v4<0)(C4:¬a1≤v4)(C5:0<(i_2:Int))(W6:InI ((i_2:Int)-1))(E7:a0.1[i_2-1]?=some (v5,q5))(Z7:1≤i_2)(C8:v4≤v5):
  Leave 0 (exec Tryz.prog (tab n) 0 56 (livesOf 67) big lva_C2) (livesOf 67 (outOf 2)) (lva_h2 a0 a1 i_2) (.ret) (lva_o2a a0):=by
 have C1_:i_2<a0.1.length:=by omega
 obtain ⟨EL2,EG2⟩:=List.getElem?_eq_some_iff.1 E2
 have C5_:0<i_2:=by omega
 have C5_z:(i_2:Int)≠0:=by omega
 have C5_e:((i_2:Int)==0)=false:=by simpa using C5_z
 have C5_g:((i_2:Int) !=0)=true:=by simpa using C5_z
 have W6_:IntKind.i64.wrap ((i_2:Int)-1)=(i_2:Int)-1:=wr64 W6.1 W6.2
 obtain ⟨EL7,EG7⟩:=List.getElem?_eq_some_iff.1 E7
 have Z7_0:(1:Int)≤(i_2:Int):=by omega
 have Z7_1:0≤(i_2:Int)-1:=by omega
 unfold Leave
 simp+decide [lva_h2,loopsOf, Tryz.f67,lva_o2a,lva_C2,C1,C1_,EL2,EG2,E2,C3,C4,C5,C5_,C5_e,C5_g,W6_,EL7,EG7,E7,Z7,Z7_0,Z7_1,C8]
theorem lva_x2_4(C3:¬v4<0)(C4:¬a1≤v4)(C5:0<(i_2:Int))(W6:InI ((i_2:Int)-1))(E7:a0.1[i_2-1]?=some (v5,q5))(Z7:1≤i_2)(C8:¬v4≤v5)(B9a:H q4≤17179869184)(C10:sgR q4=0):
  Leave 0 (exec Tryz.prog (tab n) 0 56 (livesOf 67) big lva_C2) (livesOf 67 (outOf 2)) (lva_h2 a0 a1 i_2) (.ret) (lva_o2a a0):=by
 have C1_:i_2<a0.1.length:=by omega
 obtain ⟨EL2,EG2⟩:=List.getElem?_eq_some_iff.1 E2
 have C5_:0<i_2:=by omega
 have C5_z:(i_2:Int)≠0:=by omega
 have C5_e:((i_2:Int)==0)=false:=by simpa using C5_z
 have C5_g:((i_2:Int) !=0)=true:=by simpa using C5_z
 have W6_:IntKind.i64.wrap ((i_2:Int)-1)=(i_2:Int)-1:=wr64 W6.1 W6.2
 obtain ⟨EL7,EG7⟩:=List.getElem?_eq_some_iff.1 E7
 have Z7_0:(1:Int)≤(i_2:Int):=by omega
 have Z7_1:0≤(i_2:Int)-1:=by omega
 have K9:=r_sign (p:=q4) B9a
 have C10_:(sgR q4==0)=true:=by rw [C10];simp
 have C10_n:(sgR q4 !=0)=false:=by rw [C10];simp
 unfold Leave
 simp+decide [lva_h2,loopsOf, Tryz.f67,lva_o2a,lva_C2,C1,C1_,EL2,EG2,E2,C3,C4,C5,C5_,C5_e,C5_g,W6_,EL7,EG7,E7,Z7,Z7_0,Z7_1,C8,K9,C10_,C10_n]
theorem lva_x2_5(C3:¬v4<0)(C4:¬a1≤v4)(C5:¬0<(i_2:Int))(B6a:H q4≤17179869184)(C7:sgR q4=0):
  Leave 0 (exec Tryz.prog (tab n) 0 56 (livesOf 67) big lva_C2) (livesOf 67 (outOf 2)) (lva_h2 a0 a1 i_2) (.ret) (lva_o2a a0):=by
 have C1_:i_2<a0.1.length:=by omega
 obtain ⟨EL2,EG2⟩:=List.getElem?_eq_some_iff.1 E2
 have C5_:¬0<i_2:=by omega
 have C5_z:(i_2:Int)=0:=by omega
 have C5_e:((i_2:Int)==0)=true:=by rw [C5_z];simp
 have C5_g:((i_2:Int) !=0)=false:=by rw [C5_z];simp
 have K6:=r_sign (p:=q4) B6a
 have C7_:(sgR q4==0)=true:=by rw [C7];simp
 have C7_n:(sgR q4 !=0)=false:=by rw [C7];simp
 unfold Leave
 simp+decide [lva_h2,loopsOf, Tryz.f67,lva_o2a,lva_C2,C1,C1_,EL2,EG2,E2,C3,C4,C5,C5_,C5_e,C5_g,K6,C7_,C7_n]
end
theorem lva_x2_6(C1:¬(i_2:Int)<(a0.1.length:Int)):
  Leave 0 (exec Tryz.prog (tab n) 0 56 (livesOf 67) big lva_C2) (livesOf 67 (outOf 2)) (lva_h2 a0 a1 i_2) (.exit 0) (lva_o2b a0):=by
 have C1_:¬i_2<a0.1.length:=by omega
 unfold Leave
 simp+decide [lva_h2,loopsOf, Tryz.f67,lva_o2b,lva_C2,C1,C1_]
theorem lva_f1(L1:loopG Tryz.prog (tab n) 0 56 (livesOf 67) 2 lva_C2 (lva_h2 a0 a1 0)=some (.ret,lva_o2a a0)):
  run n 67 [formV a0,.lit (.int .i64 a1)]=some (.lit (.bool false)):=by
 unfold run fnP
 simp+decide [Tryz.f67]
 rw [loopX_G (C':=lva_C2) (e:=(lva_h2 a0 a1 0)) ?_ ?_,L1]
 rotate_left
 ·kernel_rfl
 ·simp+decide [lva_h2]
 simp+decide [lva_o2a]
theorem lva_f2(L1:loopG Tryz.prog (tab n) 0 56 (livesOf 67) 2 lva_C2 (lva_h2 a0 a1 0)=some (.exit 0,lva_o2b a0))(B2a:H a0.2≤17179869184):
  run n 67 [formV a0,.lit (.int .i64 a1)]=some (.lit (.bool true)):=by
 have K2:=r_valid (p:=a0.2) B2a
 unfold run fnP
 simp+decide [Tryz.f67,K2]
 rw [loopX_G (C':=lva_C2) (e:=(lva_h2 a0 a1 0)) ?_ ?_,L1]
 rotate_left
 ·kernel_rfl
 ·simp+decide [lva_h2,K2]
 simp+decide [lva_o2b,K2]
end
end
section
open Go.RowKit
attribute [local irreducible] run runL loopG exec
theorem lvalid_c{n:Nat}{f:Form}{vars:Int}(hB:BdF 17179869184 f):run n 67 [formV f,.lit (.int .i64 vars)]=some (.lit (.bool (tv (OkFm f vars)))):=by
 have hl:=hB.l
 have L:=loopG_all (O:=tab n) (P:= Tryz.prog) (m:=0) (N:=56) (lives:=livesOf 67) (r:=2) (C:=lva_C2) (M:=f.1.length) (enc:=lva_h2 f vars) (p:=fun i=>tv (OkTm f.1 vars i)) (exN:=.exit 0) (exE:=.ret) (out:=lva_o2b f) (outE:=lva_o2a f) (by omega) (by simp) (by simp)
  (fun i hi hI=>by
   have hx:f.1[i]?=some f.1[i]:=List.getElem?_eq_getElem hi
   generalize f.1[i]=t at hx
   obtain ⟨v,c⟩:=t
   have hc:H c≤17179869184:=hB.t _ (List.mem_of_getElem? hx)
   have C1:(i:Int)<(f.1.length:Int):=by omega
   have W:InI ((i:Int)+1):=⟨by omega,by omega⟩
   have W2:InI ((i:Int)-1):=⟨by omega,by omega⟩
   have hs:sgR c=0↔c=0:=sgR_eq_zero
   by_cases h0:0<i
   ·have hy:f.1[i-1]?=some (f.1[i-1]'(by omega)):=List.getElem?_eq_getElem _
    generalize f.1[i-1]'(by omega)=t at hy
    obtain ⟨v',c'⟩:=t
    refine ⟨fun hp=>?_,fun hp=>?_⟩
    ·obtain ⟨a1,a2,a3,a4⟩:=tv_true hp v c hx
     have a5:=a4 v' c' h0 hy
     exact lva_r2_1 C1 hx (by omega) (by omega) (by omega) W2 hy (by omega) (by omega) hc (fun h=>a3 (hs.1 h)) W
    ·by_cases b1:v<0
     ·exact lva_x2_1 C1 hx b1
     ·by_cases b2:vars≤v
      ·exact lva_x2_2 C1 hx b1 b2
      ·by_cases b3:v≤v'
       ·exact lva_x2_3 C1 hx b1 b2 (by omega) W2 hy (by omega) b3
       ·by_cases b4:c=0
        ·exact lva_x2_4 C1 hx b1 b2 (by omega) W2 hy (by omega) b3 hc (hs.2 b4)
        ·refine absurd (fun u d hu=>?_) (tv_false hp)
         rw [hx] at hu;cases hu
         exact ⟨by omega,by omega,b4,fun v2 c2 _ h2=>by rw [hy] at h2;cases h2;omega⟩
   ·refine ⟨fun hp=>?_,fun hp=>?_⟩
    ·obtain ⟨a1,a2,a3,a4⟩:=tv_true hp v c hx
     exact lva_r2_2 C1 hx (by omega) (by omega) (by omega) hc (fun h=>a3 (hs.1 h)) W
    ·by_cases b1:v<0
     ·exact lva_x2_1 C1 hx b1
     ·by_cases b2:vars≤v
      ·exact lva_x2_2 C1 hx b1 b2
      ·by_cases b4:c=0
       ·exact lva_x2_5 C1 hx b1 b2 (by omega) hc (hs.2 b4)
       ·refine absurd (fun u d hu=>?_) (tv_false hp)
        rw [hx] at hu;cases hu
        exact ⟨by omega,by omega,b4,fun v2 c2 h2=>absurd h2 h0⟩)
  (lva_x2_6 (by omega))
 by_cases h:OkFm f vars
 ·rw [if_pos (fun i hi=>tv_t (h i hi))] at L
  rw [tv_t h]
  exact lva_f2 L hB.k
 ·rw [if_neg (fun h2=>h fun i hi=>tv_true (h2 i hi))] at L
  rw [tv_f h]
  exact lva_f1 L
end
section
open Go.RowKit
noncomputable def lco_C2:Code:=(loopsOf (bodyOf Tryz.f45)).getD 0 .skip
def lco_h2(a0:Form)(a1:Int)(i_2:Nat):St:=
 ⟨[(1,.lit (.int .i64 a1)),(4,.ptr 0 0),(8,.sl 4 (a0.1.map termC)),(9,.lit (.int .i64 (a0.1.length:Int))),(10,.lit (.int .i64 (i_2:Int)))],
  [(0,some (.box 26 [.lit (.bool false),.nl 1,.nl 1] false))],1⟩
def lco_o2a(r3:Rat):St:=
 ⟨[(4,.ptr 0 0)],
  [(0,some (.box 26 [.lit (.bool (rawQ r3).s),natA (rawQ r3).l1,natA (rawQ r3).l2] false))],1⟩
def lco_o2b:St:=
 ⟨[(4,.ptr 0 0)],
  [(0,some (.box 26 [.lit (.bool false),.nl 1,.nl 1] false))],1⟩
section
variable {a1 : Int} {v3 : Int} {n : Nat} {a0 : Form} {q3 : Rat} {i_2 : Nat} {r3 : Rat}
theorem lco_r2_1(C1:(i_2:Int)<(a0.1.length:Int))(E2:a0.1[i_2]?=some (v3,q3))(C3:¬v3=a1)(W4:InI ((i_2:Int)+1)):
  Cont 0 (exec Tryz.prog (tab (n+3)) 0 23 (livesOf 45) big lco_C2) (livesOf 45 2) (lco_h2 a0 a1 i_2) (lco_h2 a0 a1 (i_2+1)):=by
 have C1_:i_2<a0.1.length:=by omega
 obtain ⟨EL2,EG2⟩:=List.getElem?_eq_some_iff.1 E2
 have C3_:(v3==a1)=false:=by simpa using C3
 have C3_n:(v3 !=a1)=true:=by simpa using C3
 have W4_:IntKind.i64.wrap ((i_2:Int)+1)=(i_2:Int)+1:=wr64 W4.1 W4.2
 unfold Cont
 simp+decide [lco_h2,loopsOf, Tryz.f45,lco_C2,C1,C1_,EL2,EG2,E2,C3_,C3_n,W4_]
theorem lco_x2_1(C1:(i_2:Int)<(a0.1.length:Int))(E2:a0.1[i_2]?=some (v3,q3))(C3:v3=a1)(K4:run (n+2) 83 [ratV q3]=some (ratV r3)):
  Leave 0 (exec Tryz.prog (tab (n+3)) 0 23 (livesOf 45) big lco_C2) (livesOf 45 (outOf 2)) (lco_h2 a0 a1 i_2) (.ret) (lco_o2a r3):=by
 have C1_:i_2<a0.1.length:=by omega
 obtain ⟨EL2,EG2⟩:=List.getElem?_eq_some_iff.1 E2
 have C3_:(v3==a1)=true:=by rw [C3];simp
 have C3_n:(v3 !=a1)=false:=by rw [C3];simp
 simp only [ratV] at K4
 unfold Leave
 simp+decide [lco_h2,loopsOf, Tryz.f45,lco_o2a,lco_C2,C1,C1_,EL2,EG2,E2,C3_,C3_n,K4]
theorem lco_x2_2(C1:¬(i_2:Int)<(a0.1.length:Int)):
  Leave 0 (exec Tryz.prog (tab (n+3)) 0 23 (livesOf 45) big lco_C2) (livesOf 45 (outOf 2)) (lco_h2 a0 a1 i_2) (.exit 0) (lco_o2b):=by
 have C1_:¬i_2<a0.1.length:=by omega
 unfold Leave
 simp+decide [lco_h2,loopsOf, Tryz.f45,lco_o2b,lco_C2,C1,C1_]
theorem lco_f1(L1:loopG Tryz.prog (tab (n+3)) 0 23 (livesOf 45) 2 lco_C2 (lco_h2 a0 a1 0)=some (.ret,lco_o2a r3)):
  run (n+3) 45 [formV a0,.lit (.int .i64 a1)]=some (ratV r3):=by
 unfold run fnP
 simp+decide [Tryz.f45]
 rw [loopX_G (C':=lco_C2) (e:=(lco_h2 a0 a1 0)) ?_ ?_,L1]
 rotate_left
 ·kernel_rfl
 ·simp+decide [lco_h2]
 simp+decide [lco_o2a]
theorem lco_f2(L1:loopG Tryz.prog (tab (n+3)) 0 23 (livesOf 45) 2 lco_C2 (lco_h2 a0 a1 0)=some (.exit 0,lco_o2b)):
  run (n+3) 45 [formV a0,.lit (.int .i64 a1)]=some (.agg [.lit (.bool false),.sl 1 [],.sl 1 []]):=by
 unfold run fnP
 simp+decide [Tryz.f45]
 rw [loopX_G (C':=lco_C2) (e:=(lco_h2 a0 a1 0)) ?_ ?_,L1]
 rotate_left
 ·kernel_rfl
 ·simp+decide [lco_h2]
 simp+decide [lco_o2b]
end
theorem lcp_f1{n:Nat}{a0:Rat}{r:List Nat}{r2:List Nat}(K1:(oN1 (fun _=>true) fun x=>natA (lmb (val x))) [natA (rawQ a0).l1]=some (natA r))(K2:(oN1 (fun _=>true) fun x=>natA (lmb (val x))) [natA (rawQ a0).l2]=some (natA r2)):
  run (n+2) 83 [ratV a0]=some (.agg [.lit (.bool (rawQ a0).s),natA r,natA r2]):=by
 unfold run fnP
 simp+decide [Tryz.f83,K1,K2]
noncomputable def fco_C2:Code:=(loopsOf (bodyOf Tryz.f22)).getD 0 .skip
def fco_h2(a0:Form)(a1:Int)(i_2:Nat):St:=
 ⟨[(1,.lit (.int .i64 a1)),(2,.ptr 0 0),(4,.ptr 1 0),(5,.lit (.int .i64 (i_2:Int)))],
  [(0,some (.box 28 [.sl 4 (a0.1.map termC),.lit (.bool (rawQ a0.2).s),natA (rawQ a0.2).l1,natA (rawQ a0.2).l2] false)),
   (1,some (.box 26 [.lit (.bool false),.nl 1,.nl 1] false))],2⟩
def fco_o2a(q3:Rat):St:=
 ⟨[(4,.ptr 0 0)],
  [(0,some (.box 26 [.lit (.bool (rawQ q3).s),natA (rawQ q3).l1,natA (rawQ q3).l2] false))],1⟩
def fco_o2b:St:=
 ⟨[(4,.ptr 0 0)],
  [(0,some (.box 26 [.lit (.bool false),.nl 1,.nl 1] false))],1⟩
section
variable {a1 : Int} {v3 : Int} {n : Nat} {a0 : Form} {q3 : Rat} {i_2 : Nat}
theorem fco_r2_1(C1:(i_2:Int)<(a0.1.length:Int))(E2:a0.1[i_2]?=some (v3,q3))(C3:¬v3=a1)(W4:InI ((i_2:Int)+1)):
  Cont 0 (exec Tryz.prog (tab n) 0 28 (livesOf 22) big fco_C2) (livesOf 22 2) (fco_h2 a0 a1 i_2) (fco_h2 a0 a1 (i_2+1)):=by
 have C1_:i_2<a0.1.length:=by omega
 obtain ⟨EL2,EG2⟩:=List.getElem?_eq_some_iff.1 E2
 have C3_:(v3==a1)=false:=by simpa using C3
 have C3_n:(v3 !=a1)=true:=by simpa using C3
 have W4_:IntKind.i64.wrap ((i_2:Int)+1)=(i_2:Int)+1:=wr64 W4.1 W4.2
 unfold Cont
 simp+decide [fco_h2,loopsOf, Tryz.f22,fco_C2,C1,C1_,EL2,EG2,E2,C3_,C3_n,W4_]
theorem fco_x2_1(C1:(i_2:Int)<(a0.1.length:Int))(E2:a0.1[i_2]?=some (v3,q3))(C3:v3=a1):
  Leave 0 (exec Tryz.prog (tab n) 0 28 (livesOf 22) big fco_C2) (livesOf 22 (outOf 2)) (fco_h2 a0 a1 i_2) (.ret) (fco_o2a q3):=by
 have C1_:i_2<a0.1.length:=by omega
 obtain ⟨EL2,EG2⟩:=List.getElem?_eq_some_iff.1 E2
 have C3_:(v3==a1)=true:=by rw [C3];simp
 have C3_n:(v3 !=a1)=false:=by rw [C3];simp
 unfold Leave
 simp+decide [fco_h2,loopsOf, Tryz.f22,fco_o2a,fco_C2,C1,C1_,EL2,EG2,E2,C3_,C3_n]
theorem fco_x2_2(C1:¬(i_2:Int)<(a0.1.length:Int)):
  Leave 0 (exec Tryz.prog (tab n) 0 28 (livesOf 22) big fco_C2) (livesOf 22 (outOf 2)) (fco_h2 a0 a1 i_2) (.exit 0) (fco_o2b):=by
 have C1_:¬i_2<a0.1.length:=by omega
 unfold Leave
 simp+decide [fco_h2,loopsOf, Tryz.f22,fco_o2b,fco_C2,C1,C1_]
theorem fco_f1(L1:loopG Tryz.prog (tab n) 0 28 (livesOf 22) 2 fco_C2 (fco_h2 a0 a1 0)=some (.ret,fco_o2a q3)):
  run n 22 [formV a0,.lit (.int .i64 a1)]=some (ratV q3):=by
 unfold run fnP
 simp+decide [Tryz.f22]
 rw [loopX_G (C':=fco_C2) (e:=(fco_h2 a0 a1 0)) ?_ ?_,L1]
 rotate_left
 ·kernel_rfl
 ·simp+decide [fco_h2]
 simp+decide [fco_o2a]
theorem fco_f2(L1:loopG Tryz.prog (tab n) 0 28 (livesOf 22) 2 fco_C2 (fco_h2 a0 a1 0)=some (.exit 0,fco_o2b)):
  run n 22 [formV a0,.lit (.int .i64 a1)]=some (.agg [.lit (.bool false),.sl 1 [],.sl 1 []]):=by
 unfold run fnP
 simp+decide [Tryz.f22]
 rw [loopX_G (C':=fco_C2) (e:=(fco_h2 a0 a1 0)) ?_ ?_,L1]
 rotate_left
 ·kernel_rfl
 ·simp+decide [fco_h2]
 simp+decide [fco_o2b]
end
end
end Go.Proofs.YtdaonnnlgfhlaaaGreatDoor
