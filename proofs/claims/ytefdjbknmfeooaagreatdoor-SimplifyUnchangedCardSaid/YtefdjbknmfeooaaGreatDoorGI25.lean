import Derived.Test.YtefdjbknmfeooaaGreatDoorRows
import Derived.Test.YtefdjbknmfeooaaGreatDoorGI16
import Derived.Deep.Slices
import Derived.ChangeArms
import Derived.ChangeSlices
import Derived.DataReads
import Derived.OpenShut
import Derived.Lib.LaidTab
import Derived.Stop.LaidErr
import Derived.Test.YtefdjbknmfeooaaGreatDoorGI24
import Derived.Test.YtefdjbknmfeooaaGreatDoorGI19
set_option linter.all false
set_option maxHeartbeats 6400000
set_option maxRecDepth 100000
namespace Go.Proofs.YtefdjbknmfeooaaGreatDoor
section
open Go.ChangeShapes Go.WideShapes Go.RowKit Go.Deep
def okT:Nat→Nat→Prop:=fun _ _=>True
theorem bulk_one_le{H:Type}(d:DataW H):1≤Rows.uptoBulk d:=by
 cases d with
 | lit l=>cases l <;>simp [Rows.uptoBulk]
 | nil=>simp [Rows.uptoBulk]
 | ptr d=>simp [Rows.uptoBulk]
 | slice elems spare=>simp [Rows.uptoBulk]
 | agg parts=>simp [Rows.uptoBulk]
 | iface t d=>simp [Rows.uptoBulk]
 | map entries=>simp [Rows.uptoBulk]
 | held h=>simp [Rows.uptoBulk]
theorem bulk_part_le{H:Type}{d:DataW H}{l:List (DataW H)}(h:d∈l):Rows.uptoBulk d≤Rows.uptoBulkAll l:=by
 induction l with
 | nil=>cases h
 | cons x r ih=>
   simp only [Rows.uptoBulkAll]
   cases List.mem_cons.1 h with
   | inl e=>subst e;omega
   | inr e=>have:=ih e;omega
theorem bulk_length_le{H:Type}(l:List (DataW H)):l.length≤Rows.uptoBulkAll l:=by
 induction l with
 | nil=>simp [Rows.uptoBulkAll]
 | cons x r ih=>have:=bulk_one_le x;simp only [Rows.uptoBulkAll,List.length_cons];omega
theorem bulk_agg{H:Type}{d:DataW H}{l:List (DataW H)}(h:d∈l):Rows.uptoBulk d≤Rows.uptoBulk (.agg l):=by
 have:=bulk_part_le h
 simp only [Rows.uptoBulk]
 omega
theorem bulk_slice{H:Type}{d:DataW H}{l r:List (DataW H)}(h:d∈l):Rows.uptoBulk d≤Rows.uptoBulk (.slice l r):=by
 have:=bulk_part_le h
 simp only [Rows.uptoBulk]
 omega
theorem bulk_slice_len{H:Type}(l r:List (DataW H)):l.length≤Rows.uptoBulk (.slice l r):=by
 have:=bulk_length_le l
 simp only [Rows.uptoBulk]
 omega
def Opens(w:World)(t:TypeId)(A:Nat→List AV→Prop):Prop:=
 ∀(H:Type) (enc:TypeId × Value→H) (base:Nat) (spare:Nat→Bool) (held:Bool) (fuel:Nat) (cs:List Value) (x:DataW H × List MemPlace),DataW.trod enc Tryz.prog w base spare held fuel t cs=some x→∃us,A (Rows.uptoBulk x.1) us∧RV (RepT w okT) us cs
def Up1(A:Nat→List AV→Prop):Prop:=∀N M us,N≤M→A N us→A M us
theorem Opens.mono{w:World}{t:TypeId}{A B:Nat→List AV→Prop}(h:Opens w t A)(hA:∀N us,A N us→B N us):Opens w t B:=fun H enc base spare held fuel cs x hx=>by
 obtain ⟨us,h1,h2⟩:=h H enc base spare held fuel cs x hx
 exact ⟨us,hA _ _ h1,h2⟩
theorem rvq1{R:AV→Value→Prop}{a:AV}{v:Value}(h:R a v):RV R [a] [v]:=⟨rfl,fun i d hi=>by
 match i,hi with
 | 0,hi=>cases hi;exact ⟨v,rfl,h⟩
 | i+1,hi=>simp at hi⟩
theorem rv_fld{R:AV→Value→Prop}{us bs:List AV}{cs:List Value}{o n:Nat}(h1:RV R us ((cs.drop o).take n))(h2:RV R bs (cs.drop (o+n)))(hn:o+n≤cs.length):RV R (us++bs) (cs.drop o):=by
 have l1:=h1.1
 have l2:=h2.1
 rw [List.length_take,List.length_drop] at l1
 rw [List.length_drop] at l2
 refine ⟨by rw [List.length_append,List.length_drop];omega,fun i d hi=>?_⟩
 by_cases hl:i<us.length
 ·rw [List.getElem?_append_left hl] at hi
  obtain ⟨u,h3,h4⟩:=h1.2 i d hi
  rw [List.getElem?_take,if_pos (by omega)] at h3
  exact ⟨u,h3,h4⟩
 ·rw [List.getElem?_append_right (by omega)] at hi
  obtain ⟨u,h3,h4⟩:=h2.2 _ d hi
  refine ⟨u,?_,h4⟩
  rw [List.getElem?_drop] at h3 ⊢
  rw [←h3]
  congr 1
  omega
theorem rv_end{R:AV→Value→Prop}{cs:List Value}{N:Nat}(h:cs.length=N):RV R [] (cs.drop N):=by
 rw [List.drop_of_length_le (by omega)]
 exact ⟨rfl,fun i d hi=>by simp at hi⟩
section
variable {w : World}
theorem op_int{t:TypeId}{k:IntKind}(ht: Tryz.prog.underlying t=some (.int k)):Opens w t (fun _ us=>∃z,us=[.lit (.int k z)]∧(Lit.int k z).wf=true):=fun H enc base spare held fuel cs x hx=>by
 obtain ⟨n,rfl,rfl,hw⟩:=DataW.trod_int ht hx
 exact ⟨_,⟨n,rfl,hw⟩,rvq1 (.lit _)⟩
theorem op_bool{t:TypeId}(ht: Tryz.prog.underlying t=some .bool):Opens w t (fun _ us=>∃b,us=[.lit (.bool b)]):=fun H enc base spare held fuel cs x hx=>by
 obtain ⟨b,rfl,_⟩:=DataW.trod_bool ht hx
 exact ⟨_,⟨b,rfl⟩,rvq1 (.lit _)⟩
theorem fldB{H:Type}{enc:TypeId × Value→H}{base:Nat}{spare:Nat→Bool}{held:Bool}{t:TypeId}{fs:Array Field}{fuel:Nat}{cs:List Value}{x:DataW H × List MemPlace}(hs: Tryz.prog.underlying t=some (.struct fs))(h:DataW.trod enc Tryz.prog w base spare held fuel t cs=some x):
  cs.length= Tryz.prog.cellsOf t∧∀(i:Nat) (f:Field) (T:TypeId) (o:Nat),fs[i]?=some f→f.type=T→f.offset=o→∃n y,DataW.trod enc Tryz.prog w base spare held n T ((cs.drop o).take (Tryz.prog.cellsOf T))=some y∧Rows.uptoBulk y.1≤Rows.uptoBulk x.1:=by
 obtain ⟨xs,n,_,hx,hl,hlen,hg⟩:=DataW.trod_struct hs h
 refine ⟨hl,fun i f T o hf hT ho=>⟨n,xs[i]'(by rw [hlen];exact (Array.getElem?_eq_some_iff.1 hf).1),?_,?_⟩⟩
 ·subst hT ho
  rw [hg i f hf]
  exact List.getElem?_eq_getElem _
 ·subst hx
  exact bulk_agg (List.mem_map_of_mem (List.getElem_mem _))
theorem addr_at{b o i:Nat}:(⟨b,o,none⟩:Addr).add i=⟨b,o+i,none⟩:=by
 unfold Addr.add
 split
 ·rename_i h;subst h;rfl
 ·rfl
theorem op_sl{t e:TypeId}{k:Nat}{A:Nat→List AV→Prop}(ht: Tryz.prog.underlying t=some (.slice e))(hk: Tryz.prog.cellsOf e=k)(h0k:0<k)(he:Opens w e A)(hA:Up1 A):
  Opens w t (fun N us=>∃es:List (List AV),us=[.sl k es]∧es.length≤N∧∀e∈es,A N e):=fun H enc base spare held fuel cs x hx=>by
 rcases open_slice ht hx with ⟨rfl,_⟩|⟨a,len,cap,m,n,D,Pl,rfl,_,hl,hm,hmm,hxe,hi⟩
 ·exact ⟨_,⟨[],rfl,by simp,fun e he=>by cases he⟩,rvq1 (.nil none 0)⟩
 ·have hlm:len≤m:=by rw [hmm];split <;>omega
  have hb:∀i,i<len→Rows.uptoBulk (D i)≤Rows.uptoBulk x.1:=fun i hil=>by
   subst hxe
   exact bulk_slice (List.mem_map.2 ⟨i,List.mem_range.2 hil,rfl⟩)
  have hbl:len≤Rows.uptoBulk x.1:=by
   subst hxe
   have:=bulk_slice_len ((List.range len).map D) ((List.range (m-len)).map fun j=>D (len+j))
   rw [List.length_map,List.length_range] at this
   exact this
  obtain ⟨U,hU⟩:=choose_lt (n:=len) (p:=fun i (u:List AV)=>A (Rows.uptoBulk x.1) u∧∃cs',RV (RepT w okT) u cs'∧w.cells? base (a.add (i*k)) k=some cs') (fun i hil=>by
   obtain ⟨cs',h1,h2⟩:=hi i (by omega)
   rw [hk] at h1
   obtain ⟨u,hu,hr⟩:=he H enc base spare held _ _ _ h2
   exact ⟨u,hA _ _ _ (hb i hil) hu,cs',hr,h1⟩)
  refine ⟨[.sl k ((List.range len).map U)],⟨_,rfl,by rw [List.length_map,List.length_range];exact hbl,fun e he=>?_⟩,?_⟩
  ·obtain ⟨i,hir,rfl⟩:=List.mem_map.1 he
   exact (hU i (List.mem_range.1 hir)).1
  ·by_cases h0:len=0
   ·subst h0;exact rvq1 (.nil (some a) cap)
   ·have hz:=(hU 0 (by omega)).2.choose_spec.2
    obtain ⟨_,hz1,hz2⟩:=World.cells?_some hz
    have hz3:=hz2 0 h0k
    rw [List.getElem?_eq_getElem (by omega)] at hz3
    have hs0:=World.cell?_spot hz3
    obtain ⟨b,o,sp⟩:=a
    have hsp:sp=none:=by
     simp [Addr.add] at hs0
     exact hs0
    subst hsp
    have key:∀(i j:Nat) (e:List AV) (d:AV),((List.range len).map U)[i]?=some e→e[j]?=some d→∃u,w.cell? ⟨b,o+i*k+j,none⟩=some u∧RepT w okT d u:=fun i j e d hie hjd=>by
     have hil:i<len:=by have:=(List.getElem?_eq_some_iff.1 hie).1;rw [List.length_map,List.length_range] at this;exact this
     rw [List.getElem?_map,List.getElem?_range hil] at hie
     cases hie
     obtain ⟨_,cs',hr,hc⟩:=hU i hil
     obtain ⟨_,q1,q2⟩:=World.cells?_some hc
     obtain ⟨u,g1,g2⟩:=hr.2 j d hjd
     have hj:j<k:=by
      have:=(List.getElem?_eq_some_iff.1 g1).1
      omega
     have:=q2 j hj
     rw [addr_at,addr_at] at this
     exact ⟨u,this.trans g1,g2⟩
    have R:=RepT.sl (w:=w) (ok:=okT) (k:=k) (b:=b) (o:=o) (c:=cap) (es:=(List.range len).map U) (fun e he=>by
      obtain ⟨i,hir,rfl⟩:=List.mem_map.1 he
      obtain ⟨_,cs',hr,hc⟩:=hU i (List.mem_range.1 hir)
      obtain ⟨_,q1,_⟩:=World.cells?_some hc
      have:=hr.1
      omega) (by rw [List.length_map,List.length_range];exact hl) (fun i j e d he hd=>by
      obtain ⟨u,h1,_⟩:=key i j e d he hd
      exact ⟨trivial,by rw [h1];rfl⟩) (fun i j e d he hd=>by
      obtain ⟨u,h1,h2⟩:=key i j e d he hd
      rw [h1]
      exact h2)
    rw [List.length_map,List.length_range] at R
    exact rvq1 R
theorem list_of{α:Type}{enc:α→List AV}{ok:α→Prop}:∀{es:List (List AV)},(∀e∈es,∃x,e=enc x∧ok x)→∃L:List α,es=L.map enc∧∀x∈L,ok x
 | [],_=>⟨[],rfl,fun x hx=>by cases hx⟩
 | e::es,h=>by
   obtain ⟨x,rfl,hx⟩:=h e (List.mem_cons_self ..)
   obtain ⟨L,rfl,hL⟩:=list_of fun e he=>h e (List.mem_cons_of_mem _ he)
   exact ⟨x::L,rfl,fun y hy=>by
    rcases List.mem_cons.1 hy with rfl|hy
    ·exact hx
    ·exact hL y hy⟩
theorem op_list{α:Type}{t e:TypeId}{k:Nat}{enc:α→List AV}{ok:Nat→α→Prop}(ht: Tryz.prog.underlying t=some (.slice e))(hk: Tryz.prog.cellsOf e=k)(h0k:0<k)(he:Opens w e (fun N us=>∃x,us=enc x∧ok N x))(hm:∀N M x,N≤M→ok N x→ok M x):
  Opens w t (fun N us=>∃L:List α,us=[.sl k (L.map enc)]∧L.length≤N∧∀x∈L,ok N x):=
 (op_sl ht hk h0k he (fun N M us hN ⟨x,h1,h2⟩=>⟨x,h1,hm N M x hN h2⟩)).mono fun N us ⟨es,h1,h2,h3⟩=>by
  obtain ⟨L,rfl,hL⟩:=list_of h3
  exact ⟨L,h1,by simpa using h2,hL⟩
def okInt(k:IntKind)(_:Nat)(z:Int):Prop:=(Lit.int k z).wf=true
theorem okInt.up{k:IntKind}{N M:Nat}{z:Int}(hN:N≤M)(h:okInt k N z):okInt k M z:=h
def okBool(_:Nat)(_:Bool):Prop:=True
theorem okBool.up{N M:Nat}{b:Bool}(hN:N≤M)(h:okBool N b):okBool M b:=h
theorem op_intO{t:TypeId}{k:IntKind}(ht: Tryz.prog.underlying t=some (.int k)):Opens w t (fun N us=>∃z,us=[.lit (.int k z)]∧okInt k N z):=op_int ht
theorem op_boolO{t:TypeId}(ht: Tryz.prog.underlying t=some .bool):Opens w t (fun N us=>∃b,us=[.lit (.bool b)]∧okBool N b):=(op_bool ht).mono fun N us ⟨b,h⟩=>⟨b,h,trivial⟩
def okNat(N:Nat)(l:List Nat):Prop:=Lim l∧l.length≤N
theorem okNat.up{N M:Nat}{l:List Nat}(hN:N≤M)(h:okNat N l):okNat M l:=⟨h.1,Nat.le_trans h.2 hN⟩
theorem cU32: Tryz.prog.cellsOf 114=1:=by kernel_rfl
theorem op_natO:Opens w 32 (fun N us=>∃l,us=[natA l]∧okNat N l):=
 (op_list (α:=Nat) (enc:=fun x=>[.lit (.int .u32 (x:Int))]) (ok:=fun _ x=>x<4294967296) Tryz.underlying32 cU32 (by omega) ((op_int Tryz.underlying114).mono fun N us ⟨z,h1,h2⟩=>by
  have h3:0≤z∧z≤4294967295:=by simpa [Lit.wf,IntKind.min,IntKind.max,IntKind.signed,IntKind.bits] using h2
  exact ⟨z.toNat,by rw [h1,Int.toNat_of_nonneg h3.1],by omega⟩) (fun N M x _ h=>h)).mono fun N us ⟨L,h1,h2,h3⟩=>⟨L,h1,fun x hx=>h3 x hx,h2⟩
def okRaw(N:Nat)(r:Raw):Prop:=okNat N r.l1∧okNat N r.l2
theorem okRaw.up{N M:Nat}{r:Raw}(hN:N≤M)(h:okRaw N r):okRaw M r:=⟨h.1.up hN,h.2.up hN⟩
theorem arg_one{d:AV}{v:Value}(hv:v.cells=#[v])(h:RV (RepT w okT) [d] v.cells.toList):RepT w okT d v:=by
 rw [hv] at h
 obtain ⟨u,h1,h2⟩:=h.2 0 d rfl
 cases h1
 exact h2
theorem arg_agg{us:List AV}{cs:Array Value}(h:RV (RepT w okT) us (Value.agg cs).cells.toList):RepT w okT (.agg us) (.agg cs):=by
 have h1:(Value.agg cs).cells=cs:=rfl
 rw [h1] at h
 refine .agg (by have:=h.1;simpa using this) fun i d hi=>?_
 obtain ⟨u,h2,h3⟩:=h.2 i d hi
 have h4:cs[i]?=some u:=by simpa using h2
 rw [Array.getD_eq_getD_getElem?,h4]
 exact h3
theorem rvs_nil{R:AV→Value→Prop}:RV R [] []:=⟨rfl,fun i d hi=>by simp at hi⟩
theorem rvs_cons{R:AV→Value→Prop}{a:AV}{v:Value}{l:List AV}{vs:List Value}(h:R a v)(hl:RV R l vs):RV R (a::l) (v::vs):=⟨by simp [hl.1],fun i d hi=>by
 match i,hi with
 | 0,hi=>cases hi;exact ⟨v,rfl,h⟩
 | i+1,hi=>exact hl.2 i d (by simpa using hi)⟩
end
section
variable {w : World}
theorem cO_Rat: Tryz.prog.cellsOf 34=3:=by kernel_rfl
theorem cO_Rat_0: Tryz.prog.cellsOf 4=1:=by kernel_rfl
theorem cO_Rat_1: Tryz.prog.cellsOf 32=1:=by kernel_rfl
theorem cO_Rat_2: Tryz.prog.cellsOf 32=1:=by kernel_rfl
theorem op_Rat:Opens w 34 (fun N us=>∃x:Raw,us=rawC x∧okRaw N x):=fun H enc base spare held fuel cs x hx=>by
 obtain ⟨hl,hf⟩:=fldB Tryz.underlying34 hx
 rw [cO_Rat] at hl
 obtain ⟨n0,y0,g0,b0⟩:=hf 0 _ 4 0 rfl rfl rfl
 obtain ⟨a0,⟨x0,e0,p0⟩,r0⟩:=(op_boolO Tryz.underlying4) _ _ _ _ _ _ _ _ g0
 rw [cO_Rat_0] at r0
 subst e0
 obtain ⟨n1,y1,g1,b1⟩:=hf 1 _ 32 1 rfl rfl rfl
 obtain ⟨a1,⟨x1,e1,p1⟩,r1⟩:=op_natO _ _ _ _ _ _ _ _ g1
 rw [cO_Rat_1] at r1
 subst e1
 obtain ⟨n2,y2,g2,b2⟩:=hf 2 _ 32 2 rfl rfl rfl
 obtain ⟨a2,⟨x2,e2,p2⟩,r2⟩:=op_natO _ _ _ _ _ _ _ _ g2
 rw [cO_Rat_2] at r2
 subst e2
 exact ⟨_,⟨(⟨x0,x1,x2⟩:Raw),rfl,⟨okNat.up b1 p1,okNat.up b2 p2⟩⟩,rv_fld (o:=0) (n:=1) r0 (rv_fld (o:=1) (n:=1) r1 (rv_fld (o:=2) (n:=1) r2 (rv_end hl) (by omega)) (by omega)) (by omega)⟩
def okO_Term(N:Nat)(x:Int × Raw):Prop:=okInt .i64 N x.1∧okRaw N x.2
theorem okO_Term.up{N M:Nat}{x:Int × Raw}(hN:N≤M)(h:okO_Term N x):okO_Term M x:=⟨okInt.up hN h.1,okRaw.up hN h.2⟩
theorem cO_Term: Tryz.prog.cellsOf 57=4:=by kernel_rfl
theorem cO_Term_0: Tryz.prog.cellsOf 3=1:=by kernel_rfl
theorem cO_Term_1: Tryz.prog.cellsOf 34=3:=by kernel_rfl
theorem op_Term:Opens w 57 (fun N us=>∃x:Int × Raw,us=termRC x∧okO_Term N x):=fun H enc base spare held fuel cs x hx=>by
 obtain ⟨hl,hf⟩:=fldB Tryz.underlying57 hx
 rw [cO_Term] at hl
 obtain ⟨n0,y0,g0,b0⟩:=hf 0 _ 3 0 rfl rfl rfl
 obtain ⟨a0,⟨x0,e0,p0⟩,r0⟩:=(op_intO Tryz.underlying3) _ _ _ _ _ _ _ _ g0
 rw [cO_Term_0] at r0
 subst e0
 obtain ⟨n1,y1,g1,b1⟩:=hf 1 _ 34 1 rfl rfl rfl
 obtain ⟨a1,⟨x1,e1,p1⟩,r1⟩:=op_Rat _ _ _ _ _ _ _ _ g1
 rw [cO_Term_1] at r1
 subst e1
 exact ⟨_,⟨(⟨x0,x1⟩:Int × Raw),rfl,⟨okInt.up b0 p0,okRaw.up b1 p1⟩⟩,rv_fld (o:=0) (n:=1) r0 (rv_fld (o:=1) (n:=3) r1 (rv_end hl) (by omega)) (by omega)⟩
def okO_LTerm(N:Nat)(L:List (Int × Raw)):Prop:=L.length≤N∧∀x∈L,okO_Term N x
theorem okO_LTerm.up{N M:Nat}{L:List (Int × Raw)}(hN:N≤M)(h:okO_LTerm N L):okO_LTerm M L:=⟨Nat.le_trans h.1 hN,fun x hx=>okO_Term.up hN (h.2 x hx)⟩
theorem cO_LTermE: Tryz.prog.cellsOf 57=4:=by kernel_rfl
theorem op_LTerm:Opens w 43 (fun N us=>∃L:List (Int × Raw),us=[.sl 4 (L.map termRC)]∧okO_LTerm N L):=
 (op_list (α:=Int × Raw) (enc:=termRC) (ok:=okO_Term) Tryz.underlying43 cO_LTermE (by omega) op_Term (fun N M x h g=>okO_Term.up h g)).mono fun N us ⟨L,h1,h2,h3⟩=>⟨L,h1,h2,h3⟩
def okO_Affine(N:Nat)(x:FormR):Prop:=okO_LTerm N x.1∧okRaw N x.2
theorem okO_Affine.up{N M:Nat}{x:FormR}(hN:N≤M)(h:okO_Affine N x):okO_Affine M x:=⟨okO_LTerm.up hN h.1,okRaw.up hN h.2⟩
theorem cO_Affine: Tryz.prog.cellsOf 45=4:=by kernel_rfl
theorem cO_Affine_0: Tryz.prog.cellsOf 43=1:=by kernel_rfl
theorem cO_Affine_1: Tryz.prog.cellsOf 34=3:=by kernel_rfl
theorem op_Affine:Opens w 45 (fun N us=>∃x:FormR,us=formRC x∧okO_Affine N x):=fun H enc base spare held fuel cs x hx=>by
 obtain ⟨hl,hf⟩:=fldB Tryz.underlying45 hx
 rw [cO_Affine] at hl
 obtain ⟨n0,y0,g0,b0⟩:=hf 0 _ 43 0 rfl rfl rfl
 obtain ⟨a0,⟨x0,e0,p0⟩,r0⟩:=op_LTerm _ _ _ _ _ _ _ _ g0
 rw [cO_Affine_0] at r0
 subst e0
 obtain ⟨n1,y1,g1,b1⟩:=hf 1 _ 34 1 rfl rfl rfl
 obtain ⟨a1,⟨x1,e1,p1⟩,r1⟩:=op_Rat _ _ _ _ _ _ _ _ g1
 rw [cO_Affine_1] at r1
 subst e1
 exact ⟨_,⟨(⟨x0,x1⟩:FormR),rfl,⟨okO_LTerm.up b0 p0,okRaw.up b1 p1⟩⟩,rv_fld (o:=0) (n:=1) r0 (rv_fld (o:=1) (n:=3) r1 (rv_end hl) (by omega)) (by omega)⟩
def okO_LAffine(N:Nat)(L:List (FormR)):Prop:=L.length≤N∧∀x∈L,okO_Affine N x
theorem okO_LAffine.up{N M:Nat}{L:List (FormR)}(hN:N≤M)(h:okO_LAffine N L):okO_LAffine M L:=⟨Nat.le_trans h.1 hN,fun x hx=>okO_Affine.up hN (h.2 x hx)⟩
theorem cO_LAffineE: Tryz.prog.cellsOf 45=4:=by kernel_rfl
theorem op_LAffine:Opens w 22 (fun N us=>∃L:List (FormR),us=[.sl 4 (L.map formRC)]∧okO_LAffine N L):=
 (op_list (α:=FormR) (enc:=formRC) (ok:=okO_Affine) Tryz.underlying22 cO_LAffineE (by omega) op_Affine (fun N M x h g=>okO_Affine.up h g)).mono fun N us ⟨L,h1,h2,h3⟩=>⟨L,h1,h2,h3⟩
def okO_Graph(N:Nat)(x:TGraphR):Prop:=okInt .i64 N x.Inputs∧okO_LAffine N x.Units∧okO_LAffine N x.Outputs
theorem okO_Graph.up{N M:Nat}{x:TGraphR}(hN:N≤M)(h:okO_Graph N x):okO_Graph M x:=⟨okInt.up hN h.1,okO_LAffine.up hN h.2.1,okO_LAffine.up hN h.2.2⟩
theorem cO_Graph: Tryz.prog.cellsOf 24=3:=by kernel_rfl
theorem cO_Graph_0: Tryz.prog.cellsOf 3=1:=by kernel_rfl
theorem cO_Graph_1: Tryz.prog.cellsOf 22=1:=by kernel_rfl
theorem cO_Graph_2: Tryz.prog.cellsOf 22=1:=by kernel_rfl
theorem op_Graph:Opens w 24 (fun N us=>∃x:TGraphR,us=graphRC x∧okO_Graph N x):=fun H enc base spare held fuel cs x hx=>by
 obtain ⟨hl,hf⟩:=fldB Tryz.underlying24 hx
 rw [cO_Graph] at hl
 obtain ⟨n0,y0,g0,b0⟩:=hf 0 _ 3 0 rfl rfl rfl
 obtain ⟨a0,⟨x0,e0,p0⟩,r0⟩:=(op_intO Tryz.underlying3) _ _ _ _ _ _ _ _ g0
 rw [cO_Graph_0] at r0
 subst e0
 obtain ⟨n1,y1,g1,b1⟩:=hf 1 _ 22 1 rfl rfl rfl
 obtain ⟨a1,⟨x1,e1,p1⟩,r1⟩:=op_LAffine _ _ _ _ _ _ _ _ g1
 rw [cO_Graph_1] at r1
 subst e1
 obtain ⟨n2,y2,g2,b2⟩:=hf 2 _ 22 2 rfl rfl rfl
 obtain ⟨a2,⟨x2,e2,p2⟩,r2⟩:=op_LAffine _ _ _ _ _ _ _ _ g2
 rw [cO_Graph_2] at r2
 subst e2
 exact ⟨_,⟨(⟨x0,x1,x2⟩:TGraphR),rfl,⟨okInt.up b0 p0,okO_LAffine.up b1 p1,okO_LAffine.up b2 p2⟩⟩,rv_fld (o:=0) (n:=1) r0 (rv_fld (o:=1) (n:=1) r1 (rv_fld (o:=2) (n:=1) r2 (rv_end hl) (by omega)) (by omega)) (by omega)⟩
def okO_LRat(N:Nat)(L:List (Raw)):Prop:=L.length≤N∧∀x∈L,okRaw N x
theorem okO_LRat.up{N M:Nat}{L:List (Raw)}(hN:N≤M)(h:okO_LRat N L):okO_LRat M L:=⟨Nat.le_trans h.1 hN,fun x hx=>okRaw.up hN (h.2 x hx)⟩
theorem cO_LRatE: Tryz.prog.cellsOf 34=3:=by kernel_rfl
theorem op_LRat:Opens w 29 (fun N us=>∃L:List (Raw),us=[.sl 3 (L.map rawC)]∧okO_LRat N L):=
 (op_list (α:=Raw) (enc:=rawC) (ok:=okRaw) Tryz.underlying29 cO_LRatE (by omega) op_Rat (fun N M x h g=>okRaw.up h g)).mono fun N us ⟨L,h1,h2,h3⟩=>⟨L,h1,h2,h3⟩
end
theorem gT: Tryz.prog.globalNamed "internal/strconv.uint64pow10"=some 0:=by kernel_rfl
theorem tT:(Tryz.prog.globals[0]?).map (·.type)=some 166:=by kernel_rfl
theorem gtab_pow{g:Nat}{cs:List AV}(h:gtab g=some cs):g= 0∧cs=Lib.pow10Tab.map fun z=>AV.lit (.int .u64 z):=by
 unfold gtab at h
 split at h
 ·rename_i e
  subst e
  cases h
  exact ⟨rfl,rfl⟩
 ·cases h
theorem glob_laid {w:World} (hT:Lib.TabIs Tryz.prog w "internal/strconv.uint64pow10" .u64 Lib.pow10Tab):Glob w okT:=by
 refine ⟨fun g cs hg=>?_,fun g hg=>?_,fun g hg=>absurd hg (by simp [gint])⟩
 ·obtain ⟨rfl,rfl⟩:=gtab_pow hg
  unfold Lib.TabIs World.var? at hT
  rw [gT] at hT
  simp only [Option.bind_some] at hT
  split at hT
  ·rename_i c t fr hc
   cases hT
   have key:∀(j:Nat) (d:AV),(Lib.pow10Tab.map fun z=>AV.lit (.int .u64 z))[j]?=some d→∃v,w.cell? ⟨0,0+j,none⟩=some v∧d=.lit v:=fun j d hj=>by
    rw [List.getElem?_map] at hj
    obtain ⟨z,hz,rfl⟩:=Option.map_eq_some_iff.1 hj
    refine ⟨.int .u64 z,?_,rfl⟩
    rw [Nat.zero_add]
    simp only [World.cell?,hc]
    simp [hz]
   refine ⟨.mem (fun j d hj=>?_) (fun j d hj=>?_),t,?_⟩
   ·obtain ⟨v,h1,_⟩:=key j d hj
    exact ⟨trivial,by rw [h1];rfl⟩
   ·obtain ⟨v,h1,rfl⟩:=key j d hj
    rw [h1]
    exact .lit _
   ·simp [World.shape?,hc]
  ·cases hT
 ·exact absurd hg (by simp [gerr])
theorem laid_glob {W:World} (h:laidMet Tryz.prog [("math/bits.deBruijn32tab",Rows.laid_math_bits_deBruijn32tab),("math/bits.deBruijn64tab",Rows.laid_math_bits_deBruijn64tab),("internal/strconv.uint64pow10",Rows.laid_internal_strconv_uint64pow10)] W):Glob W okT:=by
 have h3:=laidMet.tail (laidMet.tail h)
 have hT:Lib.TabIs Tryz.prog W "internal/strconv.uint64pow10" .u64 Lib.pow10Tab:=Lib.tabIs_of_head gT tT Tryz.underlying166 Tryz.underlying94 (by kernel_rfl) (by kernel_rfl) h3
 exact glob_laid hT
theorem true_end{w:World}{ok:Nat→Nat→Prop}{e:Ending}{w':World}(h:∃v,e=.returned v∧RepT w' (okN ok w w') (.lit (.bool true)) v∧Below w.heap.size w w'):RetB true w e w':=by
 obtain ⟨v,rfl,h2,h3⟩:=h
 cases h2
 exact ⟨rfl,h3⟩
theorem okF_lim7{N:Nat}{f:FormR}(h:okO_Affine N f):LimF f:=⟨fun t ht=>⟨(h.1.2 t ht).2.1.1,(h.1.2 t ht).2.2.1⟩,h.2.1.1,h.2.2.1⟩
theorem okG_lim7{N:Nat}{g:TGraphR}(h:okO_Graph N g):Lim7 g:=⟨fun f hf=>okF_lim7 (h.2.1.2 f hf),fun f hf=>okF_lim7 (h.2.2.2 f hf)⟩
end
section
open Go.RowKit
theorem awake17_c:run 14 10 []=some (.lit (.bool true)):=by kernel_rfl
def awG(args:List AV):Option AV:=match args with|[]=>some (.lit (.bool true))|_=>none
theorem con_awake:∀args r,awG args=some r→Con Tryz.prog 10 args r:=fun args r hr=>by
 unfold awG at hr
 split at hr
 ·cases hr
  exact ((tab_ok 15).pure _ _ (tb_10 14)).2 _ _ awake17_c
 ·cases hr
noncomputable def scnT(n:Nat):FuncId→Option Orc:=ext (tab (n+12)) 10 (.pure awG)
theorem scnT_ok(n:Nat):OrcOk Tryz.prog (scnT n):=(tab_ok (n+12)).extP (by kernel_rfl) con_awake
noncomputable def scn(n:Nat)(args:List AV):Option AV:=fnP Tryz.prog (scnT n) (livesOf 3) big (fnOf 3) args
theorem scn_con{n:Nat}{args:List AV}{r:AV}(h:scn n args=some r):Con Tryz.prog 3 args r:=
 con_of (scnT_ok n) mixed (plain_fn (by kernel_rfl)) (body_some (by kernel_rfl) (plain_fn (by kernel_rfl))) h
theorem scn_aw(n:Nat):scnT n 10=some (.pure awG):=by unfold scnT ext;rw [if_pos rfl]
theorem scn_l11(n:Nat):scnT n 11=some (.pure (run (n+11) 11)):=by unfold scnT ext;rw [if_neg (by decide)];exact tb_11 _
theorem scn_l12(n:Nat):scnT n 12=some (.pure (run (n+11) 12)):=by unfold scnT ext;rw [if_neg (by decide)];exact tb_12 _
theorem scn_l13(n:Nat):scnT n 13=some (.pure (run (n+11) 13)):=by unfold scnT ext;rw [if_neg (by decide)];exact tb_13 _
theorem scn_l14(n:Nat):scnT n 14=some (.pure (run (n+11) 14)):=by unfold scnT ext;rw [if_neg (by decide)];exact tb_14 _
section
variable {r : Bool} {n : Nat} {a0 : TGraphR} {r4 : Bool} {r3 : TGraph} {r2 : TGraph}
theorem scn_f1(K1:run (n+11) 11 [graphRV a0]=some (.lit (.bool r)))(C2:r=false):
  scn n [graphRV a0]=some (.lit (.bool true)):=by
 simp only [graphRV] at K1
 unfold scn fnP
 simp+decide [Tryz.f3,K1,C2,scn_aw,awG,scn_l11,scn_l12,scn_l13,scn_l14]
theorem scn_f2(K1:run (n+11) 11 [graphRV a0]=some (.lit (.bool r)))(C2:r=true)(K3:run (n+11) 13 [graphRV a0]=some (graphV r2))(K4:run (n+11) 14 [graphRV a0]=some (graphV r3))(K5:run (n+11) 12 [graphV r2,graphV r3]=some (.lit (.bool r4))):
  scn n [graphRV a0]=some (.lit (.bool r4)):=by
 simp only [graphRV] at K1
 simp only [graphV,graphRV] at K3
 simp only [graphV,graphRV] at K4
 simp only [graphV] at K5
 unfold scn fnP
 simp+decide [Tryz.f3,K1,C2,K3,K4,K5,scn_aw,awG,scn_l11,scn_l12,scn_l13,scn_l14]
end
noncomputable def sdpT(n:Nat):FuncId→Option Orc:=ext (tab (n+12)) 10 (.pure awG)
theorem sdpT_ok(n:Nat):OrcOk Tryz.prog (sdpT n):=(tab_ok (n+12)).extP (by kernel_rfl) con_awake
noncomputable def sdp(n:Nat)(args:List AV):Option AV:=fnP Tryz.prog (sdpT n) (livesOf 5) big (fnOf 5) args
theorem sdp_con{n:Nat}{args:List AV}{r:AV}(h:sdp n args=some r):Con Tryz.prog 5 args r:=
 con_of (sdpT_ok n) mixed (plain_fn (by kernel_rfl)) (body_some (by kernel_rfl) (plain_fn (by kernel_rfl))) h
theorem sdp_aw(n:Nat):sdpT n 10=some (.pure awG):=by unfold sdpT ext;rw [if_pos rfl]
theorem sdp_l11(n:Nat):sdpT n 11=some (.pure (run (n+11) 11)):=by unfold sdpT ext;rw [if_neg (by decide)];exact tb_11 _
theorem sdp_l12(n:Nat):sdpT n 12=some (.pure (run (n+11) 12)):=by unfold sdpT ext;rw [if_neg (by decide)];exact tb_12 _
theorem sdp_l17(n:Nat):sdpT n 17=some (.pure (run (n+11) 17)):=by unfold sdpT ext;rw [if_neg (by decide)];exact tb_17 _
theorem sdp_l18(n:Nat):sdpT n 18=some (.pure (run (n+11) 18)):=by unfold sdpT ext;rw [if_neg (by decide)];exact tb_18 _
section
variable {r : Bool} {n : Nat} {a0 : TGraphR} {r4 : Bool} {r3 : TGraph} {r2 : TGraph}
theorem sdp_f1(K1:run (n+11) 11 [graphRV a0]=some (.lit (.bool r)))(C2:r=false):
  sdp n [graphRV a0]=some (.lit (.bool true)):=by
 simp only [graphRV] at K1
 unfold sdp fnP
 simp+decide [Tryz.f5,K1,C2,sdp_aw,awG,sdp_l11,sdp_l12,sdp_l17,sdp_l18]
theorem sdp_f2(K1:run (n+11) 11 [graphRV a0]=some (.lit (.bool r)))(C2:r=true)(K3:run (n+11) 17 [graphRV a0]=some (graphV r2))(K4:run (n+11) 18 [graphRV a0]=some (graphV r3))(K5:run (n+11) 12 [graphV r2,graphV r3]=some (.lit (.bool r4))):
  sdp n [graphRV a0]=some (.lit (.bool r4)):=by
 simp only [graphRV] at K1
 simp only [graphV,graphRV] at K3
 simp only [graphV,graphRV] at K4
 simp only [graphV] at K5
 unfold sdp fnP
 simp+decide [Tryz.f5,K1,C2,K3,K4,K5,sdp_aw,awG,sdp_l11,sdp_l12,sdp_l17,sdp_l18]
end
noncomputable def sdeT(n:Nat):FuncId→Option Orc:=ext (tab (n+12)) 10 (.pure awG)
theorem sdeT_ok(n:Nat):OrcOk Tryz.prog (sdeT n):=(tab_ok (n+12)).extP (by kernel_rfl) con_awake
noncomputable def sde(n:Nat)(args:List AV):Option AV:=fnP Tryz.prog (sdeT n) (livesOf 6) big (fnOf 6) args
theorem sde_con{n:Nat}{args:List AV}{r:AV}(h:sde n args=some r):Con Tryz.prog 6 args r:=
 con_of (sdeT_ok n) mixed (plain_fn (by kernel_rfl)) (body_some (by kernel_rfl) (plain_fn (by kernel_rfl))) h
theorem sde_aw(n:Nat):sdeT n 10=some (.pure awG):=by unfold sdeT ext;rw [if_pos rfl]
theorem sde_l11(n:Nat):sdeT n 11=some (.pure (run (n+11) 11)):=by unfold sdeT ext;rw [if_neg (by decide)];exact tb_11 _
theorem sde_l12(n:Nat):sdeT n 12=some (.pure (run (n+11) 12)):=by unfold sdeT ext;rw [if_neg (by decide)];exact tb_12 _
theorem sde_l19(n:Nat):sdeT n 19=some (.pure (run (n+11) 19)):=by unfold sdeT ext;rw [if_neg (by decide)];exact tb_19 _
theorem sde_l20(n:Nat):sdeT n 20=some (.pure (run (n+11) 20)):=by unfold sdeT ext;rw [if_neg (by decide)];exact tb_20 _
section
variable {r : Bool} {n : Nat} {a0 : TGraphR} {r4 : Bool} {r3 : TGraph} {r2 : TGraph}
theorem sde_f1(K1:run (n+11) 11 [graphRV a0]=some (.lit (.bool r)))(C2:r=false):
  sde n [graphRV a0]=some (.lit (.bool true)):=by
 simp only [graphRV] at K1
 unfold sde fnP
 simp+decide [Tryz.f6,K1,C2,sde_aw,awG,sde_l11,sde_l12,sde_l19,sde_l20]
theorem sde_f2(K1:run (n+11) 11 [graphRV a0]=some (.lit (.bool r)))(C2:r=true)(K3:run (n+11) 19 [graphRV a0]=some (graphV r2))(K4:run (n+11) 20 [graphRV a0]=some (graphV r3))(K5:run (n+11) 12 [graphV r2,graphV r3]=some (.lit (.bool r4))):
  sde n [graphRV a0]=some (.lit (.bool r4)):=by
 simp only [graphRV] at K1
 simp only [graphV,graphRV] at K3
 simp only [graphV,graphRV] at K4
 simp only [graphV] at K5
 unfold sde fnP
 simp+decide [Tryz.f6,K1,C2,K3,K4,K5,sde_aw,awG,sde_l11,sde_l12,sde_l19,sde_l20]
end
noncomputable def salT(n:Nat):FuncId→Option Orc:=ext (tab (n+12)) 10 (.pure awG)
theorem salT_ok(n:Nat):OrcOk Tryz.prog (salT n):=(tab_ok (n+12)).extP (by kernel_rfl) con_awake
noncomputable def sal(n:Nat)(args:List AV):Option AV:=fnP Tryz.prog (salT n) (livesOf 4) big (fnOf 4) args
theorem sal_con{n:Nat}{args:List AV}{r:AV}(h:sal n args=some r):Con Tryz.prog 4 args r:=
 con_of (salT_ok n) mixed (plain_fn (by kernel_rfl)) (body_some (by kernel_rfl) (plain_fn (by kernel_rfl))) h
theorem sal_aw(n:Nat):salT n 10=some (.pure awG):=by unfold salT ext;rw [if_pos rfl]
theorem sal_l11(n:Nat):salT n 11=some (.pure (run (n+11) 11)):=by unfold salT ext;rw [if_neg (by decide)];exact tb_11 _
theorem sal_l12(n:Nat):salT n 12=some (.pure (run (n+11) 12)):=by unfold salT ext;rw [if_neg (by decide)];exact tb_12 _
theorem sal_l15(n:Nat):salT n 15=some (.pure (run (n+11) 15)):=by unfold salT ext;rw [if_neg (by decide)];exact tb_15 _
theorem sal_l16(n:Nat):salT n 16=some (.pure (run (n+11) 16)):=by unfold salT ext;rw [if_neg (by decide)];exact tb_16 _
section
variable {r : Bool} {n : Nat} {a0 : TGraphR} {r4 : Bool} {r3 : TGraph} {r2 : TGraph}
theorem sal_f1(K1:run (n+11) 11 [graphRV a0]=some (.lit (.bool r)))(C2:r=false):
  sal n [graphRV a0]=some (.lit (.bool true)):=by
 simp only [graphRV] at K1
 unfold sal fnP
 simp+decide [Tryz.f4,K1,C2,sal_aw,awG,sal_l11,sal_l12,sal_l15,sal_l16]
theorem sal_f2(K1:run (n+11) 11 [graphRV a0]=some (.lit (.bool r)))(C2:r=true)(K3:run (n+11) 15 [graphRV a0]=some (graphV r2))(K4:run (n+11) 16 [graphRV a0]=some (graphV r3))(K5:run (n+11) 12 [graphV r2,graphV r3]=some (.lit (.bool r4))):
  sal n [graphRV a0]=some (.lit (.bool r4)):=by
 simp only [graphRV] at K1
 simp only [graphV,graphRV] at K3
 simp only [graphV,graphRV] at K4
 simp only [graphV] at K5
 unfold sal fnP
 simp+decide [Tryz.f4,K1,C2,K3,K4,K5,sal_aw,awG,sal_l11,sal_l12,sal_l15,sal_l16]
end
end
section
open Go.RowKit
attribute [local irreducible] run runL loopG exec scn sdp sde sal
theorem scn_true{n:Nat}{g:TGraphR}(hl:Lim7 g):scn n [graphRV g]=some (.lit (.bool true)):=by
 obtain ⟨r,K,h⟩:=fair_c (n:=n+10) (g:=g)
 cases r with
 | false=>exact scn_f1 K rfl
 | true=>
   have hf:=h rfl
   exact scn_f2 K rfl (conR_c (n:=n+4) hf hl).1 (conR_c (n:=n+6) hf hl).2 (same17_c (n:=n+9) (coP_sg (seeG_sg hf hl)).1)
theorem sdp_true{n:Nat}{g:TGraphR}(hl:Lim7 g):sdp n [graphRV g]=some (.lit (.bool true)):=by
 obtain ⟨r,K,h⟩:=fair_c (n:=n+10) (g:=g)
 cases r with
 | false=>exact sdp_f1 K rfl
 | true=>
   have hf:=h rfl
   exact sdp_f2 K rfl (dupR_c (n:=n+2) hf hl).1 (dupR_c (n:=n+6) hf hl).2 (same17_c (n:=n+9) (duP_sg (seeG_sg hf hl)).1)
theorem sde_true{n:Nat}{g:TGraphR}(hl:Lim7 g):sde n [graphRV g]=some (.lit (.bool true)):=by
 obtain ⟨r,K,h⟩:=fair_c (n:=n+10) (g:=g)
 cases r with
 | false=>exact sde_f1 K rfl
 | true=>
   have hf:=h rfl
   exact sde_f2 K rfl (deaR_c (n:=n+4) hf hl).1 (deaR_c (n:=n+6) hf hl).2 (same17_c (n:=n+9) (deP_sg (seeG_sg hf hl)).1)
theorem sal_true{n:Nat}{g:TGraphR}(hl:Lim7 g):sal n [graphRV g]=some (.lit (.bool true)):=by
 obtain ⟨r,K,h⟩:=fair_c (n:=n+10) (g:=g)
 cases r with
 | false=>exact sal_f1 K rfl
 | true=>
   have hf:=h rfl
   exact sal_f2 K rfl (simR_c (n:=n+1) hf hl).1 (simR_c (n:=n+5) hf hl).2 (same17_c (n:=n+9) (simP_done (seeG_sg hf hl)).1.sg)
end
section
open Go.ChangeShapes Go.WideShapes Go.RowKit Go.Deep
theorem scn_use(w:World){v0:Value}{g:TGraphR}{N:Nat}(r0:RepT w okT (.agg (graphRC g)) v0)(k0:okO_Graph N g)(hG:Glob w okT):
  Calls Tryz.prog 3 #[v0] w (RetB true w):=
 (scn_con (scn_true (n:=0) (okG_lim7 k0)) w okT _ hG (rvs_cons r0 rvs_nil)).mono fun _ _ h=>true_end h
theorem sal_use(w:World){v0:Value}{g:TGraphR}{N:Nat}(r0:RepT w okT (.agg (graphRC g)) v0)(k0:okO_Graph N g)(hG:Glob w okT):
  Calls Tryz.prog 4 #[v0] w (RetB true w):=
 (sal_con (sal_true (n:=0) (okG_lim7 k0)) w okT _ hG (rvs_cons r0 rvs_nil)).mono fun _ _ h=>true_end h
theorem sdp_use(w:World){v0:Value}{g:TGraphR}{N:Nat}(r0:RepT w okT (.agg (graphRC g)) v0)(k0:okO_Graph N g)(hG:Glob w okT):
  Calls Tryz.prog 5 #[v0] w (RetB true w):=
 (sdp_con (sdp_true (n:=0) (okG_lim7 k0)) w okT _ hG (rvs_cons r0 rvs_nil)).mono fun _ _ h=>true_end h
theorem sde_use(w:World){v0:Value}{g:TGraphR}{N:Nat}(r0:RepT w okT (.agg (graphRC g)) v0)(k0:okO_Graph N g)(hG:Glob w okT):
  Calls Tryz.prog 6 #[v0] w (RetB true w):=
 (sde_con (sde_true (n:=0) (okG_lim7 k0)) w okT _ hG (rvs_cons r0 rvs_nil)).mono fun _ _ h=>true_end h
end
section
open Go.RowKit
noncomputable def scmT(n:Nat):FuncId→Option Orc:=ext (tab (n+12)) 10 (.pure awG)
theorem scmT_ok(n:Nat):OrcOk Tryz.prog (scmT n):=(tab_ok (n+12)).extP (by kernel_rfl) con_awake
noncomputable def scm(n:Nat)(args:List AV):Option AV:=fnP Tryz.prog (scmT n) (livesOf 8) big (fnOf 8) args
theorem scm_con{n:Nat}{args:List AV}{r:AV}(h:scm n args=some r):Con Tryz.prog 8 args r:=
 con_of (scmT_ok n) mixed (plain_fn (by kernel_rfl)) (body_some (by kernel_rfl) (plain_fn (by kernel_rfl))) h
theorem scm_aw(n:Nat):scmT n 10=some (.pure awG):=by unfold scmT ext;rw [if_pos rfl]
theorem scm_l11(n:Nat):scmT n 11=some (.pure (run (n+11) 11)):=by unfold scmT ext;rw [if_neg (by decide)];exact tb_11 _
theorem scm_l12(n:Nat):scmT n 12=some (.pure (run (n+11) 12)):=by unfold scmT ext;rw [if_neg (by decide)];exact tb_12 _
theorem scm_l13(n:Nat):scmT n 13=some (.pure (run (n+11) 13)):=by unfold scmT ext;rw [if_neg (by decide)];exact tb_13 _
theorem scm_l15(n:Nat):scmT n 15=some (.pure (run (n+11) 15)):=by unfold scmT ext;rw [if_neg (by decide)];exact tb_15 _
theorem scm_l17(n:Nat):scmT n 17=some (.pure (run (n+11) 17)):=by unfold scmT ext;rw [if_neg (by decide)];exact tb_17 _
theorem scm_l19(n:Nat):scmT n 19=some (.pure (run (n+11) 19)):=by unfold scmT ext;rw [if_neg (by decide)];exact tb_19 _
theorem scm_l25(n:Nat):scmT n 25=some (.pure (run (n+11) 25)):=by unfold scmT ext;rw [if_neg (by decide)];exact tb_25 _
theorem scm_l26(n:Nat):scmT n 26=some (.pure (run (n+11) 26)):=by unfold scmT ext;rw [if_neg (by decide)];exact tb_26 _
noncomputable def scm_C6:Code:=(loopsOf (bodyOf Tryz.f8)).getD 0 .skip
noncomputable def scm_C11:Code:=(loopsOf scm_C6).getD 0 .skip
def scm_h11(r3:List Bool)(i_6:Nat)(i_11:Nat)(r2:TGraph):St:=
 ⟨[(3,.ptr 0 0),(4,.sl 1 (r3.map boolC)),(5,.lit (.int .i64 (i_6:Int))),(6,.lit (.int .i64 (i_11:Int)))],
  [(0,some (.box 24 [.lit (.int .i64 (r2.Inputs)),.sl 4 (r2.Units.map formC),.sl 4 (r2.Outputs.map formC)] false))],1⟩
def scm_h6(r3:List Bool)(i_6:Nat)(r2:TGraph):St:=
 ⟨[(3,.ptr 0 0),(4,.sl 1 (r3.map boolC)),(5,.lit (.int .i64 (i_6:Int)))],
  [(0,some (.box 24 [.lit (.int .i64 (r2.Inputs)),.sl 4 (r2.Units.map formC),.sl 4 (r2.Outputs.map formC)] false))],1⟩
def scm_o11b(r3:List Bool)(i_6:Nat)(r2:TGraph):St:=
 ⟨[(2,.any),(3,.ptr 0 0),(4,.sl 1 (r3.map boolC)),(5,.lit (.int .i64 (i_6:Int)))],
  [(0,some (.box 24 [.lit (.int .i64 (r2.Inputs)),.sl 4 (r2.Units.map formC),.sl 4 (r2.Outputs.map formC)] false))],1⟩
def scm_o6b(r2:TGraph):St:=
 ⟨[(2,.any),(3,.ptr 0 0)],
  [(0,some (.box 24 [.lit (.int .i64 (r2.Inputs)),.sl 4 (r2.Units.map formC),.sl 4 (r2.Outputs.map formC)] false))],1⟩
section
variable{n:Nat}{r3:List Bool}{F14:List (Int × Rat)}{r2:TGraph}{F15:List (Int × Rat)}{r9:Bool}{q15:Rat}{i_11:Nat}{q14:Rat}{i_6:Nat}{x3:Bool}{F9:List (Int × Rat)}{q9:Rat}{r:Bool}{a0:TGraphR}{r16:TGraph}{r12:TGraph}{r10:TGraph}{r11:Bool}{r13:Bool}{r15:Bool}{r17:Bool}{r14:TGraph}
theorem scm_r11_1(C1:(i_11:Int)<(i_6:Int))(E2:r2.Units[i_11]?=some (F14,q14))(E3:r2.Units[i_6]?=some (F15,q15))(K4:run (n+11) 26 [formV (F14,q14),formV (F15,q15)]=some (.lit (.bool r9)))(C5:r9=false)(W6:InI ((i_11:Int)+1)):
  Cont 0 (exec Tryz.prog (scmT n) 0 79 (livesOf 8) big scm_C11) (livesOf 8 11) (scm_h11 r3 i_6 i_11 r2) (scm_h11 r3 i_6 (i_11+1) r2):=by
 have C1_:i_11<i_6:=by omega
 obtain ⟨EL2,EG2⟩:=List.getElem?_eq_some_iff.1 E2
 obtain ⟨EL3,EG3⟩:=List.getElem?_eq_some_iff.1 E3
 simp only [formV] at K4
 have W6_:IntKind.i64.wrap ((i_11:Int)+1)=(i_11:Int)+1:=wr64 W6.1 W6.2
 apply Cont_m
 simp+decide [scm_h11,loopsOf, Tryz.f8,scm_C6,scm_C11,C1,C1_,EL2,EG2,E2,EL3,EG3,E3,K4,C5,W6_,scm_aw,awG,scm_l11,scm_l12,scm_l13,scm_l15,scm_l17,scm_l19,scm_l25,scm_l26]
theorem scm_x11_2(C1:¬(i_11:Int)<(i_6:Int)):
  Leave 0 (exec Tryz.prog (scmT n) 0 79 (livesOf 8) big scm_C11) (livesOf 8 (outOf 11)) (scm_h11 r3 i_6 i_11 r2) (.exit 2) (scm_o11b r3 i_6 r2):=by
 have C1_:¬i_11<i_6:=by omega
 apply Leave_m
 simp+decide [scm_h11,loopsOf, Tryz.f8,scm_o11b,scm_C6,scm_C11,C1,C1_,scm_aw,awG,scm_l11,scm_l12,scm_l13,scm_l15,scm_l17,scm_l19,scm_l25,scm_l26]
theorem scm_r6_1(C1:(i_6:Int)<(r2.Units.length:Int))(E2:r2.Units[i_6]?=some (F9,q9))(C3:¬(F9.length:Int)=0)(E4:r3[i_6]?=some x3)(C5:x3=true)(L6:loopG Tryz.prog (scmT n) 0 79 (livesOf 8) 11 scm_C11 (scm_h11 r3 i_6 0 r2)=some (.exit 2,scm_o11b r3 i_6 r2))(W7:InI ((i_6:Int)+1)):
  Cont 0 (exec Tryz.prog (scmT n) 0 79 (livesOf 8) big scm_C6) (livesOf 8 6) (scm_h6 r3 i_6 r2) (scm_h6 r3 (i_6+1) r2):=by
 have C1_:i_6<r2.Units.length:=by omega
 obtain ⟨EL2,EG2⟩:=List.getElem?_eq_some_iff.1 E2
 have C3_:((F9.length:Int)==0)=false:=by simpa using C3
 have C3_n:((F9.length:Int) !=0)=true:=by simpa using C3
 have C3_l:0<(F9.length:Int):=by omega
 obtain ⟨EL4,EG4⟩:=List.getElem?_eq_some_iff.1 E4
 have W7_:IntKind.i64.wrap ((i_6:Int)+1)=(i_6:Int)+1:=wr64 W7.1 W7.2
 apply Cont_m
 simp+decide [scm_h6,loopsOf, Tryz.f8,scm_C6,C1,C1_,EL2,EG2,E2,C3_,C3_n,C3_l,EL4,EG4,E4,C5,W7_,scm_aw,awG,scm_l11,scm_l12,scm_l13,scm_l15,scm_l17,scm_l19,scm_l25,scm_l26]
 rw [loopX_G (C':=scm_C11) (e:=(scm_h11 r3 i_6 0 r2)) ?_ ?_,L6]
 rotate_left
 ·kernel_rfl
 ·simp+decide [scm_h11,loopsOf, Tryz.f8,scm_C6,C1,C1_,EL2,EG2,E2,C3_,C3_n,C3_l,EL4,EG4,E4,C5,W7_,scm_aw,awG,scm_l11,scm_l12,scm_l13,scm_l15,scm_l17,scm_l19,scm_l25,scm_l26]
 simp+decide [scm_o11b,loopsOf, Tryz.f8,scm_C6,C1,C1_,EL2,EG2,E2,C3_,C3_n,C3_l,EL4,EG4,E4,C5,W7_,scm_aw,awG,scm_l11,scm_l12,scm_l13,scm_l15,scm_l17,scm_l19,scm_l25,scm_l26]
theorem scm_x6_4(C1:¬(i_6:Int)<(r2.Units.length:Int)):
  Leave 0 (exec Tryz.prog (scmT n) 0 79 (livesOf 8) big scm_C6) (livesOf 8 (outOf 6)) (scm_h6 r3 i_6 r2) (.exit 0) (scm_o6b r2):=by
 have C1_:¬i_6<r2.Units.length:=by omega
 apply Leave_m
 simp+decide [scm_h6,loopsOf, Tryz.f8,scm_o6b,scm_C6,C1,C1_,scm_aw,awG,scm_l11,scm_l12,scm_l13,scm_l15,scm_l17,scm_l19,scm_l25,scm_l26]
theorem scm_f1(K1:run (n+11) 11 [graphRV a0]=some (.lit (.bool r)))(C2:r=false):
  scm n [graphRV a0]=some (.lit (.bool true)):=by
 simp only [graphRV] at K1
 unfold scm fnP
 simp+decide [Tryz.f8,K1,C2,scm_aw,awG,scm_l11,scm_l12,scm_l13,scm_l15,scm_l17,scm_l19,scm_l25,scm_l26]
theorem scm_f3(K1:run (n+11) 11 [graphRV a0]=some (.lit (.bool r)))(C2:r=true)(K3:run (n+11) 15 [graphRV a0]=some (graphV r2))(K4:run (n+11) 25 [graphV r2]=some (.sl 1 (r3.map boolC)))(L5:loopG Tryz.prog (scmT n) 0 79 (livesOf 8) 6 scm_C6 (scm_h6 r3 0 r2)=some (.exit 0,scm_o6b r2))(K6:run (n+11) 15 [graphV r2]=some (graphV r10))(K7:run (n+11) 12 [graphV r10,graphV r2]=some (.lit (.bool r11)))(C8:r11=true)(K9:run (n+11) 13 [graphV r2]=some (graphV r12))(K10:run (n+11) 12 [graphV r12,graphV r2]=some (.lit (.bool r13)))(C11:r13=true)(K12:run (n+11) 17 [graphV r2]=some (graphV r14))(K13:run (n+11) 12 [graphV r14,graphV r2]=some (.lit (.bool r15)))(C14:r15=true)(K15:run (n+11) 19 [graphV r2]=some (graphV r16))(K16:run (n+11) 12 [graphV r16,graphV r2]=some (.lit (.bool r17))):
  scm n [graphRV a0]=some (.lit (.bool r17)):=by
 simp only [graphRV] at K1
 simp only [graphV,graphRV] at K3
 simp only [graphV] at K4
 simp only [graphV] at K6
 simp only [graphV] at K7
 simp only [graphV] at K9
 simp only [graphV] at K10
 simp only [graphV] at K12
 simp only [graphV] at K13
 simp only [graphV] at K15
 simp only [graphV] at K16
 unfold scm fnP
 simp+decide [Tryz.f8,K1,C2,K3,K4,K6,K7,C8,K9,K10,C11,K12,K13,C14,K15,K16,scm_aw,awG,scm_l11,scm_l12,scm_l13,scm_l15,scm_l17,scm_l19,scm_l25,scm_l26]
 rw [loopX_G (C':=scm_C6) (e:=(scm_h6 r3 0 r2)) ?_ ?_,L5]
 rotate_left
 ·kernel_rfl
 ·simp+decide [scm_h6,K1,C2,K3,K4,K6,K7,C8,K9,K10,C11,K12,K13,C14,K15,K16,scm_aw,awG,scm_l11,scm_l12,scm_l13,scm_l15,scm_l17,scm_l19,scm_l25,scm_l26]
 simp+decide [scm_o6b,K1,C2,K3,K4,K6,K7,C8,K9,K10,C11,K12,K13,C14,K15,K16,scm_aw,awG,scm_l11,scm_l12,scm_l13,scm_l15,scm_l17,scm_l19,scm_l25,scm_l26]
end
end
section
open Go.RowKit
attribute [local irreducible] run runL loopG exec scm
theorem cp_sim{x:TGraph}(h:SG x)(hx:OkGr x∨x=zG):cpG (simP x)=simP x:=by
 rcases hx with hx|rfl
 ·obtain ⟨d,_,e⟩:=simP_done h
  exact cpG_ok (d.sg.ok (by rw [e];exact hx.i0) (by unfold simP;rw [simL_olen];have:=hx.o0;omega))
 ·rw [zG_sim];exact cpG_no zG_no
theorem seeG_ok{g:TGraphR}(h:FairG g)(hl:Lim7 g):OkGr (seeG g)∨seeG g=zG:=by
 unfold seeG
 by_cases c:OkGrR7 g
 ·rw [if_pos (tv_t c)];exact .inl (fair_sg h hl c).2.1
 ·rw [if_neg (by rw [tv_f c];simp)];exact .inr rfl
theorem scm_true{n:Nat}{g:TGraphR}(hl:Lim7 g):scm n [graphRV g]=some (.lit (.bool true)):=by
 obtain ⟨r,K,h⟩:=fair_c (n:=n+10) (g:=g)
 cases r with
 | false=>exact scm_f1 K rfl
 | true=>
   have hf:=h rfl
   have sg:=seeG_sg hf hl
   have K3:=(simR_c (n:=n+1) hf hl).1
   have hc:=cp_sim sg (seeG_ok hf hl)
   obtain ⟨d,_,_⟩:=simP_done sg
   generalize simP (seeG g)=s at K3 hc d
   have u8:=d.sg.u
   have hS:SG (cpG s):=by rw [hc];exact d.sg
   have K4:=Needed_c (n:=n+10) d.sg
   have bd:=d.sg.bd
   have inner:∀{i:Nat},i<s.Units.length→loopG Tryz.prog (scmT n) 0 79 (livesOf 8) 11 scm_C11 (scm_h11 (neL s) i 0 s)=some (.exit 2,scm_o11b (neL s) i s):=fun {i} hi=>by
    have e1:s.Units[i]?=some s.Units[i]:=List.getElem?_eq_getElem hi
    generalize s.Units[i]=f at e1
    obtain ⟨_,L,_⟩:=loopG_R (β:=Unit) (P:= Tryz.prog) (O:=scmT n) (m:=0) (N:=79) (lives:=livesOf 8) (r:=11) (C:=scm_C11) (M:=i) (enc:=fun k _=>scm_h11 (neL s) i k s) (exN:=.exit 2) (out:=fun _=>scm_o11b (neL s) i s) (fun _ _=>True) () trivial (by omega) (fun h=>by cases h)
     (fun k _ hk _=>by
      have e2:s.Units[k]?=some (s.Units[k]'(by omega)):=List.getElem?_eq_getElem (by omega)
      generalize s.Units[k]'(by omega)=f2 at e2
      have ne:¬f2=f:=fun e=>d.d i k f hk e1 (by rw [e2,e])
      have K5:=feq_c (n:=n+11) (bd.u f2 (List.mem_of_getElem? e2)) (bd.u f (List.mem_of_getElem? e1))
      rw [tv_f ne] at K5
      obtain ⟨F,q⟩:=f
      obtain ⟨G,p⟩:=f2
      exact ⟨(),scm_r11_1 (by omega) e2 e1 K5 rfl ⟨by omega,by omega⟩,trivial⟩)
     (fun _ _=>scm_x11_2 (by omega))
    exact L
   obtain ⟨_,L,_⟩:=loopG_R (β:=Unit) (P:= Tryz.prog) (O:=scmT n) (m:=0) (N:=79) (lives:=livesOf 8) (r:=6) (C:=scm_C6) (M:=s.Units.length) (enc:=fun k _=>scm_h6 (neL s) k s) (exN:=.exit 0) (out:=fun _=>scm_o6b s) (fun _ _=>True) () trivial (by omega) (fun h=>by cases h)
    (fun i _ hi _=>by
     have e1:s.Units[i]?=some s.Units[i]:=List.getElem?_eq_getElem hi
     generalize s.Units[i]=f at e1
     have ht:=d.t i f e1
     have E4:=neL_get hi
     rw [tv_t (d.n i hi)] at E4
     have L6:=inner hi
     obtain ⟨F,q⟩:=f
     exact ⟨(),scm_r6_1 (by omega) e1 (fun e=>ht (List.length_eq_zero_iff.1 (by dsimp only;omega))) E4 rfl L6 ⟨by omega,by omega⟩,trivial⟩)
    (fun _ _=>scm_x6_4 (by omega))
   have S1:=xSi_c (n:=n+1) bd hS
   have S2:=xCo_c (n:=n+4) bd hS
   have S3:=xDu_c (n:=n+2) bd hS
   have S4:=xDe_c (n:=n+4) bd hS
   rw [hc,d.sim] at S1
   rw [hc,d.co] at S2
   rw [hc,d.du] at S3
   rw [hc,d.de] at S4
   have sm:=same17_c (n:=n+9) d.sg
   exact scm_f3 K rfl K3 K4 L S1 sm rfl S2 sm rfl S3 sm rfl S4 sm
end
section
open Go.ChangeShapes Go.WideShapes Go.RowKit Go.Deep
theorem scm_use(w:World){v0:Value}{g:TGraphR}{N:Nat}(r0:RepT w okT (.agg (graphRC g)) v0)(k0:okO_Graph N g)(hG:Glob w okT):
  Calls Tryz.prog 8 #[v0] w (RetB true w):=
 (scm_con (scm_true (n:=0) (okG_lim7 k0)) w okT _ hG (rvs_cons r0 rvs_nil)).mono fun _ _ h=>true_end h
end
section
open Go.RowKit
noncomputable def sunT(n:Nat):FuncId→Option Orc:=ext (tab (n+12)) 10 (.pure awG)
theorem sunT_ok(n:Nat):OrcOk Tryz.prog (sunT n):=(tab_ok (n+12)).extP (by kernel_rfl) con_awake
noncomputable def sun(n:Nat)(args:List AV):Option AV:=fnP Tryz.prog (sunT n) (livesOf 9) big (fnOf 9) args
theorem sun_con{n:Nat}{args:List AV}{r:AV}(h:sun n args=some r):Con Tryz.prog 9 args r:=
 con_of (sunT_ok n) mixed (plain_fn (by kernel_rfl)) (body_some (by kernel_rfl) (plain_fn (by kernel_rfl))) h
theorem sun_aw(n:Nat):sunT n 10=some (.pure awG):=by unfold sunT ext;rw [if_pos rfl]
theorem sun_l11(n:Nat):sunT n 11=some (.pure (run (n+11) 11)):=by unfold sunT ext;rw [if_neg (by decide)];exact tb_11 _
theorem sun_l13(n:Nat):sunT n 13=some (.pure (run (n+11) 13)):=by unfold sunT ext;rw [if_neg (by decide)];exact tb_13 _
theorem sun_l15(n:Nat):sunT n 15=some (.pure (run (n+11) 15)):=by unfold sunT ext;rw [if_neg (by decide)];exact tb_15 _
theorem sun_l17(n:Nat):sunT n 17=some (.pure (run (n+11) 17)):=by unfold sunT ext;rw [if_neg (by decide)];exact tb_17 _
theorem sun_l19(n:Nat):sunT n 19=some (.pure (run (n+11) 19)):=by unfold sunT ext;rw [if_neg (by decide)];exact tb_19 _
theorem sun_l21(n:Nat):sunT n 21=some (.pure (run (n+11) 21)):=by unfold sunT ext;rw [if_neg (by decide)];exact tb_21 _
theorem sun_l27(n:Nat):sunT n 27=some (.pure (run (n+11) 27)):=by unfold sunT ext;rw [if_neg (by decide)];exact tb_27 _
theorem sun_l28(n:Nat):sunT n 28=some (.pure (run (n+11) 28)):=by unfold sunT ext;rw [if_neg (by decide)];exact tb_28 _
noncomputable def sun_C6:Code:=(loopsOf (bodyOf Tryz.f9)).getD 0 .skip
def sun_h6(a0:TGraphR)(gs_6:List TGraph)(i_6:Nat)(r2:List FormR)(r3:List FormR):St:=
 ⟨[(1,.ptr 0 0),(3,.ptr 1 0),(4,.sl 3 (gs_6.map graphC)),(5,.lit (.int .i64 (i_6:Int)))],
  [(0,some (.box 24 [.lit (.int .i64 (a0.Inputs)),.sl 4 (a0.Units.map formRC),.sl 4 (a0.Outputs.map formRC)] false)),
   (1,some (.box 24 [.lit (.int .i64 (a0.Inputs)),.sl 4 (r2.map formRC),.sl 4 (r3.map formRC)] false))],2⟩
def sun_o6b(a0:TGraphR)(r2:List FormR)(r3:List FormR):St:=
 ⟨[(1,.ptr 0 0),(2,.any),(3,.ptr 1 0)],
  [(0,some (.box 24 [.lit (.int .i64 (a0.Inputs)),.sl 4 (a0.Units.map formRC),.sl 4 (a0.Outputs.map formRC)] false)),
   (1,some (.box 24 [.lit (.int .i64 (a0.Inputs)),.sl 4 (r2.map formRC),.sl 4 (r3.map formRC)] false))],2⟩
section
variable {n : Nat} {gs_6 : List TGraph} {a0 : TGraphR} {r3 : List FormR} {r10 : Bool} {x3 : TGraph} {r2 : List FormR} {i_6 : Nat} {r : Bool} {r4 : TGraph} {r12 : Bool} {r6 : TGraph} {r11 : Bool} {r7 : TGraph} {r5 : TGraph}
section
variable(C1:(i_6:Int)<(gs_6.length:Int))(K2:run (n+11) 21 [graphRV a0]=some (.lit (.bool r10)))
include C1 K2
theorem sun_r6_1(C3:r10=false)(E4:gs_6[i_6]?=some x3)(C5:x3.Inputs=0)(C6:(x3.Units.length:Int)=0)(C7:(x3.Outputs.length:Int)=0)(W8:InI ((i_6:Int)+1)):
  Cont 0 (exec Tryz.prog (sunT n) 0 86 (livesOf 9) big sun_C6) (livesOf 9 6) (sun_h6 a0 gs_6 i_6 r2 r3) (sun_h6 a0 gs_6 (i_6+1) r2 r3):=by
 have C1_:i_6<gs_6.length:=by omega
 simp only [graphRV] at K2
 obtain ⟨EL4,EG4⟩:=List.getElem?_eq_some_iff.1 E4
 have C5_:(x3.Inputs==0)=true:=by rw [C5];simp
 have C5_n:(x3.Inputs !=0)=false:=by rw [C5];simp
 have C6_:((x3.Units.length:Int)==0)=true:=by rw [C6];simp
 have C6_n:((x3.Units.length:Int) !=0)=false:=by rw [C6];simp
 have C6_l:¬0<(x3.Units.length:Int):=by omega
 have C7_:((x3.Outputs.length:Int)==0)=true:=by rw [C7];simp
 have C7_n:((x3.Outputs.length:Int) !=0)=false:=by rw [C7];simp
 have C7_l:¬0<(x3.Outputs.length:Int):=by omega
 have W8_:IntKind.i64.wrap ((i_6:Int)+1)=(i_6:Int)+1:=wr64 W8.1 W8.2
 apply Cont_m
 simp+decide [sun_h6,loopsOf, Tryz.f9,sun_C6,C1,C1_,K2,C3,EL4,EG4,E4,C5_,C5_n,C6_,C6_n,C6_l,C7_,C7_n,C7_l,W8_,sun_aw,awG,sun_l11,sun_l13,sun_l15,sun_l17,sun_l19,sun_l21,sun_l27,sun_l28]
theorem sun_r6_2(C3:r10=true)(W4:InI ((i_6:Int)+1)):
  Cont 0 (exec Tryz.prog (sunT n) 0 86 (livesOf 9) big sun_C6) (livesOf 9 6) (sun_h6 a0 gs_6 i_6 r2 r3) (sun_h6 a0 gs_6 (i_6+1) r2 r3):=by
 have C1_:i_6<gs_6.length:=by omega
 simp only [graphRV] at K2
 have W4_:IntKind.i64.wrap ((i_6:Int)+1)=(i_6:Int)+1:=wr64 W4.1 W4.2
 apply Cont_m
 simp+decide [sun_h6,loopsOf, Tryz.f9,sun_C6,C1,C1_,K2,C3,W4_,sun_aw,awG,sun_l11,sun_l13,sun_l15,sun_l17,sun_l19,sun_l21,sun_l27,sun_l28]
end
theorem sun_x6_4(C1:¬(i_6:Int)<(gs_6.length:Int)):
  Leave 0 (exec Tryz.prog (sunT n) 0 86 (livesOf 9) big sun_C6) (livesOf 9 (outOf 6)) (sun_h6 a0 gs_6 i_6 r2 r3) (.exit 0) (sun_o6b a0 r2 r3):=by
 have C1_:¬i_6<gs_6.length:=by omega
 apply Leave_m
 simp+decide [sun_h6,loopsOf, Tryz.f9,sun_o6b,sun_C6,C1,C1_,sun_aw,awG,sun_l11,sun_l13,sun_l15,sun_l17,sun_l19,sun_l21,sun_l27,sun_l28]
theorem sun_f1(K1:run (n+11) 11 [graphRV a0]=some (.lit (.bool r)))(C2:r=false):
  sun n [graphRV a0]=some (.lit (.bool true)):=by
 simp only [graphRV] at K1
 unfold sun fnP
 simp+decide [Tryz.f9,K1,C2,sun_aw,awG,sun_l11,sun_l13,sun_l15,sun_l17,sun_l19,sun_l21,sun_l27,sun_l28]
theorem sun_f3(K1:run (n+11) 11 [graphRV a0]=some (.lit (.bool r)))(C2:r=true)(K3:run (n+11) 27 [.sl 4 (a0.Units.map formRC)]=some (.sl 4 (r2.map formRC)))(K4:run (n+11) 27 [.sl 4 (a0.Outputs.map formRC)]=some (.sl 4 (r3.map formRC)))(K5:run (n+11) 13 [.agg [.lit (.int .i64 (a0.Inputs)),.sl 4 (r2.map formRC),.sl 4 (r3.map formRC)]]=some (graphV r4))(K6:run (n+11) 17 [.agg [.lit (.int .i64 (a0.Inputs)),.sl 4 (r2.map formRC),.sl 4 (r3.map formRC)]]=some (graphV r5))(K7:run (n+11) 19 [.agg [.lit (.int .i64 (a0.Inputs)),.sl 4 (r2.map formRC),.sl 4 (r3.map formRC)]]=some (graphV r6))(K8:run (n+11) 15 [.agg [.lit (.int .i64 (a0.Inputs)),.sl 4 (r2.map formRC),.sl 4 (r3.map formRC)]]=some (graphV r7))(L9:loopG Tryz.prog (sunT n) 0 86 (livesOf 9) 6 sun_C6 (sun_h6 a0 ([r4,r5,r6,r7]) 0 r2 r3)=some (.exit 0,sun_o6b a0 r2 r3))(K10:run (n+11) 28 [.sl 4 (r2.map formRC),.sl 4 (a0.Units.map formRC)]=some (.lit (.bool r11)))(C11:r11=true)(K12:run (n+11) 28 [.sl 4 (r3.map formRC),.sl 4 (a0.Outputs.map formRC)]=some (.lit (.bool r12))):
  sun n [graphRV a0]=some (.lit (.bool r12)):=by
 simp only [graphRV] at K1
 simp only [graphV] at K5
 simp only [graphV] at K6
 simp only [graphV] at K7
 simp only [graphV] at K8
 unfold sun fnP
 simp+decide [Tryz.f9,K1,C2,K3,K4,K5,K6,K7,K8,K10,C11,K12,sun_aw,awG,sun_l11,sun_l13,sun_l15,sun_l17,sun_l19,sun_l21,sun_l27,sun_l28]
 rw [loopX_G (C':=sun_C6) (e:=(sun_h6 a0 ([r4,r5,r6,r7]) 0 r2 r3)) ?_ ?_,L9]
 rotate_left
 ·kernel_rfl
 ·simp+decide [sun_h6,K1,C2,K3,K4,K5,K6,K7,K8,K10,C11,K12,sun_aw,awG,sun_l11,sun_l13,sun_l15,sun_l17,sun_l19,sun_l21,sun_l27,sun_l28]
 simp+decide [sun_o6b,K1,C2,K3,K4,K5,K6,K7,K8,K10,C11,K12,sun_aw,awG,sun_l11,sun_l13,sun_l15,sun_l17,sun_l19,sun_l21,sun_l27,sun_l28]
end
end
section
open Go.RowKit
attribute [local irreducible] run runL loopG exec sun
theorem forms17_c{n:Nat}{L:List FormR}(hl:L.length≤8)(hf:∀f∈L,FewS f):run n 27 [.sl 4 (L.map formRC)]=some (.sl 4 (L.map formRC)):=by
 obtain ⟨o,L1,ho⟩:=loopG_R (β:=List FormR) (P:= Tryz.prog) (O:=tab n) (m:=0) (N:=28) (lives:=livesOf 27) (r:=3) (C:=fms_C3) (M:=L.length) (enc:=fun i o=>fms_h3 L o i) (exN:=.exit 0) (out:=fun o=>fms_o3a o) (fun i o=>o=L.take i) [] rfl (by omega) (fun h=>by cases h)
  (fun i o hi hI=>by
   have e1:L[i]?=some L[i]:=List.getElem?_eq_getElem hi
   generalize L[i]=f at e1
   have hF:=(hf f (List.mem_of_getElem? e1)).l
   obtain ⟨F,r⟩:=f
   have hol:o.length≤8:=by rw [hI,List.length_take];omega
   refine ⟨_,fms_r3_1 (by omega) e1 (by dsimp only at hF;omega) (by omega) ⟨by omega,by omega⟩,?_⟩
   rw [hI,List.take_add_one,e1]
   rfl)
  (fun o hI=>fms_x3_1 (by omega))
 rw [List.take_of_length_le (Nat.le_refl _)] at ho
 subst ho
 exact fms_f1 L1
theorem eqa_same{n:Nat}{L:List FormR}(hl:L.length≤8)(hf:∀f∈L,FewS f):run (n+3) 28 [.sl 4 (L.map formRC),.sl 4 (L.map formRC)]=some (.lit (.bool true)):=by
 obtain ⟨_,L1,_⟩:=loopG_R (β:=Unit) (P:= Tryz.prog) (O:=tab (n+3)) (m:=0) (N:=27) (lives:=livesOf 28) (r:=4) (C:=eqa_C4) (M:=L.length) (enc:=fun i _=>eqa_h4 L L i) (exN:=.exit 0) (out:=fun _=>eqa_o4b) (fun _ _=>True) () trivial (by omega) (fun h=>by cases h)
  (fun i _ hi _=>by
   have e1:L[i]?=some L[i]:=List.getElem?_eq_getElem hi
   generalize L[i]=f at e1
   have hF:=hf f (List.mem_of_getElem? e1)
   have K:=form17R_c (n:=n) (f:=f) (g:=f) ⟨by have:=hF.l;omega,fun t ht=>⟨by have:=(hF.t t ht).1;omega,by have:=(hF.t t ht).2;omega⟩,⟨by have:=hF.k.1;omega,by have:=hF.k.2;omega⟩⟩
   rw [tv_t rfl] at K
   obtain ⟨F,r⟩:=f
   exact ⟨(),eqa_r4_1 (by omega) e1 e1 K rfl ⟨by omega,by omega⟩,trivial⟩)
  (fun _ _=>eqa_x4_2 (by omega))
 exact eqa_f3 rfl L1
theorem sun_true{n:Nat}{g:TGraphR}(hl:Lim7 g):sun n [graphRV g]=some (.lit (.bool true)):=by
 obtain ⟨r,K,h⟩:=fair_c (n:=n+10) (g:=g)
 cases r with
 | false=>exact sun_f1 K rfl
 | true=>
   have hf:=h rfl
   have u8:=hf.u
   have o8:=hf.o
   have KV:=validGR_c7 (n:=n+9) (hf.bd hl)
   have L:loopG Tryz.prog (sunT n) 0 86 (livesOf 9) 6 sun_C6 (sun_h6 g [coP (seeG g),duP (seeG g),deP (seeG g),simP (seeG g)] 0 g.Units g.Outputs)=some (.exit 0,sun_o6b g g.Units g.Outputs):=by
    obtain ⟨_,L1,_⟩:=loopG_R (β:=Unit) (P:= Tryz.prog) (O:=sunT n) (m:=0) (N:=86) (lives:=livesOf 9) (r:=6) (C:=sun_C6) (M:=4) (enc:=fun i _=>sun_h6 g [coP (seeG g),duP (seeG g),deP (seeG g),simP (seeG g)] i g.Units g.Outputs) (exN:=.exit 0) (out:=fun _=>sun_o6b g g.Units g.Outputs) (fun _ _=>True) () trivial (by omega) (fun h=>by cases h)
     (fun i _ hi _=>by
      have c1:(i:Int)<(([coP (seeG g),duP (seeG g),deP (seeG g),simP (seeG g)]:List TGraph).length:Int):=by
       rw [show ([coP (seeG g),duP (seeG g),deP (seeG g),simP (seeG g)]:List TGraph).length=4 from rfl];omega
      by_cases c:OkGrR7 g
      ·rw [tv_t c] at KV
       exact ⟨(),sun_r6_2 c1 KV rfl ⟨by omega,by omega⟩,trivial⟩
      ·rw [tv_f c] at KV
       have es:seeG g=zG:=by unfold seeG;rw [if_neg (by rw [tv_f c];simp)]
       have e4:([coP (seeG g),duP (seeG g),deP (seeG g),simP (seeG g)]:List TGraph)[i]?=some zG:=by
        rw [es,zG_co,zG_du,zG_de,zG_sim]
        rcases (by omega:i=0∨i=1∨i=2∨i=3) with rfl|rfl|rfl|rfl <;>rfl
       exact ⟨(),sun_r6_1 c1 KV rfl e4 rfl rfl rfl ⟨by omega,by omega⟩,trivial⟩)
     (fun _ _=>sun_x6_4 (by rw [show ([coP (seeG g),duP (seeG g),deP (seeG g),simP (seeG g)]:List TGraph).length=4 from rfl];omega))
    exact L1
   exact sun_f3 K rfl (forms17_c (n:=n+11) u8 hf.us) (forms17_c (n:=n+11) o8 hf.os) (conR_c (n:=n+4) hf hl).1 (dupR_c (n:=n+2) hf hl).1 (deaR_c (n:=n+4) hf hl).1 (simR_c (n:=n+1) hf hl).1 L (eqa_same (n:=n+8) u8 hf.us) rfl (eqa_same (n:=n+8) o8 hf.os)
end
section
open Go.ChangeShapes Go.WideShapes Go.RowKit Go.Deep
theorem sun_use(w:World){v0:Value}{g:TGraphR}{N:Nat}(r0:RepT w okT (.agg (graphRC g)) v0)(k0:okO_Graph N g)(hG:Glob w okT):
  Calls Tryz.prog 9 #[v0] w (RetB true w):=
 (sun_con (sun_true (n:=0) (okG_lim7 k0)) w okT _ hG (rvs_cons r0 rvs_nil)).mono fun _ _ h=>true_end h
end
section
open Go.RowKit
noncomputable def vs_C5:Code:=(loopsOf (bodyOf Tryz.f68)).getD 0 .skip
noncomputable def vs_C9:Code:=(loopsOf (bodyOf Tryz.f68)).getD 1 .skip
def vs_h5(a0:TGraph)(a1:List Rat)(out_5:List Rat)(i_5:Nat):St:=
 ⟨[(1,.sl 3 (a1.map ratC)),(2,.ptr 0 0),(6,.own 1 out_5.length),(7,.lit (.int .i64 (i_5:Int)))],
  [(0,some (.box 24 [.lit (.int .i64 (a0.Inputs)),.sl 4 (a0.Units.map formC),.sl 4 (a0.Outputs.map formC)] false)),
   (1,some (.row 34 3 (out_5.map ratC) 0))],2⟩
def vs_h9(a0:TGraph)(out_9:List Rat)(i_9:Nat)(fz_9:Nat):St:=
 ⟨[(2,.ptr 0 0),(6,.own 1 out_9.length),(8,.lit (.int .i64 (i_9:Int)))],
  [(0,some (.box 24 [.lit (.int .i64 (a0.Inputs)),.sl 4 (a0.Units.map formC),.sl 4 (a0.Outputs.map formC)] false)),
   (1,some (.row 34 3 (out_9.map ratC) fz_9))],2⟩
def vs_o5a(a0:TGraph)(out_5:List Rat):St:=
 ⟨[(2,.ptr 0 0),(6,.own 1 out_5.length)],
  [(0,some (.box 24 [.lit (.int .i64 (a0.Inputs)),.sl 4 (a0.Units.map formC),.sl 4 (a0.Outputs.map formC)] false)),
   (1,some (.row 34 3 (out_5.map ratC) 0))],2⟩
def vs_o9a(out_9:List Rat)(fz_9:Nat):St:=
 ⟨[(6,.own 0 out_9.length)],
  [(0,some (.row 34 3 (out_9.map ratC) fz_9))],1⟩
section
variable{out_5:List Rat}{n:Nat}{i_5:Nat}{a0:TGraph}{x3:Rat}{a1:List Rat}{out_9:List Rat}{r8:Rat}{i_9:Nat}{r10:Rat}{fz_9:Nat}{q3:Rat}{r9:Int}{F3:List (Int × Rat)}{r:Bool}
theorem vs_r5_1(C1:(i_5:Int)<(a1.length:Int))(E2:a1[i_5]?=some x3)(B3a:H x3≤17179869184)(M4:out_5.length+1≤100000000)(W5:InI ((i_5:Int)+1)):
  Cont 0 (exec Tryz.prog (tab (n+3)) 0 59 (livesOf 68) big vs_C5) (livesOf 68 5) (vs_h5 a0 a1 out_5 i_5) (vs_h5 a0 a1 (out_5++[x3]) (i_5+1)):=by
 have C1_:i_5<a1.length:=by omega
 obtain ⟨EL2,EG2⟩:=List.getElem?_eq_some_iff.1 E2
 have K3:=r_canon (p:=x3) B3a
 have M4_:∀b,b≤10000→roomy (out_5.length+1) b=true:=fun b hb=>roomy_s M4 hb
 have W5_:IntKind.i64.wrap ((i_5:Int)+1)=(i_5:Int)+1:=wr64 W5.1 W5.2
 unfold Cont
 simp+decide [vs_h5,loopsOf, Tryz.f68,vs_C5,C1,C1_,EL2,EG2,E2,K3,M4_,W5_]
theorem vs_x5_1(C1:¬(i_5:Int)<(a1.length:Int)):
  Leave 0 (exec Tryz.prog (tab (n+3)) 0 59 (livesOf 68) big vs_C5) (livesOf 68 (outOf 5)) (vs_h5 a0 a1 out_5 i_5) (.exit 0) (vs_o5a a0 out_5):=by
 have C1_:¬i_5<a1.length:=by omega
 unfold Leave
 simp+decide [vs_h5,loopsOf, Tryz.f68,vs_o5a,vs_C5,C1,C1_]
theorem vs_r9_1(C1:(i_9:Int)<(a0.Units.length:Int))(E2:a0.Units[i_9]?=some (F3,q3))(K3:run (n+2) 69 [formV (F3,q3),.sl 3 (out_9.map ratC)]=some (.tup [ratV r8,.lit (.int .i64 r9)]))(K4:run (n+2) 38 [ratV r8,.agg [.lit (.bool false),.sl 1 [],.sl 1 []]]=some (ratV r10))(M5:out_9.length+1≤100000000)(W6:InI ((i_9:Int)+1)):
  Cont 0 (exec Tryz.prog (tab (n+3)) 0 59 (livesOf 68) big vs_C9) (livesOf 68 9) (vs_h9 a0 out_9 i_9 fz_9) (vs_h9 a0 (out_9++[r10]) (i_9+1) out_9.length):=by
 have C1_:i_9<a0.Units.length:=by omega
 obtain ⟨EL2,EG2⟩:=List.getElem?_eq_some_iff.1 E2
 simp only [ratV,formV] at K3
 simp only [ratV] at K4
 have M5_:∀b,b≤10000→roomy (out_9.length+1) b=true:=fun b hb=>roomy_s M5 hb
 have W6_:IntKind.i64.wrap ((i_9:Int)+1)=(i_9:Int)+1:=wr64 W6.1 W6.2
 unfold Cont
 simp+decide [vs_h9,loopsOf, Tryz.f68,vs_C9,C1,C1_,EL2,EG2,E2,K3,K4,M5_,W6_]
theorem vs_x9_1(C1:¬(i_9:Int)<(a0.Units.length:Int)):
  Leave 0 (exec Tryz.prog (tab (n+3)) 0 59 (livesOf 68) big vs_C9) (livesOf 68 (outOf 9)) (vs_h9 a0 out_9 i_9 fz_9) (.exit 2) (vs_o9a out_9 fz_9):=by
 have C1_:¬i_9<a0.Units.length:=by omega
 unfold Leave
 simp+decide [vs_h9,loopsOf, Tryz.f68,vs_o9a,vs_C9,C1,C1_]
theorem vs_f3(K1:run (n+2) 21 [graphV a0]=some (.lit (.bool r)))(C2:r=true)(C3:(a1.length:Int)=a0.Inputs)(L4:loopG Tryz.prog (tab (n+3)) 0 59 (livesOf 68) 5 vs_C5 (vs_h5 a0 a1 [] 0)=some (.exit 0,vs_o5a a0 out_5))(L5:loopG Tryz.prog (tab (n+3)) 0 59 (livesOf 68) 9 vs_C9 (vs_h9 a0 out_5 0 0)=some (.exit 2,vs_o9a out_9 fz_9)):
  run (n+3) 68 [graphV a0,.sl 3 (a1.map ratC)]=some (.tup [.sl 3 (out_9.map ratC),.lit (.int .i64 0)]):=by
 simp only [graphV] at K1
 have C3_:((a1.length:Int)==a0.Inputs)=true:=by rw [C3];simp
 have C3_n:((a1.length:Int) !=a0.Inputs)=false:=by rw [C3];simp
 unfold run fnP
 simp+decide [Tryz.f68,K1,C2,C3_,C3_n]
 rw [loopX_G (C':=vs_C5) (e:=(vs_h5 a0 a1 [] 0)) ?_ ?_,L4]
 rotate_left
 ·kernel_rfl
 ·simp+decide [vs_h5,K1,C2,C3_,C3_n]
 simp+decide [vs_o5a,K1,C2,C3_,C3_n]
 rw [loopX_G (C':=vs_C9) (e:=(vs_h9 a0 out_5 0 0)) ?_ ?_,L5]
 rotate_left
 ·kernel_rfl
 ·simp+decide [vs_h9,K1,C2,C3_,C3_n]
 simp+decide [vs_o9a,K1,C2,C3_,C3_n]
end
noncomputable def fm_C6:Code:=(loopsOf (bodyOf Tryz.f46)).getD 0 .skip
def fm_h6(a1:List Form)(r:List Rat)(out_6:List Rat)(i_6:Nat):St:=
 ⟨[(1,.sl 4 (a1.map formC)),(8,.sl 3 (r.map ratC)),(10,.own 0 out_6.length),(11,.lit (.int .i64 (i_6:Int)))],
  [(0,some (.row 34 3 (out_6.map ratC) 0))],1⟩
def fm_o6a(out_6:List Rat):St:=
 ⟨[(10,.own 0 out_6.length)],
  [(0,some (.row 34 3 (out_6.map ratC) 0))],1⟩
section
variable{out_6:List Rat}{n:Nat}{r8:Int}{a1:List Form}{q3:Rat}{r:List Rat}{r7:Rat}{F3:List (Int × Rat)}{i_6:Nat}{a0:TGraph}{r2:Int}{a2:List Rat}
theorem fm_r6_1(C1:(i_6:Int)<(a1.length:Int))(E2:a1[i_6]?=some (F3,q3))(K3:run (n+3) 69 [formV (F3,q3),.sl 3 (r.map ratC)]=some (.tup [ratV r7,.lit (.int .i64 r8)]))(M4:out_6.length+1≤100000000)(W5:InI ((i_6:Int)+1)):
  Cont 0 (exec Tryz.prog (tab (n+4)) 0 43 (livesOf 46) big fm_C6) (livesOf 46 6) (fm_h6 a1 r out_6 i_6) (fm_h6 a1 r (out_6++[r7]) (i_6+1)):=by
 have C1_:i_6<a1.length:=by omega
 obtain ⟨EL2,EG2⟩:=List.getElem?_eq_some_iff.1 E2
 simp only [ratV,formV] at K3
 have M4_:∀b,b≤10000→roomy (out_6.length+1) b=true:=fun b hb=>roomy_s M4 hb
 have W5_:IntKind.i64.wrap ((i_6:Int)+1)=(i_6:Int)+1:=wr64 W5.1 W5.2
 unfold Cont
 simp+decide [fm_h6,loopsOf, Tryz.f46,fm_C6,C1,C1_,EL2,EG2,E2,K3,M4_,W5_]
theorem fm_x6_1(C1:¬(i_6:Int)<(a1.length:Int)):
  Leave 0 (exec Tryz.prog (tab (n+4)) 0 43 (livesOf 46) big fm_C6) (livesOf 46 (outOf 6)) (fm_h6 a1 r out_6 i_6) (.exit 0) (fm_o6a out_6):=by
 have C1_:¬i_6<a1.length:=by omega
 unfold Leave
 simp+decide [fm_h6,loopsOf, Tryz.f46,fm_o6a,fm_C6,C1,C1_]
theorem fm_f2(K1:run (n+3) 68 [graphV a0,.sl 3 (a2.map ratC)]=some (.tup [.sl 3 (r.map ratC),.lit (.int .i64 r2)]))(C2:r2=0)(L3:loopG Tryz.prog (tab (n+4)) 0 43 (livesOf 46) 6 fm_C6 (fm_h6 a1 r [] 0)=some (.exit 0,fm_o6a out_6)):
  run (n+4) 46 [graphV a0,.sl 4 (a1.map formC),.sl 3 (a2.map ratC)]=some (.tup [.sl 3 (out_6.map ratC),.lit (.int .i64 0)]):=by
 simp only [graphV] at K1
 have C2_:(r2==0)=true:=by rw [C2];simp
 have C2_n:(r2 !=0)=false:=by rw [C2];simp
 unfold run fnP
 simp+decide [Tryz.f46,K1,C2_,C2_n]
 rw [loopX_G (C':=fm_C6) (e:=(fm_h6 a1 r [] 0)) ?_ ?_,L3]
 rotate_left
 ·kernel_rfl
 ·simp+decide [fm_h6,K1,C2_,C2_n]
 simp+decide [fm_o6a,K1,C2_,C2_n]
end
end
end Go.Proofs.YtefdjbknmfeooaaGreatDoor
