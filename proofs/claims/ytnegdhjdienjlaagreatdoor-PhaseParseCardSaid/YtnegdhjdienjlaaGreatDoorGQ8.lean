import Derived.Test.YtnegdhjdienjlaaGreatDoorGQ7
set_option linter.all false
namespace Go.Proofs.YtnegdhjdienjlaaGreatDoor
section
open Go.RowKit
noncomputable def pathL(es:List ED)(units:Int):List Int:=if pathE es units=0 then pathV es units else []
def RetPath(es:List ED)(units:Int)(w:World)(e:Ending)(w':World):Prop:=
 ∃ad n c,e=.returned (.tuple #[.slice ad n c,.int .i64 (pathE es units)])∧IntR w' ad n c (pathL es units)∧Below w.heap.size w w'
theorem ret_err{es:List ED}{units k:Int}{w w':World}(h:pathE es units=k)(hk:k≠0)(hb:Below w.heap.size w w'):RetPath es units w (.returned (.tuple #[.slice none 0 0,.int .i64 k])) w':=
 ⟨none,0,0,by rw [h],by
  unfold pathL
  rw [if_neg (by rw [h];exact hk)]
  exact ⟨rfl,Nat.le_refl _,fun h0=>by omega⟩,hb⟩
theorem pathE_arg{es:List ED}{units:Int}(h:¬(0≤units∧units≤1024∧AllV es units)):pathE es units=1:=by unfold pathE;rw [if_neg h]
theorem pathE_state{es:List ED}{units:Int}(h0:0≤units)(h1:units≤1024)(h2:AllV es units)(h3:Tw es):pathE es units=9:=by unfold pathE;rw [if_pos ⟨h0,h1,h2⟩,if_pos h3]
theorem pathE_limit{es:List ED}{units:Int}(h0:0≤units)(h1:units≤1024)(h2:AllV es units)(h3:¬Tw es)(h4:2048<es.length):pathE es units=8:=by unfold pathE;rw [if_pos ⟨h0,h1,h2⟩,if_neg h3,if_neg (by omega)]
theorem pathE_ok{es:List ED}{units:Int}(h0:0≤units)(h1:units≤1024)(h2:AllV es units)(h3:¬Tw es)(h4:es.length≤2048):pathE es units=0:=by unfold pathE;rw [if_pos ⟨h0,h1,h2⟩,if_neg h3,if_pos h4]
theorem allv_step{es:List ED}{units:Int}{i:Nat}{e:ED}(h:∀(j:Nat) (d:ED),j<i→es[j]?=some d→d.V∧(d.u=true→d.i<units))(he:es[i]?=some e)(h1:e.V∧(e.u=true→e.i<units)):∀(j:Nat) (d:ED),j<i+1→es[j]?=some d→d.V∧(d.u=true→d.i<units):=fun j d hj hd=>by
 by_cases e9:j=i
 ·subst e9
  rw [he] at hd;cases hd;exact h1
 ·exact h j d (by omega) hd
theorem ed_kinds(e:ED):e.k=1∨e.k=2∨e.u=false:=by
 by_cases h1:e.k=1
 ·exact Or.inl h1
 ·by_cases h2:e.k=2
  ·exact Or.inr (Or.inl h2)
  ·exact Or.inr (Or.inr (decide_eq_false (fun h=>h.elim h1 h2)))
theorem phs_1{e:ED}{l:List Int}(h:e.k=1):phs e l=l.set e.i.toNat 1:=by unfold phs;rw [if_pos h]
theorem phs_2{e:ED}{l:List Int}(h:e.k=2):phs e l=l.set e.i.toNat 2:=by unfold phs;rw [if_neg (by rw [h];omega),if_pos h]
theorem phs_no{e:ED}{l:List Int}(h:e.u=false):phs e l=l:=by
 unfold phs
 rw [if_neg (fun h9=>by rw [ED.u_iff.2 (Or.inl h9)] at h;cases h),if_neg (fun h9=>by rw [ED.u_iff.2 (Or.inr h9)] at h;cases h)]
theorem l_get{es:List ED}{i u:Nat}{l:List Int}{x:Int}(h:l=(es.take i).foldl (fun l e=>phs e l) (List.replicate u 0))(hx:0≤x∧x<u):l[x.toNat]?=some (l.getD x.toNat 0):=by
 have hl:l.length=u:=by rw [h,path_len,List.length_replicate]
 have h2:l[x.toNat]?=some (l[x.toNat]'(by omega)):=List.getElem?_eq_getElem _
 rw [List.getD_eq_getElem?_getD,h2];rfl
theorem l_get2{es:List ED}{i u:Nat}{l:List Int}{x y:Int}(h:l=(es.take i).foldl (fun l e=>phs e l) (List.replicate u 0))(hx:0≤x∧x<u):(l.set x.toNat y)[x.toNat]?=some y:=by
 have hl:l.length=u:=by rw [h,path_len,List.length_replicate]
 exact List.getElem?_set_self (by omega)
theorem plit_1(w:World){e:ED}(h:e.k=1):Calls Tryz.prog 72 #[.agg #[.int .i64 e.k,.int .i64 e.i,.bool e.c.neg,.slice e.c.a1 e.c.n1 e.c.c1,.slice e.c.a2 e.c.n2 e.c.c2]] w (fun r w'=>r=.returned (.tuple #[.agg #[.int .i64 e.i,.bool true],.bool true])∧Below w.heap.size w w'):=
 (lit_c w e).mono fun r w' hr=>by
  have h1:=hr.1
  have h0:e.u=true:=ED.u_iff.2 (Or.inl h)
  have h2:litI e=e.i:=by unfold litI;rw [h0];rfl
  have h3:litB e=true:=by unfold litB;rw [h0,decide_eq_true h];rfl
  rw [h0,h2,h3] at h1
  exact ⟨h1,hr.2⟩
theorem plit_2(w:World){e:ED}(h:e.k=2):Calls Tryz.prog 72 #[.agg #[.int .i64 e.k,.int .i64 e.i,.bool e.c.neg,.slice e.c.a1 e.c.n1 e.c.c1,.slice e.c.a2 e.c.n2 e.c.c2]] w (fun r w'=>r=.returned (.tuple #[.agg #[.int .i64 e.i,.bool false],.bool true])∧Below w.heap.size w w'):=
 (lit_c w e).mono fun r w' hr=>by
  have h1:=hr.1
  have h0:e.u=true:=ED.u_iff.2 (Or.inr h)
  have h2:litI e=e.i:=by unfold litI;rw [h0];rfl
  have h3:litB e=false:=by unfold litB;rw [h0,decide_eq_false (by omega)];rfl
  rw [h0,h2,h3] at h1
  exact ⟨h1,hr.2⟩
theorem plit_0(w:World){e:ED}(h:e.u=false):Calls Tryz.prog 72 #[.agg #[.int .i64 e.k,.int .i64 e.i,.bool e.c.neg,.slice e.c.a1 e.c.n1 e.c.c1,.slice e.c.a2 e.c.n2 e.c.c2]] w (fun r w'=>r=.returned (.tuple #[.agg #[.int .i64 0,.bool false],.bool false])∧Below w.heap.size w w'):=
 (lit_c w e).mono fun r w' hr=>by
  have h1:=hr.1
  have h2:litI e=0:=by unfold litI;rw [h];rfl
  have h3:litB e=false:=by unfold litB;rw [h];rfl
  rw [h,h2,h3] at h1
  exact ⟨h1,hr.2⟩
set_option maxRecDepth 100000 in
set_option maxHeartbeats 1000000 in
theorem ppath_c(w:World){ad:Option Addr}{n c:Nat}{es:List ED}{units:Int}(h:EsR w ad n c es)(hn:n≤1048576)(hf:∀(i:Nat) (e:ED),es[i]?=some e→FewC e.c):
  Calls Tryz.prog 26 #[.slice ad n c,.int .i64 units] w (RetPath es units w):=by
 have HL:=Lib.hid h.len
 have HFE:Hid (∀(i:Nat) (e:ED),es[i]?=some e→FewC e.c):=hf
 clear hf
 go_enter Tryz.func26, Tryz.ntmps26
 by_cases hu0:units<0
 ·have d1:decide (units<0)=true:=decide_eq_true hu0
  have HE:Hid (pathE es units=1):=pathE_arg (fun h9=>by omega)
  have HF:Hid (RetPath es units w (.returned (.tuple #[.slice none 0 0,.int .i64 1])) w):=ret_err HE.out (by omega) (Below.refl _ _)
  go_wp2_with fail
  go_ret2
  exact HF.out
 have d1:decide (units<0)=false:=decide_eq_false hu0
 by_cases hu1:1024<units
 ·have d2:decide (1024<units)=true:=decide_eq_true hu1
  have HE:Hid (pathE es units=1):=pathE_arg (fun h9=>by omega)
  have HF:Hid (RetPath es units w (.returned (.tuple #[.slice none 0 0,.int .i64 1])) w):=ret_err HE.out (by omega) (Below.refl _ _)
  go_wp2_with fail
  go_ret2
  exact HF.out
 have d2:decide (1024<units)=false:=decide_eq_false hu1
 go_wp2_with fail
 clear d1 d2
 go_loopw [20] (fun s7 wr=>∃i,i≤n∧s7=.int .i64 (i:Nat)∧Hid (∀(j:Nat) (d:ED),j<i→es[j]?=some d→d.V∧(d.u=true→d.i<units))∧Below w.heap.size w wr) (fun i _=>n-(intOf i).toNat)
 case atStart=>exact ⟨0,by omega,rfl,(fun j d hj=>by omega:∀(j:Nat) (d:ED),j<0→es[j]?=some d→d.V∧(d.u=true→d.i<units)),Below.refl _ _⟩
 case round=>
  obtain ⟨i,hi,rfl,HA,hb⟩:=hrel
  by_cases hlt:i<n
  ·obtain ⟨b,o,e,rfl,hbl,HE,he,c0,c1,c2,c3,c4⟩:=(h.on hb).at_ (i:=i) hlt
   have lo:decide ((i:Int)<0)=false:=decide_eq_false (by omega)
   have hi':decide ((n:Int)≤(i:Int))=false:=decide_eq_false (by omega)
   go_upto_region 6 with (fail)
   have hQ:=Pro1.mk' wr #[.int .i64 e.k,.int .i64 e.i,.bool e.c.neg,.slice e.c.a1 e.c.n1 e.c.c1,.slice e.c.a2 e.c.n2 e.c.c2] 27
   generalize wr.alloc (.cells #[.int .i64 e.k,.int .i64 e.i,.bool e.c.neg,.slice e.c.a1 e.c.n1 e.c.c1,.slice e.c.a2 e.c.n2 e.c.c2] 27)=X at*
   have hX:=hQ.b0
   have heX:=he.on hQ.below
   have hbX:=hb.trans (hQ.below.mono hb.size)
   clear c0 c1 c2 c3 c4 lo hi' hbl he hQ hb
   have x0:=hX.cell 0
   have x1:=hX.cell 1
   have x2:=hX.cell 2
   have x3:=hX.cell 3
   have x4:=hX.cell 4
   simp at x0 x1 x2 x3 x4
   have xz:=hX.lt
   go_wp2_with fail
   refine (valid_c X e heX (HFE.out i e HE.out)).mono ?_
   rintro e' U ⟨rfl,hbU'⟩
   have hXU:=hX.on hbU'
   have hbU:=hbX.trans (hbU'.mono hbX.size)
   clear x0 x1 x2 x3 x4 xz hX hbX hbU'
   have x0:=hXU.cell 0
   have x1:=hXU.cell 1
   have x2:=hXU.cell 2
   have x3:=hXU.cell 3
   have x4:=hXU.cell 4
   simp at x0 x1 x2 x3 x4
   have xz:=hXU.lt
   rcases hve:decide e.V with _|_
   ·have HNV:=Lib.hid (of_decide_eq_false hve)
    clear hve
    have HE:Hid (pathE es units=1):=pathE_arg (fun h9=>HNV.out (h9.2.2 i e HE.out).1)
    have HF:Hid (RetPath es units w (.returned (.tuple #[.slice none 0 0,.int .i64 1])) U):=ret_err HE.out (by omega) hbU
    go_wp2_with fail
    go_ret2
    exact HF.out
   have HVE:=Lib.hid (of_decide_eq_true hve)
   clear hve
   go_wp2_with fail
   refine (unit_c U e).mono ?_
   rintro e' V ⟨rfl,hbV'⟩
   have hXV:=hXU.on hbV'
   have hbV:=hbU.trans (hbV'.mono hbU.size)
   clear x0 x1 x2 x3 x4 xz hXU hbU hbV'
   have x0:=hXV.cell 0
   have x1:=hXV.cell 1
   have x2:=hXV.cell 2
   have x3:=hXV.cell 3
   have x4:=hXV.cell 4
   simp at x0 x1 x2 x3 x4
   have xz:=hXV.lt
   rcases hue:e.u with _|_
   ·have HA2:Hid (∀(j:Nat) (d:ED),j<i+1→es[j]?=some d→d.V∧(d.u=true→d.i<units)):=(allv_step HA.out HE.out ⟨HVE.out,fun h9=>by rw [hue] at h9;cases h9⟩:∀(j:Nat) (d:ED),j<i+1→es[j]?=some d→d.V∧(d.u=true→d.i<units))
    clear HA
    go_wp2_with fail
    go_roundw
    case rel=>exact ⟨i+1,by omega,by go_num,HA2,hbV⟩
    case measure=>simp [intOf];omega
   ·have HLI:Hid (litI e=e.i):=(by unfold litI;rw [hue];rfl:litI e=e.i)
    by_cases hge:units≤e.i
    ·have d1:decide (units≤e.i)=true:=decide_eq_true hge
     have d2:decide (units≤e.i)=true:=decide_eq_true (by have:=HLI.out;omega)
     have HHU:=Lib.hid hue
     clear hue
     have HE:Hid (pathE es units=1):=pathE_arg (fun h9=>by have:=(h9.2.2 i e HE.out).2 HHU.out;omega)
     have HF:Hid (RetPath es units w (.returned (.tuple #[.slice none 0 0,.int .i64 1])) V):=ret_err HE.out (by omega) hbV
     go_wp2_with fail
     go_ret2
     exact HF.out
    ·have d1:decide (units≤e.i)=false:=decide_eq_false hge
     have d2:decide (units≤e.i)=false:=decide_eq_false (by have:=HLI.out;omega)
     have HA2:Hid (∀(j:Nat) (d:ED),j<i+1→es[j]?=some d→d.V∧(d.u=true→d.i<units)):=(allv_step HA.out HE.out ⟨HVE.out,fun _=>by omega⟩:∀(j:Nat) (d:ED),j<i+1→es[j]?=some d→d.V∧(d.u=true→d.i<units))
     clear HA
     go_wp2_with fail
     go_roundw
     case rel=>exact ⟨i+1,by omega,by go_num,HA2,hbV⟩
     case measure=>simp [intOf];omega
  ·have HAV:Hid (AllV es units):=(fun j d hd=>HA.out j d (by have:=(List.getElem?_eq_some_iff.1 hd).1;have:=HL.out;omega) hd:AllV es units)
   have HNE:=Lib.hid (show i=n by omega)
   obtain ⟨wo',hwo'⟩:∃wo':World,wo'=wr:=⟨_,rfl⟩
   subst hwo'
   clear HA
   go_wp2_with fail
   refine (twice_c wo' (h.on hb) hn (fun i e he=>by have:=(HAV.out i e he).1;have h8:=this.1;rcases this.2 with h9|h9;have:=h9.2.1;omega;have:=h9.2.1;omega)).mono ?_
   rintro e' wo ⟨rfl,hbo⟩
   have hbw:=hb.trans (hbo.mono hb.size)
   rcases htw:decide (Tw es) with _|_
   rotate_left
   ·have HTW:=Lib.hid (of_decide_eq_true htw)
    clear htw
    have HE:Hid (pathE es units=9):=pathE_state (by omega) (by omega) HAV.out HTW.out
    have HF:Hid (RetPath es units w (.returned (.tuple #[.slice none 0 0,.int .i64 9])) wo):=ret_err HE.out (by omega) hbw
    go_wp2_with fail
    go_ret2
    exact HF.out
   have HTW:=Lib.hid (of_decide_eq_false htw)
   clear htw
   by_cases h2048:2048<n
   ·have d1:decide (2048<n)=true:=decide_eq_true h2048
    have d2:decide ((2048:Int)<(n:Int))=true:=decide_eq_true (by omega)
    have HE:Hid (pathE es units=8):=pathE_limit (by omega) (by omega) HAV.out HTW.out (by have:=HL.out;omega)
    have HF:Hid (RetPath es units w (.returned (.tuple #[.slice none 0 0,.int .i64 8])) wo):=ret_err HE.out (by omega) hbw
    go_wp2_with fail
    go_ret2
    exact HF.out
   have d1:decide (2048<n)=false:=decide_eq_false h2048
   have d2:decide ((2048:Int)<(n:Int))=false:=decide_eq_false (by omega)
   have HOK:Hid (pathE es units=0):=pathE_ok (by omega) (by omega) HAV.out HTW.out (by have:=HL.out;omega)
   obtain ⟨u,rfl⟩:∃u:Nat,units=(u:Int):=⟨units.toNat,by omega⟩
   have hmk:= Tryz.mkInts (u:Int) u rfl (by omega)
   have hQ:=Pro1.mk' wo (madeCells #[.int .i64 0] u) 3
   go_upto_region 14 with (fail)
   generalize wo.alloc (.cells (madeCells #[.int .i64 0] u) 3)=Z at*
   have hO0:=hQ.b0
   rw [icells_made] at hO0
   have HWO:Hid (w.heap.size≤wo.heap.size):=hbw.size
   have hbZ:=hbw.trans (hQ.below.mono hbw.size)
   clear hQ hmk d1 d2 hb hbo
   go_wp2_with fail
   go_loopw [49] (fun s9 wr=>∃i l,i≤n∧s9=.int .i64 (i:Nat)∧Blk wr wo.heap.size 3 (icells l)∧Hid (l=(es.take i).foldl (fun l e=>phs e l) (List.replicate u 0))∧Below w.heap.size w wr) (fun i _=>n-(intOf i).toNat)
   case atStart=>exact ⟨0,_,by omega,rfl,hO0,rfl,hbZ⟩
   case round=>
    clear hO0 hbZ
    obtain ⟨i,l,hi,rfl,hO,HLL,hb⟩:=hrel
    by_cases hlt:i<n
    ·obtain ⟨b,o,e,rfl,hbl',HE,he',c0',c1',c2',c3',c4'⟩:=h.at_ (i:=i) hlt
     have hbl:=Nat.lt_of_lt_of_le hbl' hb.size
     have c0:=(hb.cell (p:=⟨b,o+i*5,none⟩) hbl').trans c0'
     have c1:=(hb.cell (p:=⟨b,o+i*5+1,none⟩) hbl').trans c1'
     have c2:=(hb.cell (p:=⟨b,o+i*5+2,none⟩) hbl').trans c2'
     have c3:=(hb.cell (p:=⟨b,o+i*5+3,none⟩) hbl').trans c3'
     have c4:=(hb.cell (p:=⟨b,o+i*5+4,none⟩) hbl').trans c4'
     have hbw':b<wo.heap.size:=Nat.lt_of_lt_of_le hbl' HWO.out
     clear c0' c1' c2' c3' c4' he'
     have lo:decide ((i:Int)<0)=false:=decide_eq_false (by omega)
     have hi':decide ((n:Int)≤(i:Int))=false:=decide_eq_false (by omega)
     have hix:e.u=true→0≤e.i∧e.i<u:=fun h9=>⟨((HAV.out i e HE.out).1).1,(HAV.out i e HE.out).2 h9⟩
     rcases ed_kinds e with hk|hk|hk
     ·have HK:=Lib.hid hk
      clear hk
      go_wp2_with fail
      refine (plit_1 wr HK.out).mono ?_
      rintro e' U ⟨rfl,hbU⟩
      clear c0 c1 c2 c3 c4 lo hi' hbl
      go_upto_region 18 with (fail)
      have hQ:=Pro1.mk' U #[.int .i64 e.i,.bool true] 111
      generalize U.alloc (.cells #[.int .i64 e.i,.bool true] 111)=X at*
      have hX:=hQ.b0
      have hrX:=hbU.trans (hQ.below.mono hbU.size)
      have hbX:=hb.trans (hrX.mono hb.size)
      have hOX:=hO.on hrX
      have hne:wo.heap.size≠U.heap.size:=by have:=hO.lt;have:=hbU.size;omega
      clear hQ hO hb hrX hbU
      have x0:=hX.cell 0
      have x1:=hX.cell 1
      simp at x0 x1
      have xz:=hX.lt
      have o0:=ib_cell hOX (l_get HLL.out (hix (ED.u_iff.2 (by have:=HK.out;omega))))
      have of:=hOX.frozen e.i.toNat
      have oz:=hOX.lt
      have hO2:=ib_set hOX e.i.toNat 2
      have hX2:=hX.far (p:=⟨wo.heap.size,e.i.toNat,none⟩) (fun h9=>hne h9.symm) (.int .i64 2)
      have hb2:Below w.heap.size w (X.setCell ⟨wo.heap.size,e.i.toNat,none⟩ (.int .i64 2)):=hbX.setCell (p:=⟨wo.heap.size,_,none⟩) HWO.out _
      obtain ⟨hi0,hi1⟩:=hix (ED.u_iff.2 (by have:=HK.out;omega))
      have lo:decide (e.i<0)=false:=decide_eq_false (by omega)
      have hi':decide ((u:Int)≤e.i)=false:=decide_eq_false (by omega)
      go_upto_region 20 with (fail)
      generalize X.setCell ⟨wo.heap.size,e.i.toNat,none⟩ (.int .i64 2)=Y at*
      clear o0 of oz x0 x1 xz hOX hX hbX
      have x0:=hX2.cell 0
      have x1:=hX2.cell 1
      simp at x0 x1
      have xz:=hX2.lt
      have o0:=ib_cell hO2 (l_get2 (y:=2) HLL.out (hix (ED.u_iff.2 (by have:=HK.out;omega))))
      have of:=hO2.frozen e.i.toNat
      have oz:=hO2.lt
      have hO3:=ib_set hO2 e.i.toNat 1
      have hb3:Below w.heap.size w (Y.setCell ⟨wo.heap.size,e.i.toNat,none⟩ (.int .i64 1)):=hb2.setCell (p:=⟨wo.heap.size,_,none⟩) HWO.out _
      have HL2:Hid ((l.set e.i.toNat 2).set e.i.toNat 1=(es.take (i+1)).foldl (fun l e=>phs e l) (List.replicate u 0)):=(by rw [take_foldl HE.out,←HLL.out,phs_1 HK.out,List.set_set]:(l.set e.i.toNat 2).set e.i.toNat 1=(es.take (i+1)).foldl (fun l e=>phs e l) (List.replicate u 0))
      clear HLL
      go_wp2_with fail
      go_roundw
      case rel=>exact ⟨i+1,_,by omega,by go_num,hO3,HL2,hb3⟩
      case measure=>simp [intOf];omega
     ·have HK:=Lib.hid hk
      clear hk
      go_wp2_with fail
      refine (plit_2 wr HK.out).mono ?_
      rintro e' U ⟨rfl,hbU⟩
      clear c0 c1 c2 c3 c4 lo hi' hbl
      go_upto_region 18 with (fail)
      have hQ:=Pro1.mk' U #[.int .i64 e.i,.bool false] 111
      generalize U.alloc (.cells #[.int .i64 e.i,.bool false] 111)=X at*
      have hX:=hQ.b0
      have hrX:=hbU.trans (hQ.below.mono hbU.size)
      have hbX:=hb.trans (hrX.mono hb.size)
      have hOX:=hO.on hrX
      have hne:wo.heap.size≠U.heap.size:=by have:=hO.lt;have:=hbU.size;omega
      clear hQ hO hb hrX hbU
      have x0:=hX.cell 0
      have x1:=hX.cell 1
      simp at x0 x1
      have xz:=hX.lt
      have o0:=ib_cell hOX (l_get HLL.out (hix (ED.u_iff.2 (by have:=HK.out;omega))))
      have of:=hOX.frozen e.i.toNat
      have oz:=hOX.lt
      have hO2:=ib_set hOX e.i.toNat 2
      have hX2:=hX.far (p:=⟨wo.heap.size,e.i.toNat,none⟩) (fun h9=>hne h9.symm) (.int .i64 2)
      have hb2:Below w.heap.size w (X.setCell ⟨wo.heap.size,e.i.toNat,none⟩ (.int .i64 2)):=hbX.setCell (p:=⟨wo.heap.size,_,none⟩) HWO.out _
      obtain ⟨hi0,hi1⟩:=hix (ED.u_iff.2 (by have:=HK.out;omega))
      have lo:decide (e.i<0)=false:=decide_eq_false (by omega)
      have hi':decide ((u:Int)≤e.i)=false:=decide_eq_false (by omega)
      go_upto_region 20 with (fail)
      generalize X.setCell ⟨wo.heap.size,e.i.toNat,none⟩ (.int .i64 2)=Y at*
      clear o0 of oz x0 x1 xz hOX hX hbX
      have x0:=hX2.cell 0
      have x1:=hX2.cell 1
      simp at x0 x1
      have xz:=hX2.lt
      have HL2:Hid (l.set e.i.toNat 2=(es.take (i+1)).foldl (fun l e=>phs e l) (List.replicate u 0)):=(by rw [take_foldl HE.out,←HLL.out,phs_2 HK.out]:l.set e.i.toNat 2=(es.take (i+1)).foldl (fun l e=>phs e l) (List.replicate u 0))
      clear HLL
      go_wp2_with fail
      go_roundw
      case rel=>exact ⟨i+1,_,by omega,by go_num,hO2,HL2,hb2⟩
      case measure=>simp [intOf];omega
     ·have HK:=Lib.hid hk
      clear hk
      go_wp2_with fail
      refine (plit_0 wr HK.out).mono ?_
      rintro e' U ⟨rfl,hbU⟩
      clear c0 c1 c2 c3 c4 lo hi' hbl
      go_upto_region 18 with (fail)
      have hQ:=Pro1.mk' U #[.int .i64 0,.bool false] 111
      generalize U.alloc (.cells #[.int .i64 0,.bool false] 111)=X at*
      have hX:=hQ.b0
      have hrX:=hbU.trans (hQ.below.mono hbU.size)
      have hbX:=hb.trans (hrX.mono hb.size)
      have hOX:=hO.on hrX
      have hne:wo.heap.size≠U.heap.size:=by have:=hO.lt;have:=hbU.size;omega
      clear hQ hO hb hrX hbU
      have x0:=hX.cell 0
      have x1:=hX.cell 1
      simp at x0 x1
      have xz:=hX.lt
      have HL2:Hid (l=(es.take (i+1)).foldl (fun l e=>phs e l) (List.replicate u 0)):=(by rw [take_foldl HE.out,←HLL.out,phs_no HK.out]:l=(es.take (i+1)).foldl (fun l e=>phs e l) (List.replicate u 0))
      clear HLL
      go_wp2_with fail
      go_roundw
      case rel=>exact ⟨i+1,_,by omega,by go_num,hOX,HL2,hbX⟩
      case measure=>simp [intOf];omega
    ·have HF:Hid (RetPath es (u:Int) w (.returned (.tuple #[.slice (some ⟨wo.heap.size,0,none⟩) u u,.int .i64 0])) wr):=by
      have e1:es.take i=es:=List.take_of_length_le (by have:=HL.out;omega)
      have e2:=HLL.out
      rw [e1] at e2
      have e3:l=pathV es (u:Int):=e2
      have e4:l.length=u:=by rw [e3];unfold pathV;rw [path_len];simp
      refine ⟨_,_,_,by rw [HOK.out],?_,hb⟩
      unfold pathL
      rw [if_pos HOK.out,←e3]
      exact ib_read hO e4
     have HE9:=Lib.hid (show i=n by omega)
     go_wp2_with fail
     go_ret2
     exact HF.out
end
section
open Go.RowKit
end
section
open Go.RowKit
def ecells(es:List ED):List Value:=es.flatMap fun e=>[.int .i64 e.k,.int .i64 e.i,.bool e.c.neg,.slice e.c.a1 e.c.n1 e.c.c1,.slice e.c.a2 e.c.n2 e.c.c2]
theorem ecells_len(es:List ED):(ecells es).length=es.length*5:=by
 induction es with
 | nil=>rfl
 | cons t ts ih=>simp [ecells,List.flatMap_cons] at*;omega
theorem ecells_append(a b:List ED):ecells (a++b)=ecells a++ecells b:=by simp [ecells]
theorem ecells_get{es:List ED}{i:Nat}{e:ED}(h:es[i]?=some e):(ecells es)[i*5]?=some (.int .i64 e.k)∧(ecells es)[i*5+1]?=some (.int .i64 e.i)∧(ecells es)[i*5+2]?=some (.bool e.c.neg)∧(ecells es)[i*5+3]?=some (.slice e.c.a1 e.c.n1 e.c.c1)∧(ecells es)[i*5+4]?=some (.slice e.c.a2 e.c.n2 e.c.c2):=by
 induction es generalizing i with
 | nil=>cases h
 | cons u es ih=>
   have e0:ecells (u::es)=.int .i64 u.k::.int .i64 u.i::.bool u.c.neg::.slice u.c.a1 u.c.n1 u.c.c1::.slice u.c.a2 u.c.n2 u.c.c2::ecells es:=rfl
   rw [e0]
   cases i with
   | zero=>cases h;exact ⟨rfl,rfl,rfl,rfl,rfl⟩
   | succ i=>
     have:=ih (i:=i) h
     rw [show (i+1)*5=i*5+5 by omega]
     exact this
theorem ecells_mem{es:List ED}{x:Value}(h:x∈ecells es):NotU x∧x.oneCell'=true:=by
 simp only [ecells,List.mem_flatMap] at h
 obtain ⟨f,_,hx⟩:=h
 simp at hx
 rcases hx with rfl|rfl|rfl|rfl|rfl <;>exact ⟨fun z=>by simp,rfl⟩
theorem ed_zero:∀x∈(Value.agg #[.int .i64 0,.int .i64 0,.bool false,.slice none 0 0,.slice none 0 0]).cells,NotU x:=by
 intro x hx z
 simp [Value.cells] at hx
 rcases hx with rfl|rfl|rfl|rfl|rfl <;>simp
theorem Tryz.infoED:(Tryz.prog.info? 27).map (fun i=>(i.zero,i.size,i.bytes))=some (some (.agg #[.int .i64 0,.int .i64 0,.bool false,.slice none 0 0,.slice none 0 0]),5,72):=by kernel_rfl
section
variable {w w' : World} {base : Nat} {e : TypeId} {size : Nat} {v : Value} {n : Nat} {xs : List Value}
theorem Row.es{ad:Option Addr}{c:Nat}{es:List ED}(h:Row NotU w base 27 5 (.slice ad n c) n (ecells es))(hin:∀(i:Nat) (e:ED),es[i]?=some e→e.In w):EsR w ad n c es:=by
 have hlen:es.length=n:=by have:=h.own.1;rw [ecells_len] at this;omega
 rcases h.own.2 with ⟨hv,h0⟩|⟨g,cap,cur,hv,_,hg,hnc,_,hsz,htake⟩
 ·cases hv
  exact ⟨hlen,by omega,hin,fun h=>by omega⟩
 ·cases hv
  refine ⟨hlen,hnc,hin,fun _=>⟨g,0,rfl,(Array.getElem?_eq_some_iff.1 hg).1,fun i t ht=>?_⟩⟩
  have key:∀k x,(ecells es)[k]?=some x→w.cell? ⟨g,k,none⟩=some x:=fun k x hk=>by
   rw [cell_of_row w g k cur _ (0,0) hg,←Array.getElem?_toList]
   rw [←htake,List.getElem?_take] at hk
   split at hk
   ·exact hk
   ·cases hk
  obtain ⟨e0,e1,e2,e3,e4⟩:=ecells_get ht
  simp only [Nat.zero_add]
  exact ⟨key _ _ e0,key _ _ e1,key _ _ e2,key _ _ e3,key _ _ e4⟩
end
theorem EsR.flat{w:World}{ad:Option Addr}{n c:Nat}{es:List ED}(h:EsR w ad n c es)(h0:0<n):∃a,ad=some a∧∀j u,(ecells es)[j]?=some u→w.cell? (a.add j)=some u:=by
 obtain ⟨b,o,rfl,_,hc⟩:=h.cells h0
 refine ⟨_,rfl,fun j u hu=>?_⟩
 rw [addr_plus]
 have hj:=(List.getElem?_eq_some_iff.1 hu).1
 rw [ecells_len] at hj
 have hi:j / 5<es.length:=by omega
 have ht:es[j / 5]?=some (es[j / 5]'hi):=List.getElem?_eq_getElem _
 obtain ⟨e0,e1,e2,e3,e4⟩:=hc _ _ ht
 obtain ⟨f0,f1,f2,f3,f4⟩:=ecells_get ht
 have hk:j % 5=0∨j % 5=1∨j % 5=2∨j % 5=3∨j % 5=4:=by omega
 rcases hk with hk|hk|hk|hk|hk
 ·have e:j=j / 5*5:=by omega
  rw [←e] at f0 e0;rw [e0,←f0,hu]
 ·have e:j=j / 5*5+1:=by omega
  rw [←e] at f1;rw [f1] at hu;cases hu;rw [show o+j=o+j / 5*5+1 by omega];exact e1
 ·have e:j=j / 5*5+2:=by omega
  rw [←e] at f2;rw [f2] at hu;cases hu;rw [show o+j=o+j / 5*5+2 by omega];exact e2
 ·have e:j=j / 5*5+3:=by omega
  rw [←e] at f3;rw [f3] at hu;cases hu;rw [show o+j=o+j / 5*5+3 by omega];exact e3
 ·have e:j=j / 5*5+4:=by omega
  rw [←e] at f4;rw [f4] at hu;cases hu;rw [show o+j=o+j / 5*5+4 by omega];exact e4
theorem ED.In.row{e:ED}{w w':World}{base:Nat}{t:TypeId}{size:Nat}{v:Value}{n:Nat}{xs:List Value}(h:e.In w)(hr:Row NotU w base t size v n xs)(hg:w.grownBy w' v.ownBlock):e.In w':=RD.In.row h hr hg
set_option maxRecDepth 100000 in
set_option maxHeartbeats 1600000 in
theorem sameints_c(w:World){ad1 ad2:Option Addr}{n1 n2 c1 c2:Nat}{l1 l2:List Int}(h1:IntR w ad1 n1 c1 l1)(h2:IntR w ad2 n2 c2 l2)(hn1:n1≤1048576)(hn2:n2≤1048576):
  Calls Tryz.prog 28 #[.slice ad1 n1 c1,.slice ad2 n2 c2] w (RetB (decide (l1=l2)) w):=by
 by_cases hl:n1=n2
 ·subst hl
  have HL:=Lib.hid (h1.len.trans h2.len.symm)
  have HL1:=Lib.hid h1.len
  have hne:((n1:Int) !=n1)=false:=by simp
  go_enter Tryz.func28, Tryz.ntmps28
  go_wp2_with fail
  go_loopw [5] (fun i wr=>∃k:Nat,k≤n1∧i=.int .i64 (k:Int)∧Hid (∀(j:Nat) (x y:Int),j<k→l1[j]?=some x→l2[j]?=some y→x=y)∧∃d,wr=w.drewN d) (fun i _=>n1-(intOf i).toNat)
  case atStart=>exact ⟨0,by omega,rfl,(fun j x y hj=>by omega:∀(j:Nat) (x y:Int),j<0→l1[j]?=some x→l2[j]?=some y→x=y),0,rfl⟩
  case round=>
   obtain ⟨k,hk,rfl,HE,d,rfl⟩:=hrel
   by_cases hlt:k<n1
   ·obtain ⟨b1,o1,x,rfl,_,HX,hx⟩:=h1.at_ hlt
    obtain ⟨b2,o2,y,rfl,_,HY,hy⟩:=h2.at_ hlt
    have kk0:(0:Int)≤(k:Int):=by omega
    have kk1:(k:Int)<(n1:Int):=by omega
    by_cases hxy:x=y
    ·have HE2:Hid (∀(j:Nat) (x y:Int),j<k+1→l1[j]?=some x→l2[j]?=some y→x=y):=(fun j x' y' hj ha hb=>by
      rcases Nat.lt_or_ge j k with h|h
      ·exact HE.out j x' y' h ha hb
      ·obtain rfl:j=k:=by omega
       rw [HX.out] at ha;rw [HY.out] at hb
       cases ha;cases hb;exact hxy:∀(j:Nat) (x y:Int),j<k+1→l1[j]?=some x→l2[j]?=some y→x=y)
     have e1:(x !=y)=false:=by simp [hxy]
     clear hxy
     go_wp2_with fail
     go_quiet (fail)
     go_wp2_with fail
     go_roundw
     case rel=>exact ⟨k+1,by omega,by go_num,HE2,by first|exact ⟨_,rfl⟩|exact dd2 _ _ _⟩
     case measure=>simp [intOf];omega
    ·have HD:Hid (decide (l1=l2)=false):=(decide_eq_false (fun e=>hxy (by
      have ha:=HX.out
      have hb:=HY.out
      rw [e] at ha
      rw [ha] at hb
      cases hb;rfl)):decide (l1=l2)=false)
     have e1:(x !=y)=true:=bne_iff_ne.2 hxy
     clear hxy
     go_wp2_with fail
     go_quiet (fail)
     go_wp2_with fail
     go_ret
     exact ⟨by rw [HD.out];rfl,Below.drewN (Below.drewN (Below.refl _ _) _) _⟩
   ·have HD:Hid (decide (l1=l2)=true):=(decide_eq_true (List.ext_getElem? (fun j=>by
     rcases Nat.lt_or_ge j l1.length with h|h
     ·have ha:l1[j]?=some (l1[j]'h):=List.getElem?_eq_getElem _
      have hb:l2[j]?=some (l2[j]'(by have:=HL.out;omega)):=List.getElem?_eq_getElem _
      rw [ha,hb,HE.out j _ _ (by have:=HL1.out;omega) ha hb]
     ·rw [List.getElem?_eq_none h,List.getElem?_eq_none (by have:=HL.out;omega)])):decide (l1=l2)=true)
    go_wp2_with fail
    go_ret
    exact ⟨by rw [HD.out];rfl,Below.drewN (Below.refl _ _) _⟩
 ·have HD:Hid (decide (l1=l2)=false):=decide_eq_false (fun e=>hl (by rw [←h1.len,←h2.len,e]))
  have hne:((n1:Int) !=n2)=true:=by simp;omega
  clear hl
  go_enter Tryz.func28, Tryz.ntmps28
  go_wp2_with fail
  go_ret
  exact ⟨by rw [HD.out];rfl,Below.refl _ _⟩
def LargeE(es:List ED):Prop:=40<es.length∨∃(i:Nat) (e:ED),es[i]?=some e∧(8<e.c.n1∨8<e.c.n2)
noncomputable instance (es:List ED):Decidable (LargeE es):=Classical.propDecidable _
end
end Go.Proofs.YtnegdhjdienjlaaGreatDoor
