import Derived.Test.YtnegdhjdienjlaaGreatDoorGQ8
import Derived.Test.YtnegdhjdienjlaaGreatDoorGQ7
import Derived.Lib.SlBytesRow
set_option linter.all false
namespace Go.Proofs.YtnegdhjdienjlaaGreatDoor
section
open Go.RowKit
def RetClone(es:List ED)(n:Nat)(w:World)(e:Ending)(w':World):Prop:=
 ∃ad c,e=.returned (.slice ad n c)∧Row NotU w' w.heap.size 27 5 (.slice ad n c) n (ecells es)∧Below w.heap.size w w'
theorem lit_on{w w':World}{B:Nat}(hb:Below w.heap.size w w')(hB:B<w.heap.size)(j':Nat):w'.cell? ((⟨B,0,none⟩:Addr).add j')=w.cell? ((⟨B,0,none⟩:Addr).add j'):=by
 rw [addr_plus]
 exact hb.cell (p:=⟨B,0+j',none⟩) hB
set_option maxRecDepth 100000 in
set_option maxHeartbeats 1600000 in
theorem eclone_c(w:World){ad:Option Addr}{n c:Nat}{es:List ED}(h:EsR w ad n c es)(hn:n≤1048576):
  Calls Tryz.prog 73 #[.slice ad n c] w (RetClone es n w):=by
 have HL:=Lib.hid h.len
 have hnil:=Lib.run_eql_slice_nil (P:= Tryz.prog) w 50 27 ad n c 0 0 Tryz.underlying50
 obtain ⟨i0,hi0,hz0,hz1,hz2⟩:=info_parts Tryz.infoED
 have HI:=Lib.hid (And.intro hi0 (And.intro hz0 (And.intro hz1 hz2)))
 clear hi0 hz0 hz1 hz2
 go_enter Tryz.func73, Tryz.ntmps73
 rcases ad with _|a
 ·have h0:n=0:=by
   rcases Nat.eq_zero_or_pos n with h9|h9
   ·exact h9
   ·obtain ⟨b,o,e,_⟩:=h.cells h9
    cases e
  subst h0
  have he:es=[]:=List.eq_nil_of_length_eq_zero h.len
  have HF:Hid (RetClone es 0 w (.returned (.slice none 0 0)) w):=⟨none,0,rfl,by rw [he];exact Row.nil _ _ _ _ _,Below.refl _ _⟩
  go_wp2_with fail
  go_ret
  exact HF.out
 ·have HRF:Hid (0<n→∃ad',some a=some ad'∧∀j u,(ecells es)[j]?=some u→(w.alloc (.cells #[] 27)).cell? (ad'.add j)=some u):=fun h9=>by
   obtain ⟨b,o,e,hlt,hc⟩:=h.cells h9
   obtain ⟨a',e2,hf⟩:=h.flat h9
   refine ⟨a',e2,fun j u hu=>?_⟩
   have:=hf j u hu
   cases e2;cases e
   rw [addr_plus] at this ⊢
   rw [←this]
   exact ((Below.refl w.heap.size w).alloc (Nat.le_refl _) _).cell (p:=⟨b,o+j,none⟩) hlt
  have hRow:Row NotU (w.alloc (.cells #[] 27)) w.heap.size 27 5 (.slice (some ⟨w.heap.size,0,none⟩) 0 0) 0 []:=Row.empty NotU 5 rfl
  have hal:Below w.heap.size w (w.alloc (.cells #[] 27)):=(Below.refl _ _).alloc (Nat.le_refl _) _
  go_wp2_with (at_builtin;refine wpList_row_any rfl (.tmp 5) (.tmp 6) _ rfl w.heap.size 27 i0 (.agg #[.int .i64 0,.int .i64 0,.bool false,.slice none 0 0,.slice none 0 0]) 5 72 Tryz.underlying50 HI.out.1 HI.out.2.1 HI.out.2.2.1 HI.out.2.2.2 rfl (by omega) (.slice (some ⟨w.heap.size,0,none⟩) 0 0) 0 [] rfl hRow (some a) n c (ecells es) rfl (by rw [ecells_len,HL.out]) HRF.out (fun u hu=>(ecells_mem hu).2) (by simp only [maxLen];omega) (by omega) (by simp) ed_zero (fun u hu=>(ecells_mem hu).1) ?_;intro v7 w7 hr7 hg7 ho7;rw [Nat.zero_add,List.nil_append] at hr7;obtain ⟨ad7,c7,rfl⟩:=hr7.shape)
  go_ret
  exact ⟨_,_,rfl,hr7,hal.trans (hRow.below hg7 (by simp))⟩
def Bad(es:List ED):Prop:=∃(i:Nat) (e:ED),es[i]?=some e∧¬e.V
noncomputable instance (es:List ED):Decidable (Bad es):=Classical.propDecidable _
theorem ext1_c(w:World)(e:ED)(h:e.In w)(hf:FewC e.c):Calls Tryz.prog 75 #[.agg #[.int .i64 e.k,.int .i64 e.i,.bool e.c.neg,.slice e.c.a1 e.c.n1 e.c.c1,.slice e.c.a2 e.c.n2 e.c.c2]] w (RetB (!decide e.V) w):=by
 have hP:=Pro1.mk' w #[.int .i64 e.k,.int .i64 e.i,.bool e.c.neg,.slice e.c.a1 e.c.n1 e.c.c1,.slice e.c.a2 e.c.n2 e.c.c2] 27
 go_enter Tryz.func75, Tryz.ntmps75
 go_upto_region 1 with (fail)
 generalize w.alloc (.cells #[.int .i64 e.k,.int .i64 e.i,.bool e.c.neg,.slice e.c.a1 e.c.n1 e.c.c1,.slice e.c.a2 e.c.n2 e.c.c2] 27)=W at*
 have hpB:=hP.b0
 have hPb:=hP.below
 have HPS:=Lib.hid hP.size
 have k0:=hpB.cell 0
 have k1:=hpB.cell 1
 have k2:=hpB.cell 2
 have k3:=hpB.cell 3
 have k4:=hpB.cell 4
 simp at k0 k1 k2 k3 k4
 have kz:=hpB.lt
 clear hP
 go_wp2_with fail
 refine (valid_c W e (h.on hPb) hf).mono ?_
 rintro e' U ⟨rfl,hbU⟩
 obtain ⟨vb,hvb⟩:∃vb,vb=decide e.V:=⟨_,rfl⟩
 rw [←hvb]
 have HV:=Lib.hid hvb
 clear hvb
 go_wp2_with fail
 go_ret
 exact ⟨by rw [←HV.out];rfl,hPb.trans (hbU.mono (by have:=HPS.out;omega))⟩
set_option maxRecDepth 100000 in
set_option maxHeartbeats 1600000 in
theorem eindex_c(w:World){ad:Option Addr}{n c:Nat}{es:List ED}(h:EsR w ad n c es)(hn:n≤1048577)(hf:∀(i:Nat) (e:ED),es[i]?=some e→FewC e.c):
  Calls Tryz.prog 130 #[.slice ad n c,.func (.func 75) #[] #[]] w (fun e w'=>∃x:Int,e=.returned (.int .i64 x)∧Hid (decide (0≤x)=decide (Bad es))∧Below w.heap.size w w'):=by
 have HL:=Lib.hid h.len
 have HFE:Hid (∀(i:Nat) (e:ED),es[i]?=some e→FewC e.c):=hf
 clear hf
 go_enter Tryz.func130, Tryz.ntmps130
 go_wp2_with fail
 go_loopw [8] (fun s8 wr=>∃i,i≤n∧s8=.int .i64 (i:Nat)∧Hid (∀(j:Nat) (e:ED),j<i→es[j]?=some e→e.V)∧Below w.heap.size w wr) (fun i _=>n-(intOf i).toNat)
 case atStart=>exact ⟨0,by omega,rfl,(fun j e hj=>by omega:∀(j:Nat) (e:ED),j<0→es[j]?=some e→e.V),Below.refl _ _⟩
 case round=>
  obtain ⟨i,hi,rfl,HA,hb⟩:=hrel
  by_cases hlt:i<n
  ·obtain ⟨b,o,e,rfl,hbl,HE,he,c0,c1,c2,c3,c4⟩:=(h.on hb).at_ (i:=i) hlt
   have lo:decide ((i:Int)<0)=false:=decide_eq_false (by omega)
   have hi':decide ((n:Int)≤(i:Int))=false:=decide_eq_false (by omega)
   go_wp2_with fail
   refine (ext1_c wr e he (HFE.out i e HE.out)).mono ?_
   rintro e' U ⟨rfl,hbU⟩
   have hwU:=hb.trans (hbU.mono hb.size)
   rcases hve:decide e.V with _|_
   ·have HBD:Hid (decide (0≤(i:Int))=decide (Bad es)):=(by rw [decide_eq_true (show (0:Int)≤(i:Int) by omega),decide_eq_true (show Bad es from ⟨i,e,HE.out,of_decide_eq_false hve⟩)]:decide (0≤(i:Int))=decide (Bad es))
    clear hve
    go_wp2_with fail
    go_ret
    exact ⟨_,rfl,HBD,hwU⟩
   ·have HA2:Hid (∀(j:Nat) (e:ED),j<i+1→es[j]?=some e→e.V):=(fun j e' hj he'=>by
     rcases Nat.lt_or_ge j i with h9|h9
     ·exact HA.out j e' h9 he'
     ·obtain rfl:j=i:=by omega
      rw [HE.out] at he';cases he'
      exact of_decide_eq_true hve:∀(j:Nat) (e:ED),j<i+1→es[j]?=some e→e.V)
    clear hve
    go_wp2_with fail
    go_roundw
    case rel=>exact ⟨i+1,by omega,by go_num,HA2,hwU⟩
    case measure=>simp [intOf];omega
  ·have HNB:¬Bad es:=fun ⟨j,e,he,h9⟩=>h9 (HA.out j e (by have:=(List.getElem?_eq_some_iff.1 he).1;have:=HL.out;omega) he)
   have HBD:Hid (decide (0≤(-1:Int))=decide (Bad es)):=(by rw [decide_eq_false HNB];rfl:decide (0≤(-1:Int))=decide (Bad es))
   clear HNB
   go_wp2_with fail
   go_ret
   exact ⟨_,rfl,HBD,hb⟩
theorem econt_c(w:World){ad:Option Addr}{n c:Nat}{es:List ED}(h:EsR w ad n c es)(hn:n≤1048577)(hf:∀(i:Nat) (e:ED),es[i]?=some e→FewC e.c):
  Calls Tryz.prog 74 #[.slice ad n c,.func (.func 75) #[] #[]] w (RetB (decide (Bad es)) w):=by
 go_enter Tryz.func74, Tryz.ntmps74
 go_wp2_with fail
 refine (eindex_c w h hn hf).mono ?_
 rintro e' U ⟨x,rfl,HX,hbU⟩
 go_wp2_with fail
 go_ret
 exact ⟨by rw [←HX.out];rfl,hbU⟩
noncomputable def extE(es:List ED):Int:=if Bad es then 1 else if Tw es then 9 else if es.length≤2048 then 0 else 8
noncomputable def extL(es:List ED):List ED:=if extE es=0 then es else []
def RetExt(es:List ED)(w:World)(e:Ending)(w':World):Prop:=
 ∃ad n c,e=.returned (.tuple #[.slice ad n c,.int .i64 (extE es)])∧EsR w' ad n c (extL es)∧Below w.heap.size w w'
theorem ext_err{es:List ED}{k:Int}{w w':World}(h:extE es=k)(hk:k≠0)(hb:Below w.heap.size w w'):RetExt es w (.returned (.tuple #[.slice none 0 0,.int .i64 k])) w':=
 ⟨none,0,0,by rw [h],by
  unfold extL
  rw [if_neg (by rw [h];exact hk)]
  exact ⟨rfl,Nat.le_refl _,(fun i e he=>by cases he),fun h0=>by omega⟩,hb⟩
def ECut(W:World)(n:Nat)(es:List ED)(d:ED)(s6:Value)(wx:World):Prop:=
 ∃ad c U,s6=.slice ad (n+1) c∧Row NotU U W.heap.size 27 5 (.slice ad (n+1) c) (n+1) (ecells es++[.int .i64 d.k,.int .i64 d.i,.bool d.c.neg,.slice d.c.a1 d.c.n1 d.c.c1,.slice d.c.a2 d.c.n2 d.c.c2])∧Below W.heap.size W U∧U=wx
theorem app_in{w:World}{es:List ED}{d:ED}(h:∀(i:Nat) (e:ED),es[i]?=some e→e.In w)(hd:d.In w):∀(i:Nat) (e:ED),(es++[d])[i]?=some e→e.In w:=fun i e he=>by
 rcases Nat.lt_or_ge i es.length with h9|h9
 ·rw [List.getElem?_append_left h9] at he;exact h i e he
 ·rw [List.getElem?_append_right h9] at he
  have:=(List.getElem?_eq_some_iff.1 he).1
  simp at this
  rw [show i-es.length=0 by omega] at he
  cases he;exact hd
theorem app_few{es:List ED}{d:ED}(h:∀(i:Nat) (e:ED),es[i]?=some e→FewC e.c)(hd:FewC d.c):∀(i:Nat) (e:ED),(es++[d])[i]?=some e→FewC e.c:=fun i e he=>by
 rcases Nat.lt_or_ge i es.length with h9|h9
 ·rw [List.getElem?_append_left h9] at he;exact h i e he
 ·rw [List.getElem?_append_right h9] at he
  have:=(List.getElem?_eq_some_iff.1 he).1
  simp at this
  rw [show i-es.length=0 by omega] at he
  cases he;exact hd
set_option maxRecDepth 100000 in
set_option maxHeartbeats 6400000 in
theorem extend_c(w:World){ad:Option Addr}{n c:Nat}{es:List ED}{d:ED}(h:EsR w ad n c es)(hn:n≤1000000)(hd:d.In w)(hf:∀(i:Nat) (e:ED),es[i]?=some e→FewC e.c)(hfd:FewC d.c):
  Calls Tryz.prog 27 #[.slice ad n c,.agg #[.int .i64 d.k,.int .i64 d.i,.bool d.c.neg,.slice d.c.a1 d.c.n1 d.c.c1,.slice d.c.a2 d.c.n2 d.c.c2]] w (RetExt (es++[d]) w):=by
 have HL:=Lib.hid h.len
 have HFE:Hid (∀(i:Nat) (e:ED),(es++[d])[i]?=some e→FewC e.c):=app_few hf hfd
 clear hf hfd
 obtain ⟨i0,hi0,hz0,hz1,hz2⟩:=info_parts Tryz.infoED
 have HI:=Lib.hid (And.intro hi0 (And.intro hz0 (And.intro hz1 hz2)))
 clear hi0 hz0 hz1 hz2
 have hP:=Pro1.mk' w #[.int .i64 d.k,.int .i64 d.i,.bool d.c.neg,.slice d.c.a1 d.c.n1 d.c.c1,.slice d.c.a2 d.c.n2 d.c.c2] 27
 go_enter Tryz.func27, Tryz.ntmps27
 go_upto_region 1 with (fail)
 generalize w.alloc (.cells #[.int .i64 d.k,.int .i64 d.i,.bool d.c.neg,.slice d.c.a1 d.c.n1 d.c.c1,.slice d.c.a2 d.c.n2 d.c.c2] 27)=W at*
 have hpB:=hP.b0
 have hPb:=hP.below
 have HPS:=Lib.hid hP.size
 have k0:=hpB.cell 0
 have k1:=hpB.cell 1
 have k2:=hpB.cell 2
 have k3:=hpB.cell 3
 have k4:=hpB.cell 4
 simp at k0 k1 k2 k3 k4
 have kz:=hpB.lt
 clear hP
 have hU0:Below W.heap.size W W.drew:=Below.drew (Below.refl _ _)
 have hU0w:=hPb.trans (hU0.mono (by have:=HPS.out;omega))
 go_cut [6] (fun s6 wx=>ECut W n es d s6 wx)
 case first=>
  refine wp_region_T 5 (fun w'=>w'.cell? ⟨w.heap.size,0,none⟩=some (.int .i64 d.k)∧w'.cell? ⟨w.heap.size,1,none⟩=some (.int .i64 d.i)∧w'.cell? ⟨w.heap.size,2,none⟩=some (.bool d.c.neg)∧w'.cell? ⟨w.heap.size,3,none⟩=some (.slice d.c.a1 d.c.n1 d.c.c1)∧w'.cell? ⟨w.heap.size,4,none⟩=some (.slice d.c.a2 d.c.n2 d.c.c2)) (by kernel_rfl) (by (try dsimp only);go_keep) (fun hHeld=>?_)
  refine wpT_take 0 (v:=?_) rfl (by kernel_rfl) (fun _ _ _ h=>h) (by rfl) (by assumption) ?_ ?_
  rotate_left
  ·(intro w9 hS9;(try dsimp only at hS9);go_simp;try with_reducible rfl)
  try simp only [Act.put,List.setIfInBounds_toArray,List.set_cons_zero,List.set_cons_succ]
  refine wpT_take 2 (v:=?_) rfl (by kernel_rfl) (fun _ _ _ h=>h) (by rfl) (by assumption) ?_ ?_
  rotate_left
  ·(intro w9 hS9;(try dsimp only at hS9);go_simp;try with_reducible rfl)
  try simp only [Act.put,List.setIfInBounds_toArray,List.set_cons_zero,List.set_cons_succ]
  refine wpT_two 1 3 rfl rfl (by kernel_rfl) (fun KK hKK=>?_) (fun KK hKK=>?_)
  ·go_simp
   go_at_call 73;refine (eclone_c _ (h.on hU0w) (by omega)).mono ?_;rintro e' w5 ⟨ad5,c5,rfl,hr5',hb5'⟩;have hb5:Below W.heap.size W w5:=hU0.trans hb5';obtain ⟨hc5,hf5⟩:=bcell hb5;have xz5:=Nat.lt_of_lt_of_le kz hb5.size;have hr5:=hr5'.base_le (b:=W.heap.size) (by simp)
   go_wp2_with fail
   have hOld:=hHeld
   clear hHeld
   refine hKK.out _ _ ?_ (fun hHeld=>?_)
   ·(try dsimp only);go_keep
   clear hOld hKK KK
   try simp only [Act.put,List.setIfInBounds_toArray,List.set_cons_zero,List.set_cons_succ]
   refine wpT_only 3 rfl (by kernel_rfl) (fun KK hKK=>?_)
   go_simp
   have hOld:=hHeld
   clear hHeld
   refine hKK.out _ _ ?_ (fun hHeld=>?_)
   ·(try dsimp only);go_keep
   clear hOld hKK KK
   try simp only [Act.put,List.setIfInBounds_toArray,List.set_cons_zero,List.set_cons_succ]
   have hal:Below w5.heap.size w5 (w5.alloc (.cells #[.int .i64 d.k,.int .i64 d.i,.bool d.c.neg,.slice d.c.a1 d.c.n1 d.c.c1,.slice d.c.a2 d.c.n2 d.c.c2] 27)):=(Below.refl _ _).alloc (Nat.le_refl _) _
   have hr6:=hr5.on hal
   have hb6:=hb5.trans (hal.mono hb5.size)
   obtain ⟨hc6,hf6⟩:=bcell hb6
   refine wpT_only 4 rfl (by kernel_rfl) (fun KK hKK=>?_)
   refine step_row _ rfl (.tmp 8) (.tmp 10) _ rfl W.heap.size 27 i0 (.agg #[.int .i64 0,.int .i64 0,.bool false,.slice none 0 0,.slice none 0 0]) 5 72 Tryz.underlying50 HI.out.1 HI.out.2.1 HI.out.2.2.1 HI.out.2.2.2 rfl (by omega) (.slice ad5 n c5) n (ecells es) rfl hr6 ⟨w5.heap.size,0,none⟩ 1 1 [.int .i64 d.k,.int .i64 d.i,.bool d.c.neg,.slice d.c.a1 d.c.n1 d.c.c1,.slice d.c.a2 d.c.n2 d.c.c2] rfl rfl (cells_news w5 #[.int .i64 d.k,.int .i64 d.i,.bool d.c.neg,.slice d.c.a1 d.c.n1 d.c.c1,.slice d.c.a2 d.c.n2 d.c.c2] _) (fun u hu=>(ecells_mem (es:=[d]) hu).2) (by simp only [maxLen];omega) (by omega) (by simp;exact Nat.le_succ_of_le hb5.size) (by omega) ed_zero (fun u hu=>(ecells_mem (es:=[d]) hu).1) ?_;intro v7 w7 hr7 hg7 ho7;obtain ⟨ad7,c7,rfl⟩:=hr7.shape
   have hb7:Below W.heap.size W w7:=hb6.trans (hr6.below hg7 (by simp;exact Nat.le_succ_of_le hb5.size))
   obtain ⟨hc7,hf7⟩:=bcell hb7
   have hOld:=hHeld
   clear hHeld
   refine hKK.out _ _ ?_ (fun hHeld=>?_)
   ·(try dsimp only);go_keep
   clear hOld hKK KK
   try simp only [Act.put,List.setIfInBounds_toArray,List.set_cons_zero,List.set_cons_succ]
   refine wpT_last 5 rfl rfl (by kernel_rfl) (fun KK hKK=>?_)
   go_simp
   refine hKK.out _ _ ?_
   clear hKK KK
   try simp only [Act.put,List.setIfInBounds_toArray,List.set_cons_zero,List.set_cons_succ]
   refine wpT_done (by kernel_rfl) ?_ _
   go_wp2_with fail
   go_meet
   exact ⟨_,_,_,rfl,hr7,hb7,rfl⟩
  ·go_simp
   have hOld:=hHeld
   clear hHeld
   refine hKK.out _ _ ?_ (fun hHeld=>?_)
   ·(try dsimp only);go_keep
   clear hOld hKK KK
   try simp only [Act.put,List.setIfInBounds_toArray,List.set_cons_zero,List.set_cons_succ]
   have hUa:Below W.heap.size W (W.drew.alloc (.cells #[.int .i64 d.k,.int .i64 d.i,.bool d.c.neg,.slice d.c.a1 d.c.n1 d.c.c1,.slice d.c.a2 d.c.n2 d.c.c2] 27)):=hU0.alloc (by simp) _
   have hUaw:=hPb.trans (hUa.mono (by have:=HPS.out;omega))
   refine wpT_only 1 rfl (by kernel_rfl) (fun KK hKK=>?_)
   go_simp
   go_at_call 73;refine (eclone_c _ (h.on hUaw) (by omega)).mono ?_;rintro e' w5 ⟨ad5,c5,rfl,hr5',hb5'⟩;have hb5:Below W.heap.size W w5:=hUa.trans (hb5'.mono hUa.size);obtain ⟨hc5,hf5⟩:=bcell hb5;have xz5:=Nat.lt_of_lt_of_le kz hb5.size;have hr5:=hr5'.base_le (b:=W.heap.size) hUa.size
   go_wp2_with fail
   have hOld:=hHeld
   clear hHeld
   refine hKK.out _ _ ?_ (fun hHeld=>?_)
   ·(try dsimp only);go_keep
   clear hOld hKK KK
   try simp only [Act.put,List.setIfInBounds_toArray,List.set_cons_zero,List.set_cons_succ]
   have hlit5:∀j u,([.int .i64 d.k,.int .i64 d.i,.bool d.c.neg,.slice d.c.a1 d.c.n1 d.c.c1,.slice d.c.a2 d.c.n2 d.c.c2]:List Value)[j]?=some u→w5.cell? ((⟨W.drew.heap.size,0,none⟩:Addr).add j)=some u:=fun j u hu=>(lit_on hb5' (by simp) j).trans (cells_news W.drew #[.int .i64 d.k,.int .i64 d.i,.bool d.c.neg,.slice d.c.a1 d.c.n1 d.c.c1,.slice d.c.a2 d.c.n2 d.c.c2] _ j u hu)
   refine wpT_only 4 rfl (by kernel_rfl) (fun KK hKK=>?_)
   refine step_row _ rfl (.tmp 8) (.tmp 10) _ rfl W.heap.size 27 i0 (.agg #[.int .i64 0,.int .i64 0,.bool false,.slice none 0 0,.slice none 0 0]) 5 72 Tryz.underlying50 HI.out.1 HI.out.2.1 HI.out.2.2.1 HI.out.2.2.2 rfl (by omega) (.slice ad5 n c5) n (ecells es) rfl hr5 ⟨W.drew.heap.size,0,none⟩ 1 1 [.int .i64 d.k,.int .i64 d.i,.bool d.c.neg,.slice d.c.a1 d.c.n1 d.c.c1,.slice d.c.a2 d.c.n2 d.c.c2] rfl rfl hlit5 (fun u hu=>(ecells_mem (es:=[d]) hu).2) (by simp only [maxLen];omega) (by omega) (hb5.size) (by omega) ed_zero (fun u hu=>(ecells_mem (es:=[d]) hu).1) ?_;intro v7 w7 hr7 hg7 ho7;obtain ⟨ad7,c7,rfl⟩:=hr7.shape
   have hb7:Below W.heap.size W w7:=hb5.trans (hr5.below hg7 hb5.size)
   obtain ⟨hc7,hf7⟩:=bcell hb7
   have hOld:=hHeld
   clear hHeld
   refine hKK.out _ _ ?_ (fun hHeld=>?_)
   ·(try dsimp only);go_keep
   clear hOld hKK KK
   try simp only [Act.put,List.setIfInBounds_toArray,List.set_cons_zero,List.set_cons_succ]
   refine wpT_last 5 rfl rfl (by kernel_rfl) (fun KK hKK=>?_)
   go_simp
   refine hKK.out _ _ ?_
   clear hKK KK
   try simp only [Act.put,List.setIfInBounds_toArray,List.set_cons_zero,List.set_cons_succ]
   refine wpT_done (by kernel_rfl) ?_ _
   go_wp2_with fail
   go_meet
   exact ⟨_,_,_,rfl,hr7,hb7,rfl⟩
 case rest=>
  obtain ⟨ad6,c6,U,rfl,hr6,hbU,rfl⟩:=hcut
  have hwU:=hPb.trans (hbU.mono (by have:=HPS.out;omega))
  have hr6':Row NotU U W.heap.size 27 5 (.slice ad6 (n+1) c6) (n+1) (ecells (es++[d])):=by rw [ecells_append];exact hr6
  have hE:EsR U ad6 (n+1) c6 (es++[d]):=hr6'.es (app_in (fun i e he=>(h.ok i e he).on hwU) (hd.on hwU))
  have HLE:Hid ((es++[d]).length=n+1):=hE.len
  clear k0 k1 k2 k3 k4 kz hr6 hr6' hpB hU0 hU0w
  obtain ⟨m,hm⟩:∃m,m=n+1:=⟨_,rfl⟩
  rw [←hm] at hE HLE ⊢
  have HM:=Lib.hid hm
  clear hm
  go_wp2_with fail
  refine (econt_c U hE (by have:=HM.out;omega) HFE.out).mono ?_
  rintro e' V ⟨rfl,hbV⟩
  have hwV:=hwU.trans (hbV.mono hwU.size)
  have hEV:=hE.on hbV
  clear hE hwU hbU
  by_cases hbad:Bad (es++[d])
  ·rw [decide_eq_true hbad]
   have HB:=Lib.hid hbad
   clear hbad
   have HEE:Hid (extE (es++[d])=1):=(by unfold extE;rw [if_pos HB.out]:extE (es++[d])=1)
   have HF:Hid (RetExt (es++[d]) w (.returned (.tuple #[.slice none 0 0,.int .i64 1])) V):=ext_err HEE.out (by omega) hwV
   go_wp2_with fail
   go_ret2
   exact HF.out
  rw [decide_eq_false hbad]
  have HB:=Lib.hid hbad
  clear hbad
  go_wp2_with fail
  refine (twice_c V hEV (show m≤1048576 by have:=HM.out;omega) (fun i e he=>by
   have h9:e.V:=Classical.byContradiction fun h8=>HB.out ⟨i,e,he,h8⟩
   have h7:=h9.1
   rcases h9.2 with h6|h6
   ·have:=h6.2.1;omega
   ·have:=h6.2.1;omega)).mono ?_
  rintro e' X ⟨rfl,hbX⟩
  have hwX:=hwV.trans (hbX.mono hwV.size)
  have hEX:=hEV.on hbX
  by_cases htw:Tw (es++[d])
  ·rw [decide_eq_true htw]
   have HT:=Lib.hid htw
   clear htw
   have HEE:Hid (extE (es++[d])=9):=(by unfold extE;rw [if_neg HB.out,if_pos HT.out]:extE (es++[d])=9)
   have HF:Hid (RetExt (es++[d]) w (.returned (.tuple #[.slice none 0 0,.int .i64 9])) X):=ext_err HEE.out (by omega) hwX
   go_wp2_with fail
   go_ret2
   exact HF.out
  rw [decide_eq_false htw]
  have HT:=Lib.hid htw
  clear htw
  by_cases h2048:2048<m
  ·have d1:decide (2048<m)=true:=decide_eq_true h2048
   have d2:decide ((2048:Int)<(m:Int))=true:=decide_eq_true (by omega)
   have HEE:Hid (extE (es++[d])=8):=(by unfold extE;rw [if_neg HB.out,if_neg HT.out,if_neg (by have:=HLE.out;omega)]:extE (es++[d])=8)
   have HF:Hid (RetExt (es++[d]) w (.returned (.tuple #[.slice none 0 0,.int .i64 8])) X):=ext_err HEE.out (by omega) hwX
   go_wp2_with fail
   go_ret2
   exact HF.out
  have d1:decide (2048<m)=false:=decide_eq_false h2048
  have d2:decide ((2048:Int)<(m:Int))=false:=decide_eq_false (by omega)
  have HEE:Hid (extE (es++[d])=0):=(by unfold extE;rw [if_neg HB.out,if_neg HT.out,if_pos (by have:=HLE.out;omega)]:extE (es++[d])=0)
  have HF:Hid (RetExt (es++[d]) w (.returned (.tuple #[.slice ad6 m c6,.int .i64 0])) X):=⟨_,_,_,by rw [HEE.out],by unfold extL;rw [if_pos HEE.out];exact hEX,hwX⟩
  go_wp2_with fail
  go_ret2
  exact HF.out
end
section
open Go.RowKit
def rvI(bs:List Nat)(n i p:Nat):Option Nat:=if p<i∨n≤p+i then bs[n-1-p]? else bs[p]?
structure RevS (w V:World) (g:Nat) (bs:List Nat) (n i:Nat) (cur:Array Value):Prop where
 box:Blk V g 5 cur
 at_:Hid (∀(p b:Nat),p<n→rvI bs n i p=some b→cur[p]?=some (.int .u8 (b:Int)))
 below:Below g w V
theorem RevS.cell{w V:World}{g n i:Nat}{bs:List Nat}{cur:Array Value}(h:RevS w V g bs n i cur){p b:Nat}(hp:p<n)(hb:rvI bs n i p=some b):V.cell? ⟨g,p,none⟩=some (.int .u8 (b:Int)):=by
 rw [h.box.cell];exact h.at_.out p b hp hb
theorem RevS.swap{w V:World}{g n i:Nat}{bs:List Nat}{cur:Array Value}{x y:Nat}(h:RevS w V g bs n i cur)(hn:bs.length=n)(hi:i+i+1<n)(hx:bs[i]?=some x)(hy:bs[n-1-i]?=some y):
  RevS w ((V.setCell ⟨g,i,none⟩ (.int .u8 (y:Int))).setCell ⟨g,n-1-i,none⟩ (.int .u8 (x:Int))) g bs n (i+1) ((cur.setIfInBounds i (.int .u8 (y:Int))).setIfInBounds (n-1-i) (.int .u8 (x:Int)))∧
  RevS w ((V.setCell ⟨g,n-1-i,none⟩ (.int .u8 (x:Int))).setCell ⟨g,i,none⟩ (.int .u8 (y:Int))) g bs n (i+1) ((cur.setIfInBounds i (.int .u8 (y:Int))).setIfInBounds (n-1-i) (.int .u8 (x:Int))):=by
 have hat:∀(p b:Nat),p<n→rvI bs n (i+1) p=some b→((cur.setIfInBounds i (.int .u8 (y:Int))).setIfInBounds (n-1-i) (.int .u8 (x:Int)))[p]?=some (.int .u8 (b:Int)):=fun p b hp hb=>by
  have hold:∀q,q<n→∃v,cur[q]?=some v:=fun q hq=>by
   have:∃b,rvI bs n i q=some b:=by
    unfold rvI
    split
    ·exact ⟨_,List.getElem?_eq_getElem (by omega)⟩
    ·exact ⟨_,List.getElem?_eq_getElem (by omega)⟩
   obtain ⟨b,hb⟩:=this
   exact ⟨_,h.at_.out q b hq hb⟩
  rw [Array.getElem?_setIfInBounds]
  by_cases e1:n-1-i=p
  ·have hs:p<(cur.setIfInBounds i (.int .u8 (y:Int))).size:=by
    obtain ⟨v,hv⟩:=hold p hp
    have:=(Array.getElem?_eq_some_iff.1 hv).1
    simpa using this
   rw [if_pos e1,if_pos (by omega)]
   unfold rvI at hb
   rw [if_pos (by omega),show n-1-p=i by omega,hx] at hb
   cases hb;rfl
  ·rw [if_neg e1,Array.getElem?_setIfInBounds]
   by_cases e2:i=p
   ·have hs:p<cur.size:=by
     obtain ⟨v,hv⟩:=hold p hp
     exact (Array.getElem?_eq_some_iff.1 hv).1
    rw [if_pos e2,if_pos (by omega)]
    unfold rvI at hb
    rw [if_pos (by omega),show n-1-p=n-1-i by omega,hy] at hb
    cases hb;rfl
   ·rw [if_neg e2]
    refine h.at_.out p b hp ?_
    unfold rvI at hb ⊢
    by_cases e3:p<i∨n≤p+i
    ·rw [if_pos e3];rw [if_pos (by omega)] at hb;exact hb
    ·rw [if_neg e3];rw [if_neg (by omega)] at hb;exact hb
 refine ⟨⟨(h.box.set_ _ _).set_ _ _,hat,(h.below.setCell (p:=⟨g,_,none⟩) (Nat.le_refl _) _).setCell (p:=⟨g,_,none⟩) (Nat.le_refl _) _⟩,⟨?_,hat,(h.below.setCell (p:=⟨g,_,none⟩) (Nat.le_refl _) _).setCell (p:=⟨g,_,none⟩) (Nat.le_refl _) _⟩⟩
 rw [Array.setIfInBounds_comm _ _ (by omega)]
 exact (h.box.set_ _ _).set_ _ _
theorem RevS.drew{w V:World}{g n i:Nat}{bs:List Nat}{cur:Array Value}(h:RevS w V g bs n i cur)(d:Nat):RevS w (V.drewN d) g bs n i cur:=⟨h.box.on (Below.drewN (Below.refl _ _) _),h.at_,Below.drewN h.below _⟩
set_option maxRecDepth 100000 in
set_option maxHeartbeats 1600000 in
theorem rev_c(w:World){g n c:Nat}{cur:Array Value}{bs:List Nat}(hB:Blk w g 5 cur)(hn:bs.length=n)(hcur:∀(p b:Nat),bs[p]?=some b→cur[p]?=some (.int .u8 (b:Int)))(hn1:n≤1099511627776):
  Calls Tryz.prog 139 #[.slice (some ⟨g,0,none⟩) n c] w (fun e w'=>e=.returned (.tuple #[])∧∃cur',Blk w' g 5 cur'∧(∀(p b:Nat),bs.reverse[p]?=some b→cur'[p]?=some (.int .u8 (b:Int)))∧Below g w w'):=by
 have HN:=Lib.hid hn
 have hR0:RevS w w g bs n 0 cur:=⟨hB,(fun p b hp hb=>by
  unfold rvI at hb
  rw [if_neg (by omega)] at hb
  exact hcur p b hb:∀(p b:Nat),p<n→rvI bs n 0 p=some b→cur[p]?=some (.int .u8 (b:Int))),Below.refl _ _⟩
 clear hB hcur
 go_enter Tryz.func139, Tryz.ntmps139
 go_wp2_with fail
 go_loopw [2,3] (fun s2 s3 wr=>∃i cur,i≤n∧s2=.int .i64 (i:Nat)∧s3=.int .i64 ((n:Int)-1-(i:Nat))∧RevS w wr g bs n i cur) (fun i _ _=>n-(intOf i).toNat)
 case atStart=>exact ⟨0,cur,by omega,rfl,by go_num,hR0⟩
 case round=>
  clear hR0
  obtain ⟨i,cur,hi,rfl,rfl,hR⟩:=hrel
  by_cases hlt:i+i+1<n
  ·have d1:decide ((i:Int)<(n:Int)-1-(i:Int))=true:=decide_eq_true (by omega)
   obtain ⟨x,hx⟩:∃x,bs[i]?=some x:=⟨bs[i]'(by omega),List.getElem?_eq_getElem _⟩
   obtain ⟨y,hy⟩:∃y,bs[n-1-i]?=some y:=⟨bs[n-1-i]'(by omega),List.getElem?_eq_getElem _⟩
   have c0:=hR.cell (p:=i) (b:=x) (by omega) (by unfold rvI;rw [if_neg (by omega)];exact hx)
   have c1:=hR.cell (p:=n-1-i) (b:=y) (by omega) (by unfold rvI;rw [if_neg (by omega)];exact hy)
   have f0:=hR.box.frozen i
   have f1:=hR.box.frozen (n-1-i)
   have bz:=hR.box.lt
   obtain ⟨HS1,HS2⟩:=hR.swap HN.out hlt hx hy
   have lo:decide ((i:Int)<0)=false:=decide_eq_false (by omega)
   have hi':decide ((n:Int)≤(i:Int))=false:=decide_eq_false (by omega)
   have lo2:decide ((n:Int)-1-(i:Int)<0)=false:=decide_eq_false (by omega)
   have hi2:decide ((n:Int)≤(n:Int)-1-(i:Int))=false:=decide_eq_false (by omega)
   have e1:((n:Int)-1-(i:Int)).toNat=n-1-i:=by omega
   clear hx hy hR
   go_upto_region 3 with (fail)
   go_region
   go_wp2_with fail
   go_roundw
   case rel=>exact ⟨i+1,_,by omega,by go_num,by simp only [Value.int.injEq,true_and];omega,by first|exact HS1|exact HS2|exact HS1.drew _|exact HS2.drew _|(trace_state;fail)⟩
   case measure=>simp [intOf];omega
  ·have d1:decide ((i:Int)<(n:Int)-1-(i:Int))=false:=decide_eq_false (by omega)
   have HF:Hid (∀(p b:Nat),bs.reverse[p]?=some b→cur[p]?=some (.int .u8 (b:Int))):=(fun p b hp=>by
    have hpn:=(List.getElem?_eq_some_iff.1 hp).1
    rw [List.length_reverse,hn] at hpn
    refine hR.at_.out p b hpn ?_
    rw [List.getElem?_reverse (by omega),hn] at hp
    unfold rvI
    by_cases e3:p<i∨n≤p+i
    ·rw [if_pos e3];exact hp
    ·rw [if_neg e3,show p=n-1-p by omega];exact hp:∀(p b:Nat),bs.reverse[p]?=some b→cur[p]?=some (.int .u8 (b:Int)))
   go_wp2_with fail
   go_end0
   exact ⟨rfl,cur,hR.box,HF.out,hR.below⟩
end
section
open Go.RowKit
def decL(k:Nat):List Nat:=if h:k<10 then [48+k] else decL (k / 10)++[48+k % 10]
termination_by k
decreasing_by omega
def lowD(K k:Nat):List Nat:=(List.range K).map fun j=>48+k / 10 ^ j % 10
theorem lowD_len(K k:Nat):(lowD K k).length=K:=by simp [lowD]
theorem lowD_succ(K k:Nat):lowD (K+1) k=lowD K k++[48+k / 10 ^ K % 10]:=by simp [lowD,List.range_succ]
theorem lowD_cons(K k:Nat):lowD (K+1) k=(48+k % 10)::lowD K (k / 10):=by
 simp only [lowD,List.range_succ_eq_map,List.map_cons,List.map_map,Nat.pow_zero,Nat.div_one]
 congr 1
 apply List.map_congr_left
 intro j _
 simp only [Function.comp,Nat.succ_eq_add_one,Nat.pow_succ]
 rw [Nat.mul_comm,←Nat.div_div_eq_div_mul]
theorem lowD_get{K k p:Nat}(hp:p<K):(lowD K k)[p]?=some (48+k / 10 ^ p % 10):=by
 simp [lowD,List.getElem?_map,List.getElem?_range hp]
theorem lowD_rev:∀(K k:Nat),10 ^ K≤k→k<10 ^ (K+1)→(lowD (K+1) k).reverse=decL k
 | 0,k,h0,h1=>by
   have hk:k<10:=by simpa using h1
   rw [decL,dif_pos hk,lowD_cons]
   simp [lowD,Nat.mod_eq_of_lt hk]
 | K+1,k,h0,h1=>by
   have hk:¬k<10:=by
    have:10 ^ 1≤10 ^ (K+1):=Nat.pow_le_pow_right (by omega) (by omega)
    omega
   rw [decL,dif_neg hk,lowD_cons,List.reverse_cons,lowD_rev K (k / 10) (by rw [Nat.le_div_iff_mul_le (by omega),←Nat.pow_succ];exact h0) (by rw [Nat.div_lt_iff_lt_mul (by omega),←Nat.pow_succ];exact h1)]
theorem decL_zero:decL 0=[48]:=by rw [decL,dif_pos (by omega)]
theorem decL_lt:∀(k:Nat),∀b∈decL k,48≤b∧b<58:=by
 intro k
 induction k using Nat.strongRecOn with
 | ind k ih=>
   intro b hb
   rw [decL] at hb
   split at hb
   ·simp at hb;omega
   ·rcases List.mem_append.1 hb with h|h
    ·exact ih _ (by omega) b h
    ·simp at h;omega
theorem digit_mid{k K j:Nat}(hj:j<9):k / 10 ^ K % 1000000000 / 10 ^ j % 10=k / 10 ^ (K+j) % 10:=by
 rw [Nat.pow_add,←Nat.div_div_eq_div_mul]
 generalize k / 10 ^ K=m
 have h9:1000000000=10 ^ j*10 ^ (9-j):=by rw [←Nat.pow_add,show j+(9-j)=9 by omega]
 rw [h9,Nat.mod_mul_right_div_self,show 9-j=(8-j)+1 by omega,Nat.pow_succ,Nat.mul_comm (10 ^ (8-j)) 10,Nat.mod_mul_right_mod]
def sB(bs:List Nat):ByteArray:=⟨(bs.map UInt8.ofNat).toArray⟩
theorem sB_size(bs:List Nat):(sB bs).size=bs.length:=by show (bs.map UInt8.ofNat).toArray.size=_;simp
theorem sB_get(bs:List Nat)(i:Nat)(h:i<(sB bs).size):(sB bs)[i]=UInt8.ofNat (bs[i]'(by rw [←sB_size];exact h)):=by
 have hl:i<bs.length:=by rw [←sB_size];exact h
 have e:(sB bs)[i]=(bs.map UInt8.ofNat)[i]'(by rw [List.length_map];exact hl):=rfl
 rw [e,List.getElem_map]
theorem sB_append(a b:List Nat):sB (a++b)=sB a++sB b:=by
 apply ByteArray.ext
 simp [sB,ByteArray.data_append]
def ubytes(bs:List Nat):List Value:=bs.map fun b:Nat=>Value.int .u8 (b:Int)
theorem ubytes_get{bs:List Nat}{i b:Nat}(h:bs[i]?=some b):(ubytes bs)[i]?=some (.int .u8 (b:Int)):=by simp [ubytes,List.getElem?_map,h]
theorem Tryz.infoU8:(Tryz.prog.info? 5).map (fun i=>(i.zero,i.size,i.bytes))=some (some (.int .u8 0),1,1):=by kernel_rfl
theorem blk_bytes{w:World}{g:Nat}{t:TypeId}{cur:Array Value}{bs:List Nat}(hB:Blk w g t cur)(hc:∀(p b:Nat),bs[p]?=some b→cur[p]?=some (.int .u8 (b:Int)))(hb:∀b∈bs,b<256):Lib.Bytes w g 0 (sB bs):=fun i h=>by
 have h2:i<bs.length:=by rw [←sB_size];exact h
 rw [sB_get bs i h,Nat.zero_add,hB.cell,hc i _ (List.getElem?_eq_getElem h2)]
 have h3:=hb _ (List.getElem_mem h2)
 rw [UInt8.toNat_ofNat']
 rw [Nat.mod_eq_of_lt h3]
def slLen:Value→Nat
 | .slice _ n _=>n
 | _=>0
theorem pow_bound{K k n:Nat}(h:10 ^ K≤k)(hk:k<4294967296 ^ n):K≤10*n:=by
 have h1:4294967296 ^ n≤10 ^ (10*n):=by
  rw [Nat.pow_mul]
  exact Nat.pow_le_pow_left (by omega) n
 have h2:10 ^ K<10 ^ (10*n):=by omega
 exact Nat.le_of_lt ((Nat.pow_lt_pow_iff_right (by omega)).1 h2)
theorem u8_notU(x:Int):NotU (.int .u8 x):=fun z=>by simp
theorem run_cv(w:World){g cap j k:Nat}{cur:Array Value}(hB:Blk w g 5 cur)(hc:∀(p b:Nat),(lowD (j+1) k).reverse[p]?=some b→cur[p]?=some (.int .u8 (b:Int)))(hd:(lowD (j+1) k).reverse=decL k):
  (convert 69 9 (.slice (some ⟨g,0,none⟩) (j+1) cap)).run Tryz.prog w=.ok (.string (sB (decL k))) w:=by
 rw [hd] at hc
 have hl:(decL k).length=j+1:=by rw [←hd,List.length_reverse,lowD_len]
 have h1:=Lib.run_convert_whole (P:= Tryz.prog) w 69 5 9 Tryz.underlying69 Tryz.underlying5 Tryz.underlying9 g 0 (sB (decL k)) (blk_bytes hB hc (fun b hb=>by have:=decL_lt k b hb;omega)) cap
 rw [sB_size,hl] at h1
 exact h1
def RetS(s:ByteArray)(w:World)(e:Ending)(w':World):Prop:=e=.returned (.string s)∧Below w.heap.size w w'
set_option maxRecDepth 100000 in
set_option maxHeartbeats 6400000 in
theorem digits_c(w:World){ad:Option Addr}{n c:Nat}{l:List Nat}(h:LimR w ad n c l)(hn:n≤1000000):
  Calls Tryz.prog 79 #[.slice ad n c] w (RetS (sB (decL (val l))) w):=by
 obtain ⟨i0,hi0,hz0,hz1,hz2⟩:=info_parts Tryz.infoU8
 have HI:=Lib.hid (And.intro hi0 (And.intro hz0 (And.intro hz1 hz2)))
 clear hi0 hz0 hz1 hz2
 have hkb:val l<4294967296 ^ n:=by rw [←h.len];exact val_lt h.lim
 have HKB:=Lib.hid hkb
 clear hkb
 obtain ⟨k,hk⟩:∃k,k=val l:=⟨_,rfl⟩
 rw [←hk] at HKB ⊢
 have HV0:Hid (val l=k / 10 ^ 0):=(by rw [hk];simp:val l=k / 10 ^ 0)
 clear hk
 obtain ⟨n0,hn0⟩:∃n0,n0=n:=⟨_,rfl⟩
 rw [←hn0] at HKB
 have hn1:n0≤1000000:=by omega
 clear hn0
 go_enter Tryz.func79, Tryz.ntmps79
 go_wp2_with fail
 refine (nof_any w 1000000000 (by omega) (by omega)).mono ?_
 rintro e W ⟨adt,nt,ct,rfl,hten,hbW⟩
 have hten':LimR W adt nt ct (lmb 1000000000):=hten
 have hnt:nt≤1000000:=by have:=hten'.len;have:=lmb_len_le (n:=1000000000) (k:=1) (by omega);omega
 have hW0:=h.on hbW
 clear hten h
 go_wp2_with fail
 go_loopw [0,3] (fun s0 s3 wr=>∃K ad n c l ad3 c3,s0=.slice ad n c∧s3=.slice ad3 K c3∧LimR wr ad n c l∧n≤1000000∧Hid (val l=k / 10 ^ K)∧Row NotU wr W.heap.size 5 1 (.slice ad3 K c3) K (ubytes (lowD K k))∧K≤10*n0+9∧Below W.heap.size W wr) (fun _ s3 _=>10*n0+20-slLen s3)
 case atStart=>exact ⟨0,_,_,_,_,none,0,rfl,rfl,hW0,hn,HV0,Row.nil _ _ _ _ _,by omega,Below.refl _ _⟩
 case round=>
  clear hW0 HV0 hn
  obtain ⟨K,ad,n,c,l,ad3,c3,rfl,rfl,hL,hn,HV,hR,hK,hb⟩:=hrel
  obtain ⟨wq,hwq⟩:∃wq:World,wq=wr:=⟨_,rfl⟩
  subst hwq
  go_wp2_with fail
  refine (nbits_any wq hL (by omega)).mono ?_
  rintro e w5 ⟨bb,rfl,hbb0,HBB,rfl⟩
  by_cases hm:val l=0
  rotate_left
  ·have hbb:0<bb:=by have:¬bb=0:=fun h9=>hm (HBB.out.1 h9);omega
   have d1:decide (0<bb)=true:=decide_eq_true hbb
   have hpk:10 ^ K≤k:=by
    rw [HV.out] at hm
    rcases Nat.lt_or_ge k (10 ^ K) with h9|h9
    ·exact absurd (Nat.div_eq_of_lt h9) hm
    ·exact h9
   have hK2:=pow_bound hpk HKB.out
   have tq:=hten'.on hb
   clear hm hpk
   go_wp2_with fail
   refine (ndiv_any wq hL tq (by omega) (by omega) (by rw [val_lmb];omega)).mono ?_
   rintro e w6 ⟨a1,n1,c1,a2,n2,c2,rfl,hq,hr,hb6⟩
   have hvq:val l / val (lmb 1000000000)=k / 10 ^ (K+9):=by rw [val_lmb,HV.out,Nat.div_div_eq_div_mul,←Nat.pow_add 10 K 9]
   have hvr:val l % val (lmb 1000000000)=k / 10 ^ K % 1000000000:=by rw [val_lmb,HV.out]
   rw [hvq] at hq
   rw [hvr] at hr
   have hqn:n1≤1000000:=by
    have h1:=hq.len
    have h2:(lmb (k / 10 ^ (K+9))).length≤(lmb (val l)).length:=lmb_len_mono (by rw [HV.out,Nat.pow_add,←Nat.div_div_eq_div_mul];exact Nat.div_le_self _ _)
    have h3:=val_bound hL
    omega
   have hrl:k / 10 ^ K % 1000000000<1000000000:=Nat.mod_lt _ (by omega)
   have hrn:n2≤1000000:=by
    have h1:=hr.len
    have:=lmb_len_le (n:=k / 10 ^ K % 1000000000) (k:=1) (by omega)
    omega
   have HDM:Hid (∀j,j<9→k / 10 ^ K % 1000000000 / 10 ^ j % 10=k / 10 ^ (K+j) % 10):=(fun j hj=>digit_mid hj:∀j,j<9→k / 10 ^ K % 1000000000 / 10 ^ j % 10=k / 10 ^ (K+j) % 10)
   generalize k / 10 ^ K % 1000000000=r at*
   clear hvq hvr tq HBB hbb hbb0 hL HV
   go_wp2_with fail
   refine (nuint_any w6 hr (by omega) (by rw [val_lmb];omega)).mono ?_
   rintro e w7 ⟨rfl,rfl⟩
   rw [val_lmb]
   have hR6:=hR.on hb6
   have hb06:=hb.trans (hb6.mono hb.size)
   clear hr hR hb hb6 hrn
   go_wp2_with fail
   go_loopw [3,8,26] (fun s3 s8 s26 wx=>∃j ad3 c3,j≤9∧s26=.int .i64 (j:Nat)∧s8=.int .u64 ((r / 10 ^ j:Nat):Int)∧s3=.slice ad3 (K+j) c3∧Row NotU wx W.heap.size 5 1 (.slice ad3 (K+j) c3) (K+j) (ubytes (lowD (K+j) k))∧LimR wx a1 n1 c1 (lmb (k / 10 ^ (K+9)))∧Below W.heap.size W wx) (fun _ _ j _=>9-(intOf j).toNat)
   case atStart=>exact ⟨0,ad3,c3,by omega,rfl,by simp,rfl,hR6,hq,hb06⟩
   case round=>
    clear hR6 hq hb06
    obtain ⟨j,ad3,c3,hj,rfl,rfl,rfl,hR,hq,hb⟩:=hrel
    by_cases hlt:j<9
    ·have HD:=Lib.hid (HDM.out j hlt)
     have hx9:r / 10 ^ j<1000000000:=Nat.lt_of_le_of_lt (Nat.div_le_self _ _) hrl
     have hx2:r / 10 ^ j / 10=r / 10 ^ (j+1):=by rw [Nat.pow_succ,←Nat.div_div_eq_div_mul]
     have HX2:=Lib.hid hx2
     clear hx2
     generalize r / 10 ^ j=x at*
     obtain ⟨d,hd⟩:∃d,d=x % 10:=⟨_,rfl⟩
     have hd10:d<10:=by omega
     have HLD:Hid (ubytes (lowD (K+j) k)++[.int .u8 (48+(d:Int))]=ubytes (lowD (K+(j+1)) k)):=(by
      rw [show K+(j+1)=K+j+1 by omega,lowD_succ,←HD.out,←hd]
      simp [ubytes]:ubytes (lowD (K+j) k)++[.int .u8 (48+(d:Int))]=ubytes (lowD (K+(j+1)) k))
     have t1:Int.tmod (x:Int) 10=(d:Int):=by rw [hd];rfl
     have t2:Int.tdiv (x:Int) 10=((x / 10:Nat):Int):=rfl
     have w1:IntKind.u64.wrap (d:Int)=(d:Int):=IntWalk.u64_in _ (by omega)
     have w2:IntKind.u64.wrap (48+(d:Int))=48+(d:Int):=IntWalk.u64_in _ (by omega)
     have w3:IntKind.u8.wrap (48+(d:Int))=48+(d:Int):=IntWalk.u8_in _ (by omega)
     have w4:IntKind.u64.wrap ((x / 10:Nat):Int)=((x / 10:Nat):Int):=IntWalk.u64_in _ (by omega)
     have hal:Below wr.heap.size wr (wr.alloc (.cells #[.int .u8 (48+(d:Int))] 5)):=(Below.refl _ _).alloc (Nat.le_refl _) _
     have hRa:=hR.on hal
     have hqa:=hq.on hal
     clear hd HD
     go_wp2_with (at_builtin;refine wpList_row _ rfl (.tmp 28) (.tmp 33) _ rfl W.heap.size 5 i0 (.int .u8 0) 1 1 Tryz.underlying69 HI.out.1 HI.out.2.1 HI.out.2.2.1 HI.out.2.2.2 rfl (by omega) (.slice ad3 (K+j) c3) (K+j) (ubytes (lowD (K+j) k)) rfl hRa ⟨wr.heap.size,0,none⟩ 1 1 [.int .u8 (48+(d:Int))] rfl rfl (cells_news wr #[.int .u8 (48+(d:Int))] _) (fun u hu=>by simp at hu;subst hu;rfl) (by simp only [maxLen];omega) (by omega) (by simp;exact Nat.le_succ_of_le hb.size) (by omega) (fun x hx=>by simp [Value.cells] at hx;subst hx;exact u8_notU _) (fun u hu=>by simp at hu;subst hu;exact u8_notU _) ?_;intro v7 w8 hr8 hg8 ho8;obtain ⟨ad8,c8,rfl⟩:=hr8.shape;have hq8:=hqa.row hRa hg8;have hb8:Below W.heap.size W w8:=(hb.trans (hal.mono hb.size)).trans (hRa.below hg8 (by simp;exact Nat.le_succ_of_le hb.size)))
     rw [HLD.out] at hr8
     go_roundw
     case rel=>exact ⟨j+1,_,_,by omega,by go_num,by rw [←HX2.out];rfl,rfl,hr8,hq8,hb8⟩
     case measure=>simp [intOf];omega
    ·have hj9:j=9:=by omega
     have HJ9:=Lib.hid hj9
     have hR9:Row NotU wr W.heap.size 5 1 (.slice ad3 (K+j) c3) (K+j) (ubytes (lowD (K+j) k)):=hR
     have HVQ:Hid (val (lmb (k / 10 ^ (K+9)))=k / 10 ^ (K+j)):=(by rw [val_lmb,hj9]:val (lmb (k / 10 ^ (K+9)))=k / 10 ^ (K+j))
     clear hj9 hR
     go_wp2_with fail
     go_roundw
     case rel=>exact ⟨K+j,_,_,_,_,_,_,rfl,rfl,hq,hqn,HVQ,hR9,by omega,hb⟩
     case measure=>simp [slLen];omega
  ·have hbb:bb=0:=HBB.out.2 hm
   subst hbb
   have hkK:k<10 ^ K:=by
    rw [HV.out] at hm
    rcases Nat.lt_or_ge k (10 ^ K) with h9|h9
    ·exact h9
    ·have:=Nat.div_pos h9 (Nat.pow_pos (n:=K) (by omega:0<10));omega
   have HKK:=Lib.hid hkK
   have hwb:=hbW.trans (hb.mono hbW.size)
   clear hm hkK HV hL HBB hbb0
   rcases hR.own.2 with ⟨hv,h0⟩|⟨g,cap,cur,hv,hgb,hg,hnc,_,hsz,htake⟩
   ·cases hv
    have hk0:k=0:=by have:=HKK.out;simp at this;omega
    subst hk0
    have HF:Hid (RetS (sB (decL 0)) w (.returned (.string ⟨#[48]⟩)) wq):=⟨by rw [decL_zero];rfl,hwb⟩
    go_wp2_with fail
    go_loopw [3] (fun s3 wx=>s3=.slice none 0 0∧wx=wq) (fun _ _=>0)
    case atStart=>exact ⟨rfl,rfl⟩
    case round=>
     obtain ⟨rfl,rfl⟩:=hrel
     go_wp2_with fail
     go_ret
     exact HF.out
   ·cases hv
    have hB:Blk wq g 5 cur:=hg
    have HC:Hid (∀p,p<K→cur[p]?=some (.int .u8 ((48+k / 10 ^ p % 10:Nat):Int))):=(fun p hp=>by
     have h1:=ubytes_get (lowD_get (k:=k) hp)
     rw [←htake,List.getElem?_take] at h1
     split at h1
     ·rw [←Array.getElem?_toList];exact h1
     ·exact (by cases h1):∀p,p<K→cur[p]?=some (.int .u8 ((48+k / 10 ^ p % 10:Nat):Int)))
    have HGB:=Lib.hid hgb
    clear hR hg hsz htake hgb
    go_wp2_with fail
    go_loopw [3] (fun s3 wx=>∃j,j≤K∧s3=.slice (some ⟨g,0,none⟩) j c3∧Hid (k<10 ^ j)∧Blk wx g 5 cur∧Below w.heap.size w wx) (fun s3 _=>slLen s3)
    case atStart=>exact ⟨K,by omega,rfl,HKK,hB,hwb⟩
    case round=>
     clear hB hwb HKK
     obtain ⟨j,hj,rfl,HJ,hB,hwx⟩:=hrel
     rcases j with _|j
     ·have hk0:k=0:=by have:=HJ.out;simp at this;omega
      subst hk0
      have HF:Hid (RetS (sB (decL 0)) w (.returned (.string ⟨#[48]⟩)) wr):=⟨by rw [decL_zero];rfl,hwx⟩
      go_wp2_with fail
      go_ret
      exact HF.out
     ·have c0:wr.cell? ⟨g,j,none⟩=some (.int .u8 ((48+k / 10 ^ j % 10:Nat):Int)):=by rw [hB.cell];exact HC.out j (by omega)
      have hdj:k / 10 ^ j % 10=k / 10 ^ j:=Nat.mod_eq_of_lt (by rw [Nat.div_lt_iff_lt_mul (Nat.pow_pos (by omega)),Nat.mul_comm,←Nat.pow_succ];exact HJ.out)
      rw [hdj] at c0
      have e1:((j:Int)+1-1).toNat=j:=by omega
      have e2:(j:Int)+1-1=(j:Int):=by omega
      have lo:decide ((j:Int)<0)=false:=decide_eq_false (by omega)
      have hi':decide ((j:Int)+1≤(j:Int))=false:=decide_eq_false (by omega)
      have p1:decide ((0:Int)<(j:Int)+1)=true:=decide_eq_true (by omega)
      clear hdj
      by_cases hz:k<10 ^ j
      ·rw [Nat.div_eq_of_lt hz] at c0
       have HZ:=Lib.hid hz
       clear hz
       go_wp2_with fail
       go_roundw
       case rel=>exact ⟨j,by omega,rfl,HZ,hB,hwx⟩
       case measure=>simp [slLen]
      ·have hne:0<k / 10 ^ j:=Nat.div_pos (by omega) (Nat.pow_pos (by omega))
       have hlt9:k / 10 ^ j<10:=by rw [Nat.div_lt_iff_lt_mul (Nat.pow_pos (by omega)),Nat.mul_comm,←Nat.pow_succ];exact HJ.out
       have HDR:=Lib.hid (lowD_rev j k (by omega) HJ.out)
       have HRV:=Lib.hid (rev_c wr (g:=g) (n:=j+1) (c:=c3) (bs:=lowD (j+1) k) hB (lowD_len _ _) (fun p b hp=>by
        have hp1:p<j+1:=by have:=(List.getElem?_eq_some_iff.1 hp).1;rwa [lowD_len] at this
        rw [lowD_get hp1] at hp
        cases hp
        exact HC.out p (by omega)) (by omega))
       generalize k / 10 ^ j=dg at*
       have q1:(((48+dg:Nat):Int)==48)=false:=by simp;omega
       have q2:((48+(dg:Int))==48)=false:=by simp;omega
       have q3:((j:Int)+1==0)=false:=by simp;omega
       clear hz
       go_wp2_with fail
       refine HRV.out.mono ?_
       rintro e V ⟨rfl,cur',hB',hcur',hbV⟩
       have hcv:=run_cv (cap:=c3) V hB' hcur' HDR.out
       have hwV:Below w.heap.size w V:=hwx.trans (hbV.mono (Nat.le_trans hbW.size HGB.out))
       go_wp2_with fail
       go_ret
       exact ⟨rfl,hwV⟩
end
end Go.Proofs.YtnegdhjdienjlaaGreatDoor
