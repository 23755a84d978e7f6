import Derived.Test.YtefdjbknmfeooaaGreatDoorGO14
import Derived.Test.YtefdjbknmfeooaaGreatDoorGO13
import Derived.RangeFuncBound
import Derived.RangeFuncCalls
import Derived.Shelf.Abstract
import Derived.WalkKit
import Derived.OwnWalkIn
import Derived.TacticsInMore
import Derived.LoopNIn
import Derived.LoopIn
import Derived.Test.YtefdjbknmfeooaaGreatDoorGO5
import Derived.Test.YtefdjbknmfeooaaGreatDoorGO6
import Derived.IntWalk
import Derived.Shelf.Strings.Builder1
import Derived.Shelf.Strings.OnBuilder
import Derived.Shelf.Strconv.Itoa0
import Derived.Shelf.Strconv.Itoa1
import Derived.Shelf.LaysM
import Derived.Shelf.Strconv.Itoa2
import Derived.Shelf.Strconv.Itoa3
import Derived.Shelf.Strings.Repeat
import Derived.Ground.Names2Prog
import Derived.Shelf.Slices.ReverseS
import Derived.Shelf.Slices.Cells
import Derived.Test.YtefdjbknmfeooaaGreatDoorProg
import Derived.Lib.Builder
import Derived.Laws.Externs
import Derived.Lib.Bytealg
import Derived.Lib.AppendIntMem
import Derived.Lib.AtoiErrMem
set_option linter.all false
set_option maxRecDepth 100000
set_option maxHeartbeats 4000000
namespace Go.Proofs.YtefdjbknmfeooaaGreatDoor
open Go.RowKit
theorem sl_cells{W:World}{ok:Nat→Nat→Prop}{k:Nat}{es:List (List AV)}{v1:Value}(h:RepT W ok (.mem [.sl k es]) v1):
  ∃(b1 o1:Nat) (ad:Option Addr) (c:Nat),v1=.pointer (some ⟨b1,o1,none⟩)∧ok b1 o1∧W.cell? ⟨b1,o1,none⟩=some (.slice ad es.length c)∧
   ((ad=none∧es=[])∨(es=[]∧True)∨∃b o,ad=some ⟨b,o,none⟩∧(∀e∈es,e.length=k)∧es.length≤c∧∀(i j:Nat) (e:List AV) (d:AV),es[i]?=some e→e[j]?=some d→ok b (o+i*k+j)∧∃u,W.cell? ⟨b,o+i*k+j,none⟩=some u∧RepT W ok d u):=by
 cases h with
 | mem hm h=>
   rename_i b1 o1
   obtain ⟨h1,h2⟩:=hm 0 _ rfl
   have h3:=h 0 _ rfl
   obtain ⟨u,hu⟩:=Option.isSome_iff_exists.1 h2
   rw [hu] at h3
   rw [Nat.add_zero] at hu h1
   simp only [Option.getD_some] at h3
   cases h3 with
   | nil a c=>exact ⟨b1,o1,a,c,rfl,h1,hu,.inr (.inl ⟨rfl,trivial⟩)⟩
   | sl hk hc hm2 hh=>
     rename_i b o c
     refine ⟨b1,o1,_,c,rfl,h1,hu,.inr (.inr ⟨b,o,rfl,hk,hc,fun i j e d h4 h5=>?_⟩)⟩
     obtain ⟨h6,h7⟩:=hm2 i j e d h4 h5
     obtain ⟨w,hw⟩:=Option.isSome_iff_exists.1 h7
     have h8:=hh i j e d h4 h5
     rw [hw] at h8
     exact ⟨h6,w,hw,h8⟩
attribute [local go_sem] Oper.semAt_some in
theorem back_96:BackCon Tryz.prog 96 22:=by
 refine ⟨enters_of Tryz.func96 (by kernel_rfl) rfl,fun e ag k y z hel ok es v1 l W J hlen hrep hJ hY h0=>?_⟩
 rw [el22] at hel
 cases hel
 obtain ⟨b1,o1,ad,c,rfl,hok1,hc1,hcs⟩:=sl_cells hrep
 have hin:∀i el wr,es[i]?=some el→Keeps ok W wr→∃b o d u0 u1 u2 u3,ad=some ⟨b,o,none⟩∧es.length≤c∧grab true 4 el=some d∧wr.cell? ⟨b,o+i*4,none⟩=some u0∧wr.cell? ⟨b,o+i*4+1,none⟩=some u1∧wr.cell? ⟨b,o+i*4+2,none⟩=some u2∧wr.cell? ⟨b,o+i*4+3,none⟩=some u3∧RepT wr ok d (.agg #[u0,u1,u2,u3]):=by
  intro i el wr hel hk
  have hne:es≠[]:=fun e=>by rw [e] at hel;simp at hel
  rcases hcs with ⟨_,e⟩|⟨e,_⟩|⟨b,o,e,hl,hcap,hcell⟩
  ·exact absurd e hne
  ·exact absurd e hne
  have hk4:=hl el (List.mem_of_getElem? hel)
  have get:∀j,j<4→∃d u,el[j]?=some d∧wr.cell? ⟨b,o+i*4+j,none⟩=some u∧RepT wr ok d u:=fun j hj=>by
   obtain ⟨h1,u,h2,h3⟩:=hcell i j el el[j] hel (List.getElem?_eq_getElem (by omega))
   exact ⟨_,u,List.getElem?_eq_getElem (by omega),hk _ _ _ h1 h2,h3.mono hk (fun _ _ _ h _=>h)⟩
  obtain ⟨d0,u0,e0,c0,r0⟩:=get 0 (by omega)
  obtain ⟨d1,u1,e1,c1,r1⟩:=get 1 (by omega)
  obtain ⟨d2,u2,e2,c2,r2⟩:=get 2 (by omega)
  obtain ⟨d3,u3,e3,c3,r3⟩:=get 3 (by omega)
  refine ⟨b,o,.agg (el.take 4),u0,u1,u2,u3,e,hcap,by unfold grab;rw [if_pos rfl,if_pos (by omega)],c0,c1,c2,c3,.agg (by rw [List.length_take];simp;omega) fun j d hj=>?_⟩
  rw [List.getElem?_take] at hj
  split at hj
  ·rename_i hj4
   have:j=0∨j=1∨j=2∨j=3:=by omega
   rcases this with rfl|rfl|rfl|rfl
   ·rw [e0] at hj;cases hj;exact r0
   ·rw [e1] at hj;cases hj;exact r1
   ·rw [e2] at hj;cases hj;exact r2
   ·rw [e3] at hj;cases hj;exact r3
  ·cases hj
 clear hcs
 refine callsIn_of_wp Tryz.func96 rfl trivial ?_ rfl
 simp only [Tryz.ntmps96,List.size_toArray,List.length_cons,List.length_nil,Nat.reduceAdd,Nat.reduceSub,Array.replicate_succ,Array.replicate_zero,List.push_toArray,List.append_toArray,List.nil_append,List.cons_append]
 gi_wp2
 gi_loopw [3] (fun i wr=>∃m:Nat,m≤es.length∧i=.int .i64 ((m:Int)-1)∧J m wr∧Keeps ok W wr) (fun i _=>(intOf i+1).toNat)
 case atStart=>exact ⟨es.length,Nat.le_refl _,rfl,h0,fun _ _ _ _ h=>h⟩
 case round=>
  obtain ⟨m,hm,rfl,hJs,hkp⟩:=hrel
  have hcw:=hkp _ _ _ hok1 hc1
  cases m with
  | zero=>
    gi_wp2
    go_end0
    exact ⟨⟨_,rfl⟩,hJs⟩
  | succ i=>
    obtain ⟨el,hel⟩:∃el,es[i]?=some el:=⟨_,List.getElem?_eq_getElem (by omega)⟩
    obtain ⟨b,o,d,u0,u1,u2,u3,rfl,hcap,hd,c0,c1,c2,c3,hr⟩:=hin i el wr hel hkp
    obtain ⟨fn,tmps,assign,body,hy,hR⟩:=hY i el d _ wr hel hd hJs hr
    have e1:((i+1:Nat):Int)-1=(i:Int):=by omega
    rw [e1]
    gi_wp2
    refine ⟨rfl,hR.mono ?_⟩
    rintro e W3 ⟨rfl,hJ3,hk3⟩
    gi_wp2
    go_roundw
    ·exact ⟨_,_,_,_,_,_,_,_,_,_,_,_,_,⟨i,by omega,rfl,hJ3,hkp.trans hk3⟩,rfl⟩
    ·simp [intOf]
attribute [local go_sem] Oper.semAt_some in
theorem back_97:BackCon Tryz.prog 97 41:=by
 refine ⟨enters_of Tryz.func97 (by kernel_rfl) rfl,fun e ag k y z hel ok es v1 l W J hlen hrep hJ hY h0=>?_⟩
 rw [el41] at hel
 cases hel
 obtain ⟨b1,o1,ad,c,rfl,hok1,hc1,hcs⟩:=sl_cells hrep
 have hin:∀i el wr,es[i]?=some el→Keeps ok W wr→∃b o d u0,ad=some ⟨b,o,none⟩∧es.length≤c∧grab false 1 el=some d∧wr.cell? ⟨b,o+i,none⟩=some u0∧RepT wr ok d (u0):=by
  intro i el wr hel hk
  have hne:es≠[]:=fun e=>by rw [e] at hel;simp at hel
  rcases hcs with ⟨_,e⟩|⟨e,_⟩|⟨b,o,e,hl,hcap,hcell⟩
  ·exact absurd e hne
  ·exact absurd e hne
  have hk4:=hl el (List.mem_of_getElem? hel)
  have get:∀j,j<1→∃d u,el[j]?=some d∧wr.cell? ⟨b,o+i*1+j,none⟩=some u∧RepT wr ok d u:=fun j hj=>by
   obtain ⟨h1,u,h2,h3⟩:=hcell i j el el[j] hel (List.getElem?_eq_getElem (by omega))
   exact ⟨_,u,List.getElem?_eq_getElem (by omega),hk _ _ _ h1 h2,h3.mono hk (fun _ _ _ h _=>h)⟩
  obtain ⟨d0,u0,e0,c0,r0⟩:=get 0 (by omega)
  refine ⟨b,o,d0,u0,e,hcap,?_,?_,r0⟩
  ·unfold grab
   rw [if_neg (by simp),List.head?_eq_getElem?];exact e0
  ·rw [Nat.mul_one,Nat.add_zero] at c0;exact c0
 clear hcs
 refine callsIn_of_wp Tryz.func97 rfl trivial ?_ rfl
 simp only [Tryz.ntmps97,List.size_toArray,List.length_cons,List.length_nil,Nat.reduceAdd,Nat.reduceSub,Array.replicate_succ,Array.replicate_zero,List.push_toArray,List.append_toArray,List.nil_append,List.cons_append]
 gi_wp2
 gi_loopw [3] (fun i wr=>∃m:Nat,m≤es.length∧i=.int .i64 ((m:Int)-1)∧J m wr∧Keeps ok W wr) (fun i _=>(intOf i+1).toNat)
 case atStart=>exact ⟨es.length,Nat.le_refl _,rfl,h0,fun _ _ _ _ h=>h⟩
 case round=>
  obtain ⟨m,hm,rfl,hJs,hkp⟩:=hrel
  have hcw:=hkp _ _ _ hok1 hc1
  cases m with
  | zero=>
    gi_wp2
    go_end0
    exact ⟨⟨_,rfl⟩,hJs⟩
  | succ i=>
    obtain ⟨el,hel⟩:∃el,es[i]?=some el:=⟨_,List.getElem?_eq_getElem (by omega)⟩
    obtain ⟨b,o,d,u0,rfl,hcap,hd,c0,hr⟩:=hin i el wr hel hkp
    obtain ⟨fn,tmps,assign,body,hy,hR⟩:=hY i el d _ wr hel hd hJs hr
    have e1:((i+1:Nat):Int)-1=(i:Int):=by omega
    rw [e1]
    gi_wp2
    refine ⟨rfl,hR.mono ?_⟩
    rintro e W3 ⟨rfl,hJ3,hk3⟩
    gi_wp2
    go_roundw
    ·exact ⟨_,_,_,_,_,_,_,_,_,_,_,_,_,⟨i,by omega,rfl,hJ3,hkp.trans hk3⟩,rfl⟩
    ·simp [intOf]
theorem back_all:∀f t,backL.lookup f=some t→BackCon Tryz.prog f t:=fun f t h=>by
 unfold backL at h
 simp only [List.lookup] at h
 split at h
 ·rename_i e;cases h;obtain rfl:f=96:=by simpa using e
  exact back_96
 split at h
 ·rename_i e;cases h;obtain rfl:f=97:=by simpa using e
  exact back_97
 cases h
theorem mixed:MixOk Tryz.prog:=⟨by kernel_rfl,back_all⟩
end Go.Proofs.YtefdjbknmfeooaaGreatDoor
namespace Go.Proofs.YtefdjbknmfeooaaGreatDoor
open Go.RowKit
def natA(l:List Nat):AV:=.sl 1 (l.map fun (x:Nat)=>[.lit (.int .u32 (x:Int))])
structure Raw where
 s:Bool
 l1:List Nat
 l2:List Nat
 deriving DecidableEq
def Raw.q(r:Raw):Rat:=sv r.s r.l1 r.l2
def Raw.av(r:Raw):AV:=.agg [.lit (.bool r.s),natA r.l1,natA r.l2]
def rawQ(q:Rat):Raw:=⟨decide (q.num<0),lmb q.num.natAbs,dlmb q.den⟩
def ratA(q:Rat):AV:=(rawQ q).av
def limb1:List AV→Option Nat
 | [.lit (.int .u32 z)]=>if 0≤z∧z<4294967296 then some z.toNat else none
 | _=>none
def limbs:List (List AV)→Option (List Nat)
 | []=>some []
 | e::l=>match limb1 e,limbs l with
   | some x,some xs=>some (x::xs)
   | _,_=>none
def decN:AV→Option (List Nat)
 | .sl 1 es=>limbs es
 | .nl _=>some []
 | .lit (.slice none 0 0)=>some []
 | _=>none
def decR:AV→Option Raw
 | .agg [.lit (.bool s),a,b]=>match decN a,decN b with
   | some l1,some l2=>some ⟨s,l1,l2⟩
   | _,_=>none
 | _=>none
theorem limbs_map{l:List Nat}(h:Lim l):limbs (l.map fun (x:Nat)=>[.lit (.int .u32 (x:Int))])=some l:=by
 induction l with
 | nil=>rfl
 | cons x l ih=>
   have hx:=lim_head h
   have e:limb1 [.lit (.int .u32 (x:Int))]=some x:=by
    unfold limb1
    dsimp only
    rw [if_pos ⟨by omega,by omega⟩,Int.toNat_natCast]
   rw [List.map_cons,limbs,e,ih (lim_tail h)]
theorem decN_nat{l:List Nat}(h:Lim l):decN (natA l)=some l:=limbs_map h
theorem decR_av{r:Raw}(h1:Lim r.l1)(h2:Lim r.l2):decR r.av=some r:=by
 simp only [Raw.av,decR,decN_nat h1,decN_nat h2]
theorem lim_dlmb(d:Nat):Lim (dlmb d):=by unfold dlmb;split;exact lim_nil;exact lim_lmb d
theorem decR_rat(q:Rat):decR (ratA q)=some (rawQ q):=decR_av (lim_lmb _) (lim_dlmb _)
theorem rawQ_q(q:Rat):(rawQ q).q=q:=by
 have h:RatC (default:World) (rawQ q).s none (rawQ q).l1.length (rawQ q).l1.length none (rawQ q).l2.length (rawQ q).l2.length q→(rawQ q).q=q:=fun h=>h.sv_
 unfold Raw.q rawQ sv
 dsimp only
 rw [val_lmb]
 have e:dn (dlmb q.den)=q.den:=dn_dlmb q.den_pos
 rw [e]
 have e2:sgi (decide (q.num<0)) q.num.natAbs=q.num:=by
  unfold sgi
  by_cases h:q.num<0
  ·simp [h];omega
  ·simp [h];omega
 rw [e2,Rat.mkRat_self]
section
variable {w : World} {ok : Nat → Nat → Prop}
theorem limbs_cells{es:List (List AV)}{l:List Nat}(h:limbs es=some l):es.length=l.length∧Lim l∧∀(i:Nat) (x:Nat),l[i]?=some x→es[i]?=some [.lit (.int .u32 (x:Int))]:=by
 induction es generalizing l with
 | nil=>simp [limbs] at h;subst h;exact ⟨rfl,lim_nil,fun i x h=>by simp at h⟩
 | cons e es ih=>
   simp only [limbs] at h
   split at h
   ·rename_i x xs h1 h2
    cases h
    obtain ⟨h3,h4,h5⟩:=ih h2
    unfold limb1 at h1
    split at h1
    ·rename_i z
     split at h1
     ·rename_i hz
      cases h1
      refine ⟨by simp [h3],lim_cons (by omega) h4,fun i x hi=>?_⟩
      cases i with
      | zero=>
        simp at hi
        subst hi
        simp [Int.toNat_of_nonneg hz.1]
      | succ i=>simpa using h5 i x (by simpa using hi)
     ·cases h1
    ·cases h1
   ·cases h
theorem decN_sound{d:AV}{l:List Nat}{v:Value}(h:RepT w ok d v)(hd:decN d=some l):∃a n c,v=.slice a n c∧LimR w a n c l:=by
 unfold decN at hd
 split at hd
 ·rename_i es
  obtain ⟨h1,h2,h3⟩:=limbs_cells hd
  cases h with
  | nil a c=>
    have:l=[]:=List.eq_nil_of_length_eq_zero h1.symm
    subst this
    exact ⟨a,0,c,rfl,LimR.nil w a c⟩
  | sl hk hc hm hh=>
    rename_i b o c
    refine ⟨_,_,c,rfl,h1.symm,hc,h2,fun h0=>?_⟩
    have cell:∀i,i<es.length→w.cell? ⟨b,o+i,none⟩=some (.int .u32 (l.getD i 0:Nat)):=fun i hi=>by
     have hil:i<l.length:=by omega
     have hx:l[i]?=some l[i]:=List.getElem?_eq_getElem hil
     have h4:=h3 i _ hx
     have h5:=hm i 0 _ _ h4 rfl
     have h6:=hh i 0 _ _ h4 rfl
     obtain ⟨u,hu⟩:=Option.isSome_iff_exists.1 h5.2
     rw [hu] at h6
     simp only [Nat.mul_one,Nat.add_zero] at hu
     cases h6
     rw [hu]
     simp [List.getD_eq_getElem?_getD,hx]
    exact ⟨b,o,rfl,cell_lt (cell 0 h0),cell⟩
 ·cases hd
  cases h with
  | nl k=>exact ⟨_,_,_,rfl,LimR.nil w _ _⟩
 ·cases hd
  cases h with
  | lit v=>exact ⟨_,_,_,rfl,LimR.nil w _ _⟩
 ·cases hd
theorem decR_sound{d:AV}{r:Raw}{v:Value}(h:RepT w ok d v)(hd:decR d=some r):∃a1 n1 c1 a2 n2 c2,v=.agg #[.bool r.s,.slice a1 n1 c1,.slice a2 n2 c2]∧LimR w a1 n1 c1 r.l1∧LimR w a2 n2 c2 r.l2:=by
 unfold decR at hd
 split at hd
 ·rename_i s a b
  split at hd
  ·rename_i l1 l2 h1 h2
   cases hd
   cases h with
   | agg hn hh=>
     rename_i vs
     have g0:=hh 0 _ rfl
     have g1:=hh 1 _ rfl
     have g2:=hh 2 _ rfl
     obtain ⟨a1,n1,c1,e1,k1⟩:=decN_sound g1 h1
     obtain ⟨a2,n2,c2,e2,k2⟩:=decN_sound g2 h2
     refine ⟨a1,n1,c1,a2,n2,c2,?_,k1,k2⟩
     have e0:vs.getD 0 undef=.bool s:=by
      generalize vs.getD 0 undef=x at g0
      cases g0;rfl
     congr 1
     apply Array.ext
     ·simpa using hn
     ·intro i hi1 hi2
      have h9:i=0∨i=1∨i=2:=by simp at hi2;omega
      have gd:vs.getD i undef=vs[i]:=by rw [Array.getD_eq_getD_getElem?,Array.getElem?_eq_getElem hi1];rfl
      rcases h9 with rfl|rfl|rfl
      ·rw [←gd,e0];rfl
      ·rw [←gd,e1];rfl
      ·rw [←gd,e2];rfl
  ·cases hd
 ·cases hd
def okU(w:World)(b o:Nat):Prop:=∃z,w.cell? ⟨b,o,none⟩=some (.int .u32 z)
theorem natA_rep{a:Option Addr}{n c:Nat}{l:List Nat}(h:LimR w a n c l):RepT w (okU w) (natA l) (.slice a n c):=by
 have hl:=h.len
 subst hl
 by_cases h0:l=[]
 ·subst h0;exact .nil a c
 ·obtain ⟨b,o,rfl,hb,hc⟩:=h.cells (List.length_pos_iff.2 h0)
  have main:RepT w (okU w) (.sl 1 (l.map fun (x:Nat)=>[.lit (.int .u32 (x:Int))])) (.slice (some ⟨b,o,none⟩) (l.map fun (x:Nat)=>[AV.lit (.int .u32 (x:Int))]).length c):=by
   have cell:∀(i j:Nat) (e:List AV) (d:AV),(l.map fun (x:Nat)=>[AV.lit (.int .u32 (x:Int))])[i]?=some e→e[j]?=some d→∃z,d=.lit (.int .u32 z)∧w.cell? ⟨b,o+i*1+j,none⟩=some (.int .u32 z):=fun i j e d hi hj=>by
    rw [List.getElem?_map] at hi
    cases hx:l[i]? with
    | none=>rw [hx] at hi;cases hi
    | some x=>
      rw [hx] at hi
      cases hi
      have hlt:=(List.getElem?_eq_some_iff.1 hx).1
      have hj0:j=0:=by have:=(List.getElem?_eq_some_iff.1 hj).1;simp at this;omega
      subst hj0
      simp at hj
      refine ⟨x,hj.symm,?_⟩
      rw [Nat.mul_one,Nat.add_zero,hc i hlt]
      simp [List.getD_eq_getElem?_getD,hx]
   refine .sl (fun e he=>?_) (by simpa using h.cap) (fun i j e d hi hj=>?_) (fun i j e d hi hj=>?_)
   ·obtain ⟨x,_,rfl⟩:=List.mem_map.1 he;rfl
   ·obtain ⟨z,_,h3⟩:=cell i j e d hi hj
    exact ⟨⟨z,h3⟩,by rw [h3];rfl⟩
   ·obtain ⟨z,rfl,h3⟩:=cell i j e d hi hj
    rw [h3];exact .lit _
  rw [List.length_map] at main
  exact main
theorem agg3_rep{d0 d1 d2:AV}{v0 v1 v2:Value}(h0:RepT w ok d0 v0)(h1:RepT w ok d1 v1)(h2:RepT w ok d2 v2):RepT w ok (.agg [d0,d1,d2]) (.agg #[v0,v1,v2]):=by
 refine .agg rfl fun i d hi=>?_
 match i,hi with
 | 0,hi=>cases hi;exact h0
 | 1,hi=>cases hi;exact h1
 | 2,hi=>cases hi;exact h2
 | i+3,hi=>simp at hi
theorem raw_rep{r:Raw}{a1 a2:Option Addr}{n1 c1 n2 c2:Nat}(h1:LimR w a1 n1 c1 r.l1)(h2:LimR w a2 n2 c2 r.l2):RepT w (okU w) r.av (.agg #[.bool r.s,.slice a1 n1 c1,.slice a2 n2 c2]):=agg3_rep (.lit _) (natA_rep h1) (natA_rep h2)
theorem ratC_rep{s:Bool}{a1 a2:Option Addr}{n1 c1 n2 c2:Nat}{q:Rat}(h:RatC w s a1 n1 c1 a2 n2 c2 q):RepT w (okU w) (ratA q) (.agg #[.bool s,.slice a1 n1 c1,.slice a2 n2 c2]):=by
 have e:s=(rawQ q).s:=h.sign.out
 rw [e]
 exact raw_rep (r:=rawQ q) h.num h.den
theorem okU_okN{w':World}{d:AV}{v:Value}(h:RepT w' (okU w') d v):RepT w' (okN ok w w') d v:=h.mono (fun _ _ _ _ h=>h) fun b o _ h1 _=>.inr (.inr h1)
end
def Raw.few(r:Raw):Bool:=Nat.ble r.l1.length 17179869184 && Nat.ble r.l2.length 17179869184
theorem Raw.few_parts{r:Raw}(h:r.few=true):r.l1.length≤17179869184∧r.l2.length≤17179869184:=by
 unfold Raw.few at h
 rw [Bool.and_eq_true] at h
 exact ⟨Nat.le_of_ble_eq_true h.1,Nat.le_of_ble_eq_true h.2⟩
def o1(F:Raw→AV):List AV→Option AV
 | [a]=>match decR a with
   | some x=>if x.few then some (F x) else none
   | none=>none
 | _=>none
def o2(F:Raw→Raw→AV):List AV→Option AV
 | [a,b]=>match decR a,decR b with
   | some x,some y=>if x.few && y.few then some (F x y) else none
   | _,_=>none
 | _=>none
def Ret(d:AV)(w:World)(e:Ending)(w':World):Prop:=∃v,e=.returned v∧RepT w' (okU w') d v∧Below w.heap.size w w'
theorem RetR.ret{q:Rat}{w w':World}{e:Ending}(h:RetR q w e w'):Ret (ratA q) w e w':=by
 obtain ⟨s,a1,n1,c1,a2,n2,c2,rfl,h1,h2⟩:=h
 exact ⟨_,rfl,ratC_rep h1,h2⟩
theorem RetInt.ret{z:Int}{w w':World}{e:Ending}(h:RetInt z w e w'):Ret (.lit (.int .i64 z)) w e w':=⟨_,h.1,.lit _,h.2⟩
theorem RetB.ret{b:Bool}{w w':World}{e:Ending}(h:RetB b w e w'):Ret (.lit (.bool b)) w e w':=⟨_,h.1,.lit _,h.2⟩
theorem rv_list1{R:AV→Value→Prop}{a:AV}{vs:Array Value}(h:RV R [a] vs.toList):∃v,vs=#[v]∧R a v:=by
 obtain ⟨h1,h2⟩:=h
 obtain ⟨u,h3,h4⟩:=h2 0 a rfl
 refine ⟨u,?_,h4⟩
 apply Array.toList_inj.1
 match hv:vs.toList,h1 with
 | [x],_=>rw [hv] at h3;simp at h3;rw [h3]
theorem rv_list2{R:AV→Value→Prop}{a b:AV}{vs:Array Value}(h:RV R [a,b] vs.toList):∃v u,vs=#[v,u]∧R a v∧R b u:=by
 obtain ⟨h1,h2⟩:=h
 obtain ⟨u,h3,h4⟩:=h2 0 a rfl
 obtain ⟨u',h5,h6⟩:=h2 1 b rfl
 refine ⟨u,u',?_,h4,h6⟩
 apply Array.toList_inj.1
 match hv:vs.toList,h1 with
 | [x,y],_=>rw [hv] at h3 h5;simp at h3 h5;rw [h3,h5]
section
variable {P : Program} {f : FuncId}
theorem con_ret{args:List AV}{r:AV}(h:∀(w:World) (ok:Nat→Nat→Prop) (vs:Array Value),RV (RepT w ok) args vs.toList→Calls P f vs w (Ret r w)):Con P f args r:=fun w ok vs _ hv=>
 (h w ok vs hv).mono fun _ _ ⟨v,he,h1,h2⟩=>⟨v,he,okU_okN h1,h2⟩
theorem con1{F:Raw→AV}(h:∀(w:World) (x:Raw) (a1 a2:Option Addr) (n1 c1 n2 c2:Nat),LimR w a1 n1 c1 x.l1→LimR w a2 n2 c2 x.l2→n1≤17179869184→n2≤17179869184→Calls P f #[.agg #[.bool x.s,.slice a1 n1 c1,.slice a2 n2 c2]] w (Ret (F x) w)):
  ∀args r,o1 F args=some r→Con P f args r:=by
 intro args r hr
 unfold o1 at hr
 split at hr
 ·rename_i a
  split at hr
  ·rename_i x hx
   split at hr
   ·rename_i hfew
    cases hr
    obtain ⟨f1,f2⟩:=Raw.few_parts hfew
    refine con_ret fun w ok vs hv=>?_
    obtain ⟨v,rfl,hv1⟩:=rv_list1 hv
    obtain ⟨a1,n1,c1,a2,n2,c2,rfl,h1,h2⟩:=decR_sound hv1 hx
    exact h w x a1 a2 n1 c1 n2 c2 h1 h2 (by rw [←h1.len];exact f1) (by rw [←h2.len];exact f2)
   ·cases hr
  ·cases hr
 ·cases hr
theorem con2 {F:Raw→Raw→AV} (h:∀(w:World) (x y:Raw) (a1 a2 a3 a4:Option Addr) (n1 c1 n2 c2 n3 c3 n4 c4:Nat),LimR w a1 n1 c1 x.l1→LimR w a2 n2 c2 x.l2→LimR w a3 n3 c3 y.l1→LimR w a4 n4 c4 y.l2→n1≤17179869184→n2≤17179869184→n3≤17179869184→n4≤17179869184→
   Calls P f #[.agg #[.bool x.s,.slice a1 n1 c1,.slice a2 n2 c2],.agg #[.bool y.s,.slice a3 n3 c3,.slice a4 n4 c4]] w (Ret (F x y) w)):
  ∀args r,o2 F args=some r→Con P f args r:=by
 intro args r hr
 unfold o2 at hr
 split at hr
 ·rename_i a b
  split at hr
  ·rename_i x y hx hy
   split at hr
   ·rename_i hfew
    cases hr
    rw [Bool.and_eq_true] at hfew
    obtain ⟨f1,f2⟩:=Raw.few_parts hfew.1
    obtain ⟨f3,f4⟩:=Raw.few_parts hfew.2
    refine con_ret fun w ok vs hv=>?_
    obtain ⟨v,u,rfl,hv1,hv2⟩:=rv_list2 hv
    obtain ⟨a1,n1,c1,a2,n2,c2,rfl,h1,h2⟩:=decR_sound hv1 hx
    obtain ⟨a3,n3,c3,a4,n4,c4,rfl,h3,h4⟩:=decR_sound hv2 hy
    exact h w x y a1 a2 a3 a4 n1 c1 n2 c2 n3 c3 n4 c4 h1 h2 h3 h4 (by rw [←h1.len];exact f1) (by rw [←h2.len];exact f2) (by rw [←h3.len];exact f3) (by rw [←h4.len];exact f4)
   ·cases hr
  ·cases hr
 ·cases hr
end
def oZ(F:Int→AV):List AV→Option AV
 | [.lit (.int .i64 z)]=>if -9223372036854775808≤z∧z≤9223372036854775807 then some (F z) else none
 | _=>none
def oZZ(F:Int→Int→AV):List AV→Option AV
 | [.lit (.int .i64 x),.lit (.int .i64 y)]=>if (-9223372036854775808≤x∧x≤9223372036854775807)∧(-9223372036854775808≤y∧y≤9223372036854775807)∧y≠0 then some (F x y) else none
 | _=>none
end Go.Proofs.YtefdjbknmfeooaaGreatDoor
set_option linter.all false
namespace Go.Proofs.YtefdjbknmfeooaaGreatDoor
open Go.RowKit
theorem wr64{x:Int}(h0:-9223372036854775808≤x)(h1:x≤9223372036854775807):IntKind.i64.wrap x=x:=IntWalk.i64_in _ ⟨h0,h1⟩
def bytesA(bs:List Int):AV:=.sl 1 (bs.map fun x=>[.lit (.int .u8 x)])
def noO:FuncId→Option Orc:=fun _=>none
def noL:Nat→List Nat:=fun _=>[]
structure Byt (bs:List Int):Prop where
 len:bs.length≤1048576
 val:∀x∈bs,0≤x∧x<256
end Go.Proofs.YtefdjbknmfeooaaGreatDoor
set_option linter.all false
namespace Go.Proofs.YtefdjbknmfeooaaGreatDoor
open Go.RowKit
def ext(O:FuncId→Option Orc)(f:FuncId)(x:Orc)(g:FuncId):Option Orc:=if g=f then some x else O g
section
variable {P : Program} {O : FuncId → Option Orc} {f : FuncId}
theorem OrcOk.none:OrcOk P noO:=⟨fun f g h=>(by cases h),fun f ms g h=>(by cases h)⟩
theorem OrcOk.extP(h:OrcOk P O)(hp:plainF P f=true){g:List AV→Option AV}(hc:∀args r,g args=some r→Con P f args r):OrcOk P (ext O f (.pure g)):=by
 refine ⟨fun f' g' h'=>?_,fun f' ms g' h'=>?_⟩
 ·unfold ext at h'
  split at h'
  ·rename_i e;subst e;cases h';exact ⟨hp,hc⟩
  ·exact h.pure f' g' h'
 ·unfold ext at h'
  split at h'
  ·cases h'
  ·exact h.lin f' ms g' h'
theorem OrcOk.extL(h:OrcOk P O)(hp:plainF P f=true){ms:List Bool}{g:List AV→List AB→Option (AV × List (Nat × AB))}(hc:∀bin args r outs,g args bin=some (r,outs)→ConL P f bin args r outs):OrcOk P (ext O f (.lin ms g)):=by
 refine ⟨fun f' g' h'=>?_,fun f' ms' g' h'=>?_⟩
 ·unfold ext at h'
  split at h'
  ·cases h'
  ·exact h.pure f' g' h'
 ·unfold ext at h'
  split at h'
  ·rename_i e;subst e;cases h';exact ⟨hp,hc⟩
  ·exact h.lin f' ms' g' h'
noncomputable def fnP(P:Program)(O:FuncId→Option Orc)(lives:Nat→List Nat)(fuel:Nat)(fn:Func):List AV→Option AV:=absFn P O lives fuel fn.ntmps fn.results.toList (bodyOf fn)
noncomputable def fnL(P:Program)(O:FuncId→Option Orc)(lives:Nat→List Nat)(fuel:Nat)(fn:Func)(keep:Bool):List AV→List AB→Option (AV × List (Nat × AB)):=absL P O lives fuel fn.ntmps fn.results.toList (bodyOf fn) keep
theorem body_some{fn:Func}(h:plainF P f=true)(hf:P.funcs[f]?=some fn):fn.body=some (bodyOf fn):=by
 unfold plainF at h
 rw [hf] at h
 simp only [Bool.and_eq_true] at h
 obtain ⟨c,hc⟩:=Option.isSome_iff_exists.1 h.2
 simp [bodyOf,hc]
end
theorem RetMk.ret{q:Rat}{w w':World}{e:Ending}(h:RetMk q w e w'):Ret (.tup [ratA q,.lit (.int .i64 0)]) w e w':=by
 obtain ⟨s,a1,n1,c1,a2,n2,c2,rfl,h1,h2⟩:=h
 refine ⟨_,rfl,.tup rfl fun i d hi=>?_,h2⟩
 match i,hi with
 | 0,hi=>cases hi;exact ratC_rep h1
 | 1,hi=>cases hi;exact .lit _
 | i+2,hi=>simp at hi
theorem con_of_z:∀args r,oZ (fun z=>ratA (z:Rat)) args=some r→Con Tryz.prog 32 args r:=fun args r hr=>by
 unfold oZ at hr
 split at hr
 ·rename_i z
  split at hr
  ·rename_i hz
   cases hr
   refine con_ret fun w ok vs hv=>?_
   obtain ⟨v,rfl,hv1⟩:=rv_list1 hv
   cases hv1
   exact (frof_any w z hz.1 hz.2).mono fun _ _ h=>h.ret
  ·cases hr
 ·cases hr
@[simp] theorem natA_cellsOf(l:List Nat):(natA l).cellsOf=some [natA l]:=rfl
@[simp] theorem natA_notU(l:List Nat):(natA l).notU=true:=rfl
@[simp] theorem natA_isT(l:List Nat):(natA l).isT=true:=rfl
@[simp] theorem natA_refs(l:List Nat):(natA l).refs=[]:=rfl
@[simp] theorem natA_ren(ρ:Nat→Option Nat)(l:List Nat):(natA l).ren ρ=natA l:=rfl
@[simp] theorem natA_res(n:Nat)(l:List Nat)(k:AV→List Nat→Tr):res n (natA l) k=k (natA l) []:=by cases n <;>rfl
@[simp] theorem natA_resN(n:Nat)(l:List Nat)(k:AV→List Nat→Tr):resN n (natA l) k=k (natA l) []:=by cases n <;>rfl
@[simp] theorem natA_resA(n:Nat)(l:List Nat)(cs acc:List AV)(fa:List Nat)(k:List AV→List Nat→Tr):resA (res n) (natA l::cs) acc fa k=resA (res n) cs (acc++[natA l]) fa k:=resA_stay (fun k=>by cases n <;>rfl) _ _ _ _
@[simp] theorem natA_resAN(n:Nat)(l:List Nat)(cs acc:List AV)(fa:List Nat)(k:List AV→List Nat→Tr):resA (resN n) (natA l::cs) acc fa k=resA (resN n) cs (acc++[natA l]) fa k:=resA_stay (fun k=>by cases n <;>rfl) _ _ _ _
@[simp] theorem natA_lenT(P:Program)(t:TypeId)(l:List Nat):lenT P t (natA l)=if (elOf P t).isSome=true then some l.length else none:=by simp [natA,lenT]
@[simp] theorem natA_linC(l:List Nat)(cs:List AV)(i:Nat)(k:List AV→List Nat→List Nat→Tr):linC (natA l::cs) i k=linC cs i fun us ids fs=>k (natA l::us) ids fs:=rfl
@[simp] theorem natA_nz(l:List Nat):(natA l).nz=natA l:=rfl
end Go.Proofs.YtefdjbknmfeooaaGreatDoor
namespace Go.Proofs
open Go.Shelf
def Tryz.laysM171_ren:Go.Shelf.Ren:=⟨fun|171=>91|243=>116|246=>137|283=>157|284=>158|285=>159|286=>160|129=>167|317=>166|318=>168|319=>169|320=>170|337=>177|338=>178|n=>n,fun|3=>3|9=>9|2=>2|4=>4|171=>155|0=>0|53=>94|37=>98|5=>5|173=>158|212=>166|51=>114|20=>20|213=>167|46=>116|232=>175|233=>176|n=>n,fun|17=>0|18=>1|19=>2|n=>n⟩
theorem Tryz.laysM171:Go.Proofs.LaysM.n171 Tryz.prog Tryz.laysM171_ren:={
 mixed:=by kernel_rfl
 f129:=Tryz.func167.trans (congrArg some (by kernel_rfl))
 f171:=Tryz.func91.trans (congrArg some (by kernel_rfl))
 f243:=Tryz.func116.trans (congrArg some (by kernel_rfl))
 f246:=Tryz.func137.trans (congrArg some (by kernel_rfl))
 f283:=Tryz.func157.trans (congrArg some (by kernel_rfl))
 f284:=Tryz.func158.trans (congrArg some (by kernel_rfl))
 f285:=Tryz.func159.trans (congrArg some (by kernel_rfl))
 f286:=Tryz.func160.trans (congrArg some (by kernel_rfl))
 f317:=Tryz.func166.trans (congrArg some (by kernel_rfl))
 f318:=Tryz.func168.trans (congrArg some (by kernel_rfl))
 f319:=Tryz.func169.trans (congrArg some (by kernel_rfl))
 f320:=Tryz.func170.trans (congrArg some (by kernel_rfl))
 f337:=Tryz.func177.trans (congrArg some (by kernel_rfl))
 f338:=Tryz.func178.trans (congrArg some (by kernel_rfl))
 t0:=Tryz.underlying0
 a0:=Tryz.isAgg0
 z0:=Tryz.sizeOf0
 v0:=Tryz.zeroValue0
 t2:=Tryz.underlying2
 a2:=Tryz.isAgg2
 z2:=Tryz.sizeOf2
 v2:=Tryz.zeroValue2
 t3:=Tryz.underlying3
 a3:=Tryz.isAgg3
 z3:=Tryz.sizeOf3
 v3:=Tryz.zeroValue3
 t4:=Tryz.underlying4
 a4:=Tryz.isAgg4
 z4:=Tryz.sizeOf4
 v4:=Tryz.zeroValue4
 t5:=Tryz.underlying5
 a5:=Tryz.isAgg5
 z5:=Tryz.sizeOf5
 v5:=Tryz.zeroValue5
 t9:=Tryz.underlying9
 a9:=Tryz.isAgg9
 z9:=Tryz.sizeOf9
 v9:=Tryz.zeroValue9
 t20:=Tryz.underlying20
 a20:=Tryz.isAgg20
 z20:=Tryz.sizeOf20
 v20:=Tryz.zeroValue20
 t37:=Tryz.underlying98
 a37:=Tryz.isAgg98
 z37:=Tryz.sizeOf98
 v37:=Tryz.zeroValue98
 t46:=Tryz.underlying116
 a46:=Tryz.isAgg116
 z46:=Tryz.sizeOf116
 v46:=Tryz.zeroValue116
 t51:=Tryz.underlying114
 a51:=Tryz.isAgg114
 z51:=Tryz.sizeOf114
 v51:=Tryz.zeroValue114
 t53:=Tryz.underlying94
 a53:=Tryz.isAgg94
 z53:=Tryz.sizeOf94
 v53:=Tryz.zeroValue94
 t171:=Tryz.underlying155
 a171:=Tryz.isAgg155
 z171:=Tryz.sizeOf155
 v171:=Tryz.zeroValue155
 t173:=Tryz.underlying158
 a173:=Tryz.isAgg158
 z173:=Tryz.sizeOf158
 v173:=Tryz.zeroValue158
 t212:=Tryz.underlying166
 a212:=Tryz.isAgg166
 z212:=Tryz.sizeOf166
 v212:=Tryz.zeroValue166
 t213:=Tryz.underlying167
 a213:=Tryz.isAgg167
 z213:=Tryz.sizeOf167
 t232:=Tryz.underlying175
 a232:=Tryz.isAgg175
 z232:=Tryz.sizeOf175
 v232:=Tryz.zeroValue175
 t233:=Tryz.underlying176
 a233:=Tryz.isAgg176
 z233:=Tryz.sizeOf176
 v233:=Tryz.zeroValue176
 g17:=by kernel_rfl
 g18:=by kernel_rfl
 g19:=by kernel_rfl
 i0:=by kernel_rfl
 i2:=by kernel_rfl
 i3:=by kernel_rfl
 i4:=by kernel_rfl
 i5:=by kernel_rfl
 i9:=by kernel_rfl
 i20:=by kernel_rfl
 i37:=by kernel_rfl
 i46:=by kernel_rfl
 i51:=by kernel_rfl
 i53:=by kernel_rfl
 i171:=by kernel_rfl
 i173:=by kernel_rfl
 i212:=by kernel_rfl
 i232:=by kernel_rfl
 i233:=by kernel_rfl
 m17:=by kernel_rfl
 m18:=by kernel_rfl
 m19:=by kernel_rfl}
open Go.RowKit Go.Sort Go.Lib in
theorem Tryz.strconv_Itoa (n:Int) (h0:-9223372036854775808≤n) (h1:n≤9223372036854775807) (w:World) (htab:Lib.TabIs Tryz.prog w "internal/strconv.uint64pow10" .u64 Lib.pow10Tab):
  Calls Tryz.prog 91 #[.int .i64 n] w fun e w'=>e=.returned (.string ⟨(Lib.itoa n).toArray⟩)∧∃k os,w'=grow (w.drewN k) os:=Any.strconv_Itoa Tryz.laysM171 n h0 h1 w htab
def Tryz.lays105_ren:Go.Shelf.Ren:=⟨fun|105=>140|212=>162|99=>163|165=>164|166=>90|170=>89|169=>93|263=>171|264=>172|206=>173|240=>115|241=>174|276=>136|277=>179|n=>n,fun|9=>9|3=>3|4=>4|20=>20|0=>0|46=>116|109=>160|5=>5|72=>100|76=>104|51=>114|146=>170|53=>94|148=>172|70=>97|37=>98|75=>103|127=>130|164=>141|80=>109|n=>n,fun|n=>n⟩
theorem Tryz.lays105:Go.Proofs.Lays.n105 Tryz.prog Tryz.lays105_ren:={
 mixed:=by kernel_rfl
 f99:=Tryz.func163.trans (congrArg some (by kernel_rfl))
 f105:=Tryz.func140.trans (congrArg some (by kernel_rfl))
 f165:=Tryz.func164.trans (congrArg some (by kernel_rfl))
 f166:=Tryz.func90.trans (congrArg some (by kernel_rfl))
 f169:=Tryz.func93.trans (congrArg some (by kernel_rfl))
 f170:=Tryz.func89.trans (congrArg some (by kernel_rfl))
 f206:=Tryz.func173.trans (congrArg some (by kernel_rfl))
 f212:=Tryz.func162.trans (congrArg some (by kernel_rfl))
 f240:=Tryz.func115.trans (congrArg some (by kernel_rfl))
 f241:=Tryz.func174.trans (congrArg some (by kernel_rfl))
 f263:=Tryz.func171.trans (congrArg some (by kernel_rfl))
 f264:=Tryz.func172.trans (congrArg some (by kernel_rfl))
 f276:=Tryz.func136.trans (congrArg some (by kernel_rfl))
 f277:=Tryz.func179.trans (congrArg some (by kernel_rfl))
 t0:=Tryz.underlying0
 a0:=Tryz.isAgg0
 z0:=Tryz.sizeOf0
 v0:=Tryz.zeroValue0
 t3:=Tryz.underlying3
 a3:=Tryz.isAgg3
 z3:=Tryz.sizeOf3
 v3:=Tryz.zeroValue3
 t4:=Tryz.underlying4
 a4:=Tryz.isAgg4
 z4:=Tryz.sizeOf4
 v4:=Tryz.zeroValue4
 t5:=Tryz.underlying5
 a5:=Tryz.isAgg5
 z5:=Tryz.sizeOf5
 v5:=Tryz.zeroValue5
 t9:=Tryz.underlying9
 a9:=Tryz.isAgg9
 z9:=Tryz.sizeOf9
 v9:=Tryz.zeroValue9
 t20:=Tryz.underlying20
 a20:=Tryz.isAgg20
 z20:=Tryz.sizeOf20
 v20:=Tryz.zeroValue20
 t37:=Tryz.underlying98
 a37:=Tryz.isAgg98
 z37:=Tryz.sizeOf98
 v37:=Tryz.zeroValue98
 t46:=Tryz.underlying116
 a46:=Tryz.isAgg116
 z46:=Tryz.sizeOf116
 v46:=Tryz.zeroValue116
 t51:=Tryz.underlying114
 a51:=Tryz.isAgg114
 z51:=Tryz.sizeOf114
 v51:=Tryz.zeroValue114
 t53:=Tryz.underlying94
 a53:=Tryz.isAgg94
 z53:=Tryz.sizeOf94
 v53:=Tryz.zeroValue94
 t70:=Tryz.underlying97
 a70:=Tryz.isAgg97
 z70:=Tryz.sizeOf97
 v70:=Tryz.zeroValue97
 t72:=Tryz.underlying100
 a72:=Tryz.isAgg100
 z72:=Tryz.sizeOf100
 v72:=Tryz.zeroValue100
 t75:=Tryz.underlying103
 a75:=Tryz.isAgg103
 z75:=Tryz.sizeOf103
 v75:=Tryz.zeroValue103
 t76:=Tryz.underlying104
 a76:=Tryz.isAgg104
 z76:=Tryz.sizeOf104
 v76:=Tryz.zeroValue104
 t109:=Tryz.underlying160
 a109:=Tryz.isAgg160
 z109:=Tryz.sizeOf160
 v109:=Tryz.zeroValue160
 t127:=Tryz.underlying130
 a127:=Tryz.isAgg130
 z127:=Tryz.sizeOf130
 v127:=Tryz.zeroValue130
 t146:=Tryz.underlying170
 a146:=Tryz.isAgg170
 z146:=Tryz.sizeOf170
 v146:=Tryz.zeroValue170
 t148:=Tryz.underlying172
 a148:=Tryz.isAgg172
 z148:=Tryz.sizeOf172
 v148:=Tryz.zeroValue172
 t164:=Tryz.underlying141
 a164:=Tryz.isAgg141
 z164:=Tryz.sizeOf141
 v164:=Tryz.zeroValue141}
theorem Tryz.Builder_Extra_105:Builder.Extra Tryz.prog Tryz.lays105_ren:={
 sizeBuilder:=by kernel_rfl
 liesBuilder:=by kernel_rfl
 t5:=Tryz.underlying5
 a5:=Tryz.isAgg5
 z5:=Tryz.sizeOf5
 v5:=Tryz.zeroValue5
 infoByte:=by kernel_rfl
 cellsByte:=by kernel_rfl
 sizeByte:=by kernel_rfl
 neB5:=by decide}
open Go.RowKit Go.Lib in
theorem Tryz.strings_Repeat(s:ByteArray)(c:Nat)(w:World)(hc:c≤9223372036854775807)(hlen:s.size*c≤140737488355328):
  Calls Tryz.prog 140 #[.string s,.int .i64 c] w fun e w'=>e=.returned (.string ⟨(Lib.repeatL s.data.toList c).toArray⟩)∧Below w.heap.size w w':=Any.strings_Repeat Tryz.lays105 Tryz.Builder_Extra_105 s c w hc hlen
def Tryz.lays156_ren:Go.Shelf.Ren:=⟨fun|156=>142|165=>164|166=>90|169=>93|240=>115|241=>174|276=>136|277=>179|n=>n,fun|31=>144|9=>9|3=>3|4=>4|0=>0|20=>20|72=>100|76=>104|70=>97|37=>98|75=>103|127=>130|164=>141|5=>5|80=>109|n=>n,fun|n=>n⟩
theorem Tryz.lays156:Go.Proofs.Lays.n156 Tryz.prog Tryz.lays156_ren:={
 mixed:=by kernel_rfl
 f156:=Tryz.func142.trans (congrArg some (by kernel_rfl))
 f165:=Tryz.func164.trans (congrArg some (by kernel_rfl))
 f166:=Tryz.func90.trans (congrArg some (by kernel_rfl))
 f169:=Tryz.func93.trans (congrArg some (by kernel_rfl))
 f240:=Tryz.func115.trans (congrArg some (by kernel_rfl))
 f241:=Tryz.func174.trans (congrArg some (by kernel_rfl))
 f276:=Tryz.func136.trans (congrArg some (by kernel_rfl))
 f277:=Tryz.func179.trans (congrArg some (by kernel_rfl))
 t0:=Tryz.underlying0
 a0:=Tryz.isAgg0
 z0:=Tryz.sizeOf0
 v0:=Tryz.zeroValue0
 t3:=Tryz.underlying3
 a3:=Tryz.isAgg3
 z3:=Tryz.sizeOf3
 v3:=Tryz.zeroValue3
 t4:=Tryz.underlying4
 a4:=Tryz.isAgg4
 z4:=Tryz.sizeOf4
 v4:=Tryz.zeroValue4
 t9:=Tryz.underlying9
 a9:=Tryz.isAgg9
 z9:=Tryz.sizeOf9
 v9:=Tryz.zeroValue9
 t20:=Tryz.underlying20
 a20:=Tryz.isAgg20
 z20:=Tryz.sizeOf20
 v20:=Tryz.zeroValue20
 t31:=Tryz.underlying144
 a31:=Tryz.isAgg144
 z31:=Tryz.sizeOf144
 v31:=Tryz.zeroValue144
 t37:=Tryz.underlying98
 a37:=Tryz.isAgg98
 z37:=Tryz.sizeOf98
 v37:=Tryz.zeroValue98
 t70:=Tryz.underlying97
 a70:=Tryz.isAgg97
 z70:=Tryz.sizeOf97
 v70:=Tryz.zeroValue97
 t72:=Tryz.underlying100
 a72:=Tryz.isAgg100
 z72:=Tryz.sizeOf100
 v72:=Tryz.zeroValue100
 t75:=Tryz.underlying103
 a75:=Tryz.isAgg103
 z75:=Tryz.sizeOf103
 v75:=Tryz.zeroValue103
 t76:=Tryz.underlying104
 a76:=Tryz.isAgg104
 z76:=Tryz.sizeOf104
 v76:=Tryz.zeroValue104
 t127:=Tryz.underlying130
 a127:=Tryz.isAgg130
 z127:=Tryz.sizeOf130
 v127:=Tryz.zeroValue130
 t164:=Tryz.underlying141
 a164:=Tryz.isAgg141
 z164:=Tryz.sizeOf141
 v164:=Tryz.zeroValue141}
theorem Tryz.Builder_Extra_156:Builder.Extra Tryz.prog Tryz.lays156_ren:={
 sizeBuilder:=by kernel_rfl
 liesBuilder:=by kernel_rfl
 t5:=Tryz.underlying5
 a5:=Tryz.isAgg5
 z5:=Tryz.sizeOf5
 v5:=Tryz.zeroValue5
 infoByte:=by kernel_rfl
 cellsByte:=by kernel_rfl
 sizeByte:=by kernel_rfl
 neB5:=by decide}
open Go.RowKit in
theorem Tryz.strings_Join(bk o c:Nat)(xs:List ByteArray)(sep:ByteArray)(w:World)(hcells:∀(j:Nat) x,xs[j]?=some x→w.cell? ⟨bk,o+j,none⟩=some (.string x))(hbk:bk<w.heap.size)(hN:xs.length≤140737488355328)(hcap:xs.length≤c)(hlen:(Lib.join (xs.map (·.data.toList)) sep.data.toList).length≤140737488355328):
  Calls Tryz.prog 142 #[.slice (some ⟨bk,o,none⟩) xs.length c,.string sep] w fun e w'=>e=.returned (.string ⟨(Lib.join (xs.map (·.data.toList)) sep.data.toList).toArray⟩)∧Below w.heap.size w w':=Any.strings_Join Tryz.lays156 Tryz.Builder_Extra_156 bk o c xs sep w hcells hbk hN hcap hlen
open Go.RowKit in
theorem Tryz.strings_Join_none(a:Option Addr)(c:Nat)(sep:ByteArray)(w:World):
  Calls Tryz.prog 142 #[.slice a 0 c,.string sep] w fun e w'=>e=.returned (.string ⟨#[]⟩)∧w'=w:=Any.strings_Join_none Tryz.lays156 Tryz.Builder_Extra_156 a c sep w
def Tryz.lays285_ren:Go.Shelf.Ren:=⟨fun|285=>159|n=>n,fun|37=>98|53=>94|3=>3|4=>4|51=>114|9=>9|5=>5|0=>0|n=>n,fun|n=>n⟩
theorem Tryz.lays285:Go.Proofs.Lays.n285 Tryz.prog Tryz.lays285_ren:={
 mixed:=by kernel_rfl
 f285:=Tryz.func159.trans (congrArg some (by kernel_rfl))
 t0:=Tryz.underlying0
 a0:=Tryz.isAgg0
 z0:=Tryz.sizeOf0
 v0:=Tryz.zeroValue0
 t3:=Tryz.underlying3
 a3:=Tryz.isAgg3
 z3:=Tryz.sizeOf3
 v3:=Tryz.zeroValue3
 t4:=Tryz.underlying4
 a4:=Tryz.isAgg4
 z4:=Tryz.sizeOf4
 v4:=Tryz.zeroValue4
 t5:=Tryz.underlying5
 a5:=Tryz.isAgg5
 z5:=Tryz.sizeOf5
 v5:=Tryz.zeroValue5
 t9:=Tryz.underlying9
 a9:=Tryz.isAgg9
 z9:=Tryz.sizeOf9
 v9:=Tryz.zeroValue9
 t37:=Tryz.underlying98
 a37:=Tryz.isAgg98
 z37:=Tryz.sizeOf98
 v37:=Tryz.zeroValue98
 t51:=Tryz.underlying114
 a51:=Tryz.isAgg114
 z51:=Tryz.sizeOf114
 v51:=Tryz.zeroValue114
 t53:=Tryz.underlying94
 a53:=Tryz.isAgg94
 z53:=Tryz.sizeOf94
 v53:=Tryz.zeroValue94}
open Go.RowKit Go.Sort Go.Lib in
theorem Tryz.internal_strconv_formatBase10(blk off cap:Nat)(u:Nat)(d:Array UInt8)(w:World)(hH:Holds (fun (b:UInt8)=>Value.int .u8 (b.toNat:Int)) w blk off d)(hu:u<10 ^ d.size)(hu64:u<18446744073709551616)(hsz:d.size<4611686018427387904):
  Calls Tryz.prog 159 #[.slice (some ⟨blk,off,none⟩) d.size cap,.int .u64 u] w fun e w'=>
   e=.returned (.tuple #[])∧∃(n v':Nat) (dk:Array UInt8),w'=(putRow (fun (b:UInt8)=>Value.int .u8 (b.toNat:Int)) w blk off dk).drewN n∧FmtInv d.size u 0 v' dk:=Any.internal_strconv_formatBase10 Tryz.lays285 blk off cap u d w hH hu hu64 hsz
def Tryz.lays283_ren:Go.Shelf.Ren:=⟨fun|283=>157|n=>n,fun|3=>3|9=>9|4=>4|n=>n,fun|n=>n⟩
theorem Tryz.lays283:Go.Proofs.Lays.n283 Tryz.prog Tryz.lays283_ren:={
 mixed:=by kernel_rfl
 f283:=Tryz.func157.trans (congrArg some (by kernel_rfl))
 t3:=Tryz.underlying3
 a3:=Tryz.isAgg3
 z3:=Tryz.sizeOf3
 v3:=Tryz.zeroValue3
 t4:=Tryz.underlying4
 a4:=Tryz.isAgg4
 z4:=Tryz.sizeOf4
 v4:=Tryz.zeroValue4
 t9:=Tryz.underlying9
 a9:=Tryz.isAgg9
 z9:=Tryz.sizeOf9
 v9:=Tryz.zeroValue9}
open Go.Lib in
theorem Tryz.internal_strconv_small(i:Nat)(h:i<100)(w:World):
  Calls Tryz.prog 157 #[.int .i64 i] w fun e w'=>e=.returned (.string ⟨(Lib.decDigits i).toArray⟩)∧w'=w:=Any.internal_strconv_small Tryz.lays283 i h w
def Tryz.laysM284_ren:Go.Shelf.Ren:=⟨fun|284=>158|129=>167|317=>166|318=>168|n=>n,fun|53=>94|3=>3|212=>166|0=>0|4=>4|46=>116|5=>5|9=>9|n=>n,fun|17=>0|n=>n⟩
theorem Tryz.laysM284:Go.Proofs.LaysM.n284 Tryz.prog Tryz.laysM284_ren:={
 mixed:=by kernel_rfl
 f129:=Tryz.func167.trans (congrArg some (by kernel_rfl))
 f284:=Tryz.func158.trans (congrArg some (by kernel_rfl))
 f317:=Tryz.func166.trans (congrArg some (by kernel_rfl))
 f318:=Tryz.func168.trans (congrArg some (by kernel_rfl))
 t0:=Tryz.underlying0
 a0:=Tryz.isAgg0
 z0:=Tryz.sizeOf0
 v0:=Tryz.zeroValue0
 t3:=Tryz.underlying3
 a3:=Tryz.isAgg3
 z3:=Tryz.sizeOf3
 v3:=Tryz.zeroValue3
 t4:=Tryz.underlying4
 a4:=Tryz.isAgg4
 z4:=Tryz.sizeOf4
 v4:=Tryz.zeroValue4
 t5:=Tryz.underlying5
 a5:=Tryz.isAgg5
 z5:=Tryz.sizeOf5
 v5:=Tryz.zeroValue5
 t9:=Tryz.underlying9
 a9:=Tryz.isAgg9
 z9:=Tryz.sizeOf9
 v9:=Tryz.zeroValue9
 t46:=Tryz.underlying116
 a46:=Tryz.isAgg116
 z46:=Tryz.sizeOf116
 v46:=Tryz.zeroValue116
 t53:=Tryz.underlying94
 a53:=Tryz.isAgg94
 z53:=Tryz.sizeOf94
 v53:=Tryz.zeroValue94
 t212:=Tryz.underlying166
 a212:=Tryz.isAgg166
 z212:=Tryz.sizeOf166
 v212:=Tryz.zeroValue166
 g17:=by kernel_rfl
 i0:=by kernel_rfl
 i3:=by kernel_rfl
 i4:=by kernel_rfl
 i5:=by kernel_rfl
 i9:=by kernel_rfl
 i46:=by kernel_rfl
 i53:=by kernel_rfl
 i212:=by kernel_rfl
 m17:=by kernel_rfl}
open Go.Lib in
theorem Tryz.internal_strconv_numDigits (u:Nat) (h1:1≤u) (h2:u<18446744073709551616) (w:World) (htab:Lib.TabIs Tryz.prog w "internal/strconv.uint64pow10" .u64 Lib.pow10Tab):
  Calls Tryz.prog 158 #[.int .u64 u] w fun e w'=>e=.returned (.int .i64 (Lib.nDigits u))∧w'=w:=Any.internal_strconv_numDigits Tryz.laysM284 u h1 h2 w htab
end Go.Proofs
set_option linter.all false
namespace Go.Proofs.YtefdjbknmfeooaaGreatDoor
open Go.RowKit
theorem Glob.whole{w:World}{ok:Nat→Nat→Prop}(h:Glob w ok){g:Nat}{vs:List Value}(hg:gtab g=some (vs.map .lit)):∃t fr,w.heap[g]?=some (.cells vs.toArray t fr):=by
 obtain ⟨h1,t,h2⟩:=h.1 g _ hg
 obtain ⟨b,o,hp,hm⟩:=h1.mem_inv
 cases hp
 unfold World.shape? at h2
 split at h2
 ·rename_i c e fr hc
  simp only [Option.some.injEq,Prod.mk.injEq] at h2
  obtain ⟨rfl,h2⟩:=h2
  refine ⟨e,fr,?_⟩
  rw [hc]
  congr 2
  apply Array.ext_getElem?
  intro i
  rcases Nat.lt_or_ge i vs.length with hi|hi
  ·obtain ⟨_,u,h3,h4⟩:=hm i (.lit vs[i]) (by simp [List.getElem?_eq_getElem hi])
   cases h4
   simp only [World.cell?,hc,Nat.zero_add] at h3
   simpa [List.getElem?_eq_getElem hi] using h3
  ·rw [Array.getElem?_eq_none (by rw [h2];simpa using hi),Array.getElem?_eq_none (by simpa using hi)]
 ·cases h2
theorem globTab{w:World}{ok:Nat→Nat→Prop}(h:Glob w ok):Lib.TabIs Tryz.prog w "internal/strconv.uint64pow10" .u64 Lib.pow10Tab:=by
 obtain ⟨t,fr,hw⟩:=h.whole (g:= 0) (vs:=Lib.pow10Tab.map fun z=>Value.int .u64 z) rfl
 have hg: Tryz.prog.globalNamed "internal/strconv.uint64pow10"=some 0:=by kernel_rfl
 unfold Lib.TabIs World.var?
 rw [hg]
 simp [hw]
theorem below_grow_drew{w:World}{k:Nat}{os:Array Obj}:Below w.heap.size w (Sort.grow (w.drewN k) os):=by
 refine ⟨rfl,rfl,rfl,by simp [Sort.grow],fun g hg=>?_⟩
 simp only [Sort.grow,World.heap_drewN]
 rw [Array.getElem?_append_left hg]
def oItoa:List AV→Option AV
 | [.lit (.int .i64 n)]=>if -9223372036854775808≤n∧n≤9223372036854775807 then some (.lit (.string ⟨(Lib.itoa n).toArray⟩)) else none
 | _=>none
theorem con_itoa:∀args r,oItoa args=some r→Con Tryz.prog 91 args r:=fun args r hr=>by
 unfold oItoa at hr
 split at hr
 ·rename_i n
  split at hr
  ·rename_i hn
   cases hr
   intro w ok vs hgl hv
   obtain ⟨v,rfl,hv1⟩:=rv_list1 hv
   cases hv1
   refine (Tryz.strconv_Itoa n hn.1 hn.2 w (globTab hgl)).mono ?_
   rintro e w' ⟨rfl,k,os,rfl⟩
   exact ⟨_,rfl,.lit _,below_grow_drew⟩
  ·cases hr
 ·cases hr
def oRepeat:List AV→Option AV
 | [.lit (.string s),.lit (.int .i64 c)]=>if 0≤c∧c≤9223372036854775807∧s.size*c.toNat≤140737488355328 then some (.lit (.string ⟨(Lib.repeatL s.data.toList c.toNat).toArray⟩)) else none
 | _=>none
theorem con_repeat:∀args r,oRepeat args=some r→Con Tryz.prog 140 args r:=fun args r hr=>by
 unfold oRepeat at hr
 split at hr
 ·rename_i s c
  split at hr
  ·rename_i hn
   cases hr
   intro w ok vs hgl hv
   obtain ⟨v,v2,rfl,hv1,hv2⟩:=rv_list2 hv
   cases hv1
   cases hv2
   obtain ⟨m,rfl⟩:∃m:Nat,c=m:=⟨c.toNat,by omega⟩
   rw [Int.toNat_natCast] at hn ⊢
   refine (Tryz.strings_Repeat s m w (by omega) hn.2.2).mono ?_
   rintro e w' ⟨rfl,hb⟩
   exact ⟨_,rfl,.lit _,hb⟩
  ·cases hr
 ·cases hr
def strsL:List (List AV)→Option (List ByteArray)
 | []=>some []
 | [.lit (.string s)]::l=>(strsL l).map (s::·)
 | _=>none
theorem strsL_get:∀{es:List (List AV)} {l:List ByteArray},strsL es=some l→l.length=es.length∧∀(j:Nat) (x:ByteArray),l[j]?=some x→es[j]?=some [.lit (.string x)]
 | [],l,h=>by cases h;exact ⟨rfl,fun j x hj=>by simp at hj⟩
 | e::es,l,h=>by
   unfold strsL at h
   split at h
   ·rename_i heq;cases heq
   ·rename_i s l' heq
    cases heq
    obtain ⟨l',h1,rfl⟩:=Option.map_eq_some_iff.1 h
    obtain ⟨h2,h3⟩:=strsL_get h1
    refine ⟨by simp [h2],fun j x hj=>?_⟩
    cases j with
    | zero=>simp only [List.getElem?_cons_zero,Option.some.injEq] at hj;subst hj;rfl
    | succ j=>exact h3 j x (by simpa using hj)
   ·cases h
def oJoin:List AV→Option AV
 | [.sl 1 es,.lit (.string sep)]=>match strsL es with
   | some xs=>if xs.length≤140737488355328∧(Lib.join (xs.map (·.data.toList)) sep.data.toList).length≤140737488355328 then some (.lit (.string ⟨(Lib.join (xs.map (·.data.toList)) sep.data.toList).toArray⟩)) else none
   | none=>none
 | _=>none
theorem con_join:∀args r,oJoin args=some r→Con Tryz.prog 142 args r:=fun args r hr=>by
 unfold oJoin at hr
 split at hr
 ·rename_i es sep
  split at hr
  ·rename_i xs hxs
   split at hr
   ·rename_i hn
    cases hr
    intro w ok vs hgl hv
    obtain ⟨v,v2,rfl,hv1,hv2⟩:=rv_list2 hv
    cases hv2
    obtain ⟨hlen,hget⟩:=strsL_get hxs
    cases hv1 with
    | nil a c=>
      cases hxs
      refine (Tryz.strings_Join_none a c sep w).mono ?_
      rintro e w' ⟨rfl,rfl⟩
      exact ⟨_,rfl,.lit _,Below.refl _ _⟩
    | sl hk hcap hm h=>
      rename_i b o c
      rcases Nat.eq_zero_or_pos es.length with h0|h0
      ·have e0:es=[]:=List.eq_nil_of_length_eq_zero h0
       subst e0
       cases hxs
       refine (Tryz.strings_Join_none (some ⟨b,o,none⟩) c sep w).mono ?_
       rintro e w' ⟨rfl,rfl⟩
       exact ⟨_,rfl,.lit _,Below.refl _ _⟩
      ·have hcell:∀(j:Nat) x,xs[j]?=some x→w.cell? ⟨b,o+j,none⟩=some (.string x):=fun j x hj=>by
        have h1:=hget j x hj
        have h2:=hm j 0 _ _ h1 rfl
        have h3:=h j 0 _ _ h1 rfl
        obtain ⟨u,hu⟩:=Option.isSome_iff_exists.1 h2.2
        rw [hu] at h3
        cases h3
        simpa using hu
       have hbk:b<w.heap.size:=by
        obtain ⟨x,hx⟩:∃x,xs[0]?=some x:=⟨xs[0]'(by omega),List.getElem?_eq_getElem _⟩
        exact cell_lt (hcell 0 x hx)
       have hj:= Tryz.strings_Join b o c xs sep w hcell hbk hn.1 (by omega) hn.2
       rw [hlen] at hj
       refine hj.mono ?_
       rintro e w' ⟨rfl,hb⟩
       exact ⟨_,rfl,.lit _,hb⟩
   ·cases hr
  ·cases hr
 ·cases hr
end Go.Proofs.YtefdjbknmfeooaaGreatDoor
set_option linter.all false
set_option maxRecDepth 100000
set_option maxHeartbeats 2000000
namespace Go.Proofs.YtefdjbknmfeooaaGreatDoor
open Go.RowKit
theorem cc_used{w:World}{g:Nat}(h0:w.cell? ⟨g,0,none⟩=some (.pointer (some ⟨g,0,none⟩))):
  Calls Tryz.prog 115 #[.pointer (some ⟨g,0,none⟩)] w fun e w'=>e=.returned (.tuple #[])∧w'=w:=by
 have hj:∃j, Tryz.prog.info? 100=some j∧j.size=2:=⟨_,rfl,rfl⟩
 obtain ⟨j,hj,_⟩:=hj
 have u121: Tryz.prog.underlying 97=some (.pointer 100):=by kernel_rfl
 go_enter Tryz.func115, Tryz.ntmps115
 go_wp2
 rw [Lib.run_neq_ptr_same w _ u121 hj]
 go_wp2
 go_end0
 exact ⟨rfl,rfl⟩
theorem cc_fresh{w:World}{g:Nat}(h0:w.cell? ⟨g,0,none⟩=some (.pointer none))(hsh:w.shape? g=some (100,2))(hfz:w.frozen? ⟨g,0,none⟩=false):
  Calls Tryz.prog 115 #[.pointer (some ⟨g,0,none⟩)] w fun e w'=>e=.returned (.tuple #[])∧w'=w.setCell ⟨g,0,none⟩ (.pointer (some ⟨g,0,none⟩)):=by
 have hj:∃j, Tryz.prog.info? 100=some j∧j.size=2:=⟨_,rfl,rfl⟩
 obtain ⟨j,hj,hjs⟩:=hj
 have u121: Tryz.prog.underlying 97=some (.pointer 100):=by kernel_rfl
 have u256: Tryz.prog.underlying 141=some .unsafePointer:=by kernel_rfl
 have hl:liesAt Tryz.prog Tryz.prog.depth 100 (2 / Tryz.prog.cellsOf 100) 0 100 1=true:=by kernel_rfl
 go_enter Tryz.func115, Tryz.ntmps115
 go_wp2
 rw [Lib.run_to_unsafe w ⟨g,0,none⟩ u121 u256 hj (by rw [hjs];decide) hsh (Nat.zero_lt_succ 1)]
 simp only [Result.andThen]
 rw [Oper.upon_value]
 go_wp2
 rw [run_callFunc_extern Tryz.func136 (by kernel_rfl) (by kernel_rfl) (by kernel_rfl) (e:=Extern.AbiNoEscape.same) (by kernel_rfl)]
 rw [Lib.run_noEscape]
 simp only [Result.andThen]
 rw [Oper.upon_value]
 go_wp2
 rw [Lib.run_from_unsafe w ⟨g,0,none⟩ u256 u121 hj hsh hl]
 simp only [Result.andThen]
 rw [Oper.upon_value]
 go_wp2
 go_end0
 exact ⟨rfl,rfl⟩
def enumB:List AB→Nat→List (Nat × AB)
 | [],_=>[]
 | b::l,i=>(i,b)::enumB l (i+1)
theorem lookB_enum:∀(l:List AB) (k i:Nat),lookB (enumB l k) i=if k≤i then l[i-k]? else none
 | [],k,i=>by simp [enumB,lookB]
 | b::l,k,i=>by
   rw [enumB,lookB]
   by_cases e:i=k
   ·subst e;simp
   ·rw [if_neg e,lookB_enum l (k+1) i]
    by_cases h:k≤i
    ·rw [if_pos (by omega),if_pos h,show i-k=(i-(k+1))+1 by omega,List.getElem?_cons_succ]
    ·rw [if_neg (by omega),if_neg h]
def isSelf:AV→Bool
 | .lit (.pointer none)=>true
 | .ptr 0 0=>true
 | _=>false
def ccG:List AV→List AB→Option (AV × List (Nat × AB))
 | [.ptr 0 0],.box t [p,x] false::rest=>if t= 100∧isSelf p=true then some (.tup [],enumB (.box 100 [.ptr 0 0,x] false::rest) 0) else none
 | _,_=>none
theorem setCell_eq{w:World}{g:Nat}{cur:Array Value}{t:TypeId}{fr:Nat × Nat}(hg:w.heap[g]?=some (.cells cur t fr))(u:Value):w.setCell ⟨g,0,none⟩ u=w.setRow g (cur.setIfInBounds 0 u):=by
 have key:(w.setCell ⟨g,0,none⟩ u).heap=(w.setRow g (cur.setIfInBounds 0 u)).heap:=by
  apply Array.ext_getElem?
  intro i
  by_cases e:i=g
  ·subst e
   rw [setRow_heap w i cur _ t fr hg]
   simp [World.setCell,Array.getElem?_modify,hg]
  ·rw [heap_setRow_ne w g _ i e]
   simp [World.setCell,Array.getElem?_modify,Ne.symm e]
 unfold World.setCell World.setRow at key ⊢
 simp only at key
 rw [key]
theorem con_cc:∀bin args r outs,ccG args bin=some (r,outs)→ConL Tryz.prog 115 bin args r outs:=fun bin args r outs hr=>by
 unfold ccG at hr
 split at hr
 ·rename_i t p x rest
  split at hr
  ·rename_i hc
   obtain ⟨rfl,hp⟩:=hc
   cases hr
   intro w E L vs hbs hn hvs
   obtain ⟨v,rfl,hv⟩:=rv_list1 hvs
   obtain ⟨g,cells,hL,hg,hsz,hcell,hnu⟩:=hbs.blk 0 _ rfl
   have ev:v=.pointer (some ⟨g,0,none⟩):=by
    cases hv with
    | t hv=>cases hv
    | ptr h=>rw [hL] at h;cases h;rfl
   subst ev
   have hs2:cells.size=2:=hsz
   have c0:w.cell? ⟨g,0,none⟩=some (cells.getD 0 undef):=by
    simp [World.cell?,hg,Array.getD_eq_getD_getElem?,Array.getElem?_eq_getElem (show 0<cells.size by omega)]
   have hp0:=hcell 0 p rfl
   have eB:(fun i=>(AB.box 100 [.ptr 0 0,x] false::rest)[i]?)=lookB (enumB (.box 100 [.ptr 0 0,x] false::rest) 0):=by
    funext i;rw [lookB_enum];simp
   unfold isSelf at hp
   split at hp
   ·obtain e0:=rep_lit hp0
    rw [e0] at c0
    have hT:tyOf Tryz.prog 97=some (false,1):=by kernel_rfl
    obtain ⟨_,_,w',hrun,haft⟩:=st_sound (P:= Tryz.prog) (T:=fun _=>.any) hbs hT hv hv (nx:=0) (r:=.any) (up:=[(0,some (.box 100 [.ptr 0 0,x] false))]) (nx':=0) rfl
    have hw':w'=w.setCell ⟨g,0,none⟩ (.pointer (some ⟨g,0,none⟩)):=by
     have h1:=run_storeAt (P:= Tryz.prog) hT (v:=.pointer (some ⟨g,0,none⟩)) rfl (fun x hx=>by simp [Value.cells] at hx;subst hx;rfl) hg (o:=0) (by omega)
     rw [h1] at hrun
     have h2:w.setRow g (splice cells.toList 0 (Value.pointer (some ⟨g,0,none⟩)).cells.toList).toArray=w':=by injection hrun
     rw [setCell_eq hg,←h2]
     congr 1
     apply Array.toList_inj.1
     match hcl:cells.toList,(by simpa using hs2:cells.toList.length=2) with
     | [a,b],_=>simp [splice,Value.cells,hcl]
    subst hw'
    refine (cc_fresh c0 (by simp [World.shape?,hg,hs2]) (by simp [World.frozen?,hg])).mono ?_
    rintro e w' ⟨rfl,rfl⟩
    have eU:updB (fun i=>(AB.box 100 [.lit (.pointer none),x] false::rest)[i]?) [(0,some (.box 100 [.ptr 0 0,x] false))]=lookB (enumB (.box 100 [.ptr 0 0,x] false::rest) 0):=by
     rw [←eB]
     funext i
     cases i with
     | zero=>rfl
     | succ i=>simp [updB,getU]
    rw [eU] at haft
    exact ⟨_,L,rfl,fun _ _ _ h=>h,haft.bs,.t (.tup rfl fun i d hi=>by simp at hi),haft.run⟩
   ·generalize cells.getD 0 undef=u0 at hp0 c0
    cases hp0 with
    | t h=>cases h
    | ptr h=>
      rw [hL] at h;cases h
      refine (cc_used c0).mono ?_
      rintro e w' ⟨rfl,rfl⟩
      refine ⟨_,L,rfl,fun _ _ _ h=>h,?_,.t (.tup rfl fun i d hi=>by simp at hi),?_⟩
      ·rw [←eB];exact hbs
      ·rw [←eB];exact Run.refl
   ·cases hp
  ·cases hr
 ·cases hr
end Go.Proofs.YtefdjbknmfeooaaGreatDoor
set_option linter.all false
set_option maxRecDepth 100000
set_option maxHeartbeats 6400000
namespace Go.Proofs.YtefdjbknmfeooaaGreatDoor
open Go.RowKit
theorem con_of_zp:∀args r,oZ (fun z=>ratA (z:Rat)) args=some r→Con Tryz.prog 63 args r:=fun args r hr=>by
 unfold oZ at hr
 split at hr
 ·rename_i z
  split at hr
  ·rename_i hz
   cases hr
   refine con_ret fun w ok vs hv=>?_
   obtain ⟨v,rfl,hv1⟩:=rv_list1 hv
   cases hv1
   exact (rof_any w z hz.1 hz.2).mono fun _ _ h=>h.ret
  ·cases hr
 ·cases hr
theorem okU_on{w w':World}(hb:Below w.heap.size w w'){b o:Nat}(h:okU w b o):okU w' b o:=by
 obtain ⟨z,hz⟩:=h
 have hl:b<w.heap.size:=World.block_lt_of_cell? w ⟨b,o,none⟩ hz
 exact ⟨z,by rw [hb.cell (p:=⟨b,o,none⟩) hl];exact hz⟩
theorem rv2{R:AV→Value→Prop}{a b:AV}{v u:Value}(h:R a v)(g:R b u):RV R [a,b] [v,u]:=⟨rfl,fun i d hi=>by
 match i,hi with
 | 0,hi=>cases hi;exact ⟨v,rfl,h⟩
 | 1,hi=>cases hi;exact ⟨u,rfl,g⟩
 | i+2,hi=>simp at hi⟩
section
variable {P : Program} {f : FuncId}
theorem con_up{w w':World}{ok:Nat→Nat→Prop}{r:AV}{v:Value}(hb:Below w.heap.size w w')(h:RepT w' (okN (fun b o=>ok b o∨okU w b o) w w') r v):RepT w' (okN ok w w') r v:=
 h.mono (fun _ _ _ _ h=>h) fun b o u h3 h4=>by
  rcases h3 with (h3|h3)|h3|h3
  ·exact .inl h3
  ·exact .inr (.inr (okU_on hb h3))
  ·exact .inr (.inl h3)
  ·exact .inr (.inr h3)
theorem Con.raw2{A B:AV}{x y:Raw}{r:AV}(hA:decR A=some x)(hB:decR B=some y)(h:Con P f [x.av,y.av] r):Con P f [A,B] r:=by
 intro w ok vs hg hv
 obtain ⟨v,u,rfl,hv1,hv2⟩:=rv_list2 hv
 obtain ⟨a1,n1,c1,a2,n2,c2,rfl,h1,h2⟩:=decR_sound hv1 hA
 obtain ⟨a3,n3,c3,a4,n4,c4,rfl,h3,h4⟩:=decR_sound hv2 hB
 refine (h w (fun b o=>ok b o∨okU w b o) _ (hg.mono (fun _ _ _ _ h=>h) (fun _ _ _ h _=>.inl h) fun _ _=>rfl) (rv2 ((raw_rep h1 h2).mono (fun _ _ _ _ h=>h) fun _ _ _ h _=>.inr h) ((raw_rep h3 h4).mono (fun _ _ _ _ h=>h) fun _ _ _ h _=>.inr h))).mono ?_
 rintro e w' ⟨v,he,hr,hb⟩
 exact ⟨v,he,con_up hb hr,hb⟩
theorem con_raw2{F:Raw→Raw→AV}(h:∀x y:Raw,Lim x.l1→Lim x.l2→Lim y.l1→Lim y.l2→x.few=true→y.few=true→Con P f [x.av,y.av] (F x y)):∀args r,o2 F args=some r→Con P f args r:=by
 intro args r hr
 unfold o2 at hr
 split at hr
 ·rename_i a b
  split at hr
  ·rename_i x y hx hy
   split at hr
   ·rename_i hfew
    cases hr
    rw [Bool.and_eq_true] at hfew
    intro w ok vs hg hv
    obtain ⟨v,u,e,hv1,hv2⟩:=rv_list2 hv
    obtain ⟨a1,n1,c1,a2,n2,c2,_,h1,h2⟩:=decR_sound hv1 hx
    obtain ⟨a3,n3,c3,a4,n4,c4,_,h3,h4⟩:=decR_sound hv2 hy
    exact Con.raw2 hx hy (h x y h1.lim h2.lim h3.lim h4.lim hfew.1 hfew.2) w ok vs hg hv
   ·cases hr
  ·cases hr
 ·cases hr
end
theorem o2_raw{F:Raw→Raw→AV}{x y:Raw}(h1:Lim x.l1)(h2:Lim x.l2)(h3:Lim y.l1)(h4:Lim y.l2)(hx:x.few=true)(hy:y.few=true):o2 F [.agg [.lit (.bool x.s),natA x.l1,natA x.l2],.agg [.lit (.bool y.s),natA y.l1,natA y.l2]]=some (F x y):=by
 have e1:decR (.agg [.lit (.bool x.s),natA x.l1,natA x.l2])=some x:=decR_av h1 h2
 have e2:decR (.agg [.lit (.bool y.s),natA y.l1,natA y.l2])=some y:=decR_av h3 h4
 simp only [o2,e1,e2,hx,hy,Bool.and_self,if_true]
theorem o1_raw{F:Raw→AV}{x:Raw}(h1:Lim x.l1)(h2:Lim x.l2)(hx:x.few=true):o1 F [.agg [.lit (.bool x.s),natA x.l1,natA x.l2]]=some (F x):=by
 have e1:decR (.agg [.lit (.bool x.s),natA x.l1,natA x.l2])=some x:=decR_av h1 h2
 simp only [o1,e1,hx,if_true]
theorem raw_neg_q(x:Raw):(⟨!x.s,x.l1,x.l2⟩:Raw).q=-x.q:=by
 unfold Raw.q sv
 rw [rat_neg]
-- Sub
def decI:AV→Option (Bool × List Nat)
 | .agg [.lit (.bool s),a]=>match decN a with
   | some l=>some (s,l)
   | none=>none
 | _=>none
def fewN(l:List Nat):Bool:=Nat.ble l.length 68719476736
def oI1(F:Bool × List Nat→AV):List AV→Option AV
 | [a]=>match decI a with
   | some x=>if fewN x.2 then some (F x) else none
   | none=>none
 | _=>none
def oI2(F:Bool × List Nat→Bool × List Nat→AV):List AV→Option AV
 | [a,b]=>match decI a,decI b with
   | some x,some y=>if fewN x.2 && fewN y.2 then some (F x y) else none
   | _,_=>none
 | _=>none
def oN2(F:List Nat→List Nat→AV):List AV→Option AV
 | [a,b]=>match decN a,decN b with
   | some x,some y=>if fewN x && fewN y then some (F x y) else none
   | _,_=>none
 | _=>none
theorem decI_sound{w:World}{ok:Nat→Nat→Prop}{d:AV}{x:Bool × List Nat}{v:Value}(h:RepT w ok d v)(hd:decI d=some x):∃a n c,v=.agg #[.bool x.1,.slice a n c]∧LimR w a n c x.2:=by
 unfold decI at hd
 split at hd
 ·rename_i s a
  split at hd
  ·rename_i l h1
   cases hd
   cases h with
   | agg hn hh=>
     rename_i vs
     have g0:=hh 0 _ rfl
     have g1:=hh 1 _ rfl
     obtain ⟨a1,n1,c1,e1,k1⟩:=decN_sound g1 h1
     refine ⟨a1,n1,c1,?_,k1⟩
     have e0:vs.getD 0 undef=.bool s:=by
      generalize vs.getD 0 undef=x at g0
      cases g0;rfl
     congr 1
     apply Array.ext
     ·simpa using hn
     ·intro i hi1 hi2
      have h9:i=0∨i=1:=by simp at hi2;omega
      have gd:vs.getD i undef=vs[i]:=by rw [Array.getD_eq_getD_getElem?,Array.getElem?_eq_getElem hi1];rfl
      rcases h9 with rfl|rfl
      ·rw [←gd,e0];rfl
      ·rw [←gd,e1];rfl
  ·cases hd
 ·cases hd
theorem few_of{n:Nat}{l:List Nat}(h:fewN l=true)(hn:l.length=n):n≤68719476736:=by subst hn;exact Nat.le_of_ble_eq_true h
section
variable {P : Program} {f : FuncId}
theorem conI1{F:Bool × List Nat→AV}(h:∀(w:World) (x:Bool × List Nat) (a:Option Addr) (n c:Nat),LimR w a n c x.2→n≤68719476736→Calls P f #[.agg #[.bool x.1,.slice a n c]] w (Ret (F x) w)):∀args r,oI1 F args=some r→Con P f args r:=by
 intro args r hr
 unfold oI1 at hr
 split at hr
 ·rename_i a
  split at hr
  ·rename_i x hx
   split at hr
   ·rename_i hfew
    cases hr
    refine con_ret fun w ok vs hv=>?_
    obtain ⟨v,rfl,hv1⟩:=rv_list1 hv
    obtain ⟨a1,n1,c1,rfl,h1⟩:=decI_sound hv1 hx
    exact h w x a1 n1 c1 h1 (few_of hfew h1.len)
   ·cases hr
  ·cases hr
 ·cases hr
theorem conN2{F:List Nat→List Nat→AV}(h:∀(w:World) (x y:List Nat) (a1 a2:Option Addr) (n1 c1 n2 c2:Nat),LimR w a1 n1 c1 x→LimR w a2 n2 c2 y→n1≤68719476736→n2≤68719476736→Calls P f #[.slice a1 n1 c1,.slice a2 n2 c2] w (Ret (F x y) w)):∀args r,oN2 F args=some r→Con P f args r:=by
 intro args r hr
 unfold oN2 at hr
 split at hr
 ·rename_i a b
  split at hr
  ·rename_i x y hx hy
   split at hr
   ·rename_i hfew
    cases hr
    rw [Bool.and_eq_true] at hfew
    refine con_ret fun w ok vs hv=>?_
    obtain ⟨v,u,rfl,hv1,hv2⟩:=rv_list2 hv
    obtain ⟨a1,n1,c1,rfl,h1⟩:=decN_sound hv1 hx
    obtain ⟨a2,n2,c2,rfl,h2⟩:=decN_sound hv2 hy
    exact h w x y a1 a2 n1 c1 n2 c2 h1 h2 (few_of hfew.1 h1.len) (few_of hfew.2 h2.len)
   ·cases hr
  ·cases hr
 ·cases hr
def intR(x:Bool × List Nat):AV:=.agg [.lit (.bool x.1),natA x.2]
theorem conI2r{F:Bool × List Nat→Bool × List Nat→AV}(h:∀x y:Bool × List Nat,Lim x.2→Lim y.2→fewN x.2=true→fewN y.2=true→Con P f [intR x,intR y] (F x y)):∀args r,oI2 F args=some r→Con P f args r:=by
 intro args r hr
 unfold oI2 at hr
 split at hr
 ·rename_i a b
  split at hr
  ·rename_i x y hx hy
   split at hr
   ·rename_i hfew
    cases hr
    rw [Bool.and_eq_true] at hfew
    intro w ok vs hg hv
    obtain ⟨v,u,rfl,hv1,hv2⟩:=rv_list2 hv
    obtain ⟨a1,n1,c1,rfl,h1⟩:=decI_sound hv1 hx
    obtain ⟨a2,n2,c2,rfl,h2⟩:=decI_sound hv2 hy
    have rep:∀{x:Bool × List Nat} {a:Option Addr} {n c:Nat},LimR w a n c x.2→RepT w (fun b o=>ok b o∨okU w b o) (intR x) (.agg #[.bool x.1,.slice a n c]):=fun {x a n c} h=>by
     refine .agg rfl fun i d hi=>?_
     match i,hi with
     | 0,hi=>cases hi;exact .lit _
     | 1,hi=>cases hi;exact (natA_rep h).mono (fun _ _ _ _ h=>h) fun _ _ _ h _=>.inr h
     | i+2,hi=>simp at hi
    refine (h x y h1.lim h2.lim hfew.1 hfew.2 w (fun b o=>ok b o∨okU w b o) _ (hg.mono (fun _ _ _ _ h=>h) (fun _ _ _ h _=>.inl h) fun _ _=>rfl) (rv2 (rep h1) (rep h2))).mono ?_
    rintro e w' ⟨v,he,hr,hb⟩
    exact ⟨v,he,con_up hb hr,hb⟩
   ·cases hr
  ·cases hr
 ·cases hr
end
theorem sign_cases(x:Int):(x<0∧x.sign=-1)∨(x=0∧x.sign=0)∨(0<x∧x.sign=1):=by
 rcases Int.lt_trichotomy x 0 with h|h|h
 ·exact .inl ⟨h,Int.sign_eq_neg_one_of_neg h⟩
 ·exact .inr (.inl ⟨h,by rw [h];rfl⟩)
 ·exact .inr (.inr ⟨h,Int.sign_eq_one_of_pos h⟩)
theorem sub_sign{x y:Int}:(x.sign<y.sign→(x-y).sign=-1)∧(y.sign<x.sign→(x-y).sign=1):=by
 rcases sign_cases x with h|h|h <;>rcases sign_cases y with g|g|g <;>rcases sign_cases (x-y) with k|k|k <;>omega
theorem icmp_plain(s1 s2:Bool)(l1 l2:List Nat):(iv s1 l1).sign=(iv s2 l2).sign→((iv s1 l1).sign<0→cmpN (val l2) (val l1)=(iv s1 l1-iv s2 l2).sign)∧(¬(iv s1 l1).sign<0→cmpN (val l1) (val l2)=(iv s1 l1-iv s2 l2).sign):=by
 unfold iv cmpN
 generalize val l1=a
 generalize val l2=b
 intro h
 generalize hx:(if s1=true then -(a:Int) else (a:Int))=x at*
 generalize hy:(if s2=true then -(b:Int) else (b:Int))=y at*
 constructor
 ·intro h0
  cases s1 <;>cases s2 <;>simp at hx hy <;>rcases sign_cases x with h1|h1|h1 <;>rcases sign_cases y with g|g|g <;>rcases sign_cases (x-y) with k|k|k <;>split <;>(try split) <;>omega
 ·intro h0
  cases s1 <;>cases s2 <;>simp at hx hy <;>rcases sign_cases x with h1|h1|h1 <;>rcases sign_cases y with g|g|g <;>rcases sign_cases (x-y) with k|k|k <;>split <;>(try split) <;>omega
theorem oI1_raw{F:Bool × List Nat→AV}{s:Bool}{l:List Nat}(h1:Lim l)(hx:fewN l=true):oI1 F [.agg [.lit (.bool s),natA l]]=some (F (s,l)):=by
 have e1:decI (.agg [.lit (.bool s),natA l])=some (s,l):=by simp only [decI,decN_nat h1]
 simp only [oI1,e1,hx,if_true]
theorem oI2_raw{F:Bool × List Nat→Bool × List Nat→AV}{s t:Bool}{l m:List Nat}(h1:Lim l)(h2:Lim m)(hx:fewN l=true)(hy:fewN m=true):oI2 F [.agg [.lit (.bool s),natA l],.agg [.lit (.bool t),natA m]]=some (F (s,l) (t,m)):=by
 have e1:decI (.agg [.lit (.bool s),natA l])=some (s,l):=by simp only [decI,decN_nat h1]
 have e2:decI (.agg [.lit (.bool t),natA m])=some (t,m):=by simp only [decI,decN_nat h2]
 simp only [oI2,e1,e2,hx,hy,Bool.and_self,if_true]
theorem oN2_raw{F:List Nat→List Nat→AV}{l m:List Nat}(h1:Lim l)(h2:Lim m)(hx:fewN l=true)(hy:fewN m=true):oN2 F [natA l,natA m]=some (F l m):=by
 simp only [oN2,decN_nat h1,decN_nat h2,hx,hy,Bool.and_self,if_true]
-- integer.Cmp
noncomputable def fISgn:List AV→Option AV:=oI1 fun x=>.lit (.int .i64 (iv x.1 x.2).sign)
noncomputable def fNCmp:List AV→Option AV:=oN2 fun x y=>.lit (.int .i64 (cmpN (val x) (val y)))
noncomputable def orcI:FuncId→Option Orc:=ext (ext noO 125 (.pure fISgn)) 128 (.pure fNCmp)
theorem orcI_ok:OrcOk Tryz.prog orcI:=by
 refine OrcOk.extP (OrcOk.extP OrcOk.none (by kernel_rfl) ?_) (by kernel_rfl) ?_
 ·exact conI1 fun w x a n c h hn=>(isign_any w h (by omega)).mono fun _ _ h=>h.ret
 ·exact conN2 fun w x y a1 a2 n1 c1 n2 c2 h1 h2 b1 b2=>(ncmp_any w h1 h2 (by omega) (by omega)).mono fun e w' h=>by
   obtain ⟨he,k,rfl⟩:=h
   exact ⟨_,he,.lit _,(Below.refl _ _).drewN k⟩
def icmpF(x y:Bool × List Nat):AV:=.lit (.int .i64 (iv x.1 x.2-iv y.1 y.2).sign)
theorem icmp_run{x y:Bool × List Nat}(h1:Lim x.2)(h2:Lim y.2)(hx:fewN x.2=true)(hy:fewN y.2=true):fnP Tryz.prog orcI noL 5 Tryz.f109 [intR x,intR y]=some (icmpF x y):=by
 obtain ⟨s,l⟩:=x
 obtain ⟨t,m⟩:=y
 have K1:fISgn [.agg [.lit (.bool s),natA l]]=some (.lit (.int .i64 (iv s l).sign)):=oI1_raw h1 hx
 have K2:fISgn [.agg [.lit (.bool t),natA m]]=some (.lit (.int .i64 (iv t m).sign)):=oI1_raw h2 hy
 have K3:fNCmp [natA l,natA m]=some (.lit (.int .i64 (cmpN (val l) (val m)))):=oN2_raw h1 h2 hx hy
 have K4:fNCmp [natA m,natA l]=some (.lit (.int .i64 (cmpN (val m) (val l)))):=oN2_raw h2 h1 hy hx
 have T1:orcI 125=some (.pure fISgn):=by unfold orcI ext;rw [if_neg (by decide),if_pos rfl]
 have T2:orcI 128=some (.pure fNCmp):=by unfold orcI ext;rw [if_pos rfl]
 have HP:=icmp_plain s t l m
 have HS:=sub_sign (x:=iv s l) (y:=iv t m)
 unfold icmpF
 dsimp only
 generalize (iv s l-iv t m).sign=z at*
 generalize (iv s l).sign=a at*
 generalize (iv t m).sign=b at*
 unfold fnP
 by_cases c1:a<b
 ·rw [HS.1 c1]
  simp+decide [Tryz.f109,intR,T1,T2,K1,K2,c1]
 by_cases c2:b<a
 ·rw [HS.2 c2]
  simp+decide [Tryz.f109,intR,T1,T2,K1,K2,c1,c2]
 obtain ⟨p1,p2⟩:=HP (by omega)
 by_cases c3:a<0
 ·rw [←p1 c3]
  simp+decide [Tryz.f109,intR,T1,T2,K1,K2,K4,c1,c2,c3]
 ·rw [←p2 c3]
  simp+decide [Tryz.f109,intR,T1,T2,K1,K2,K3,c1,c2,c3]
-- Cmp
def intA(z:Int):AV:=.agg [.lit (.bool (decide (z<0))),natA (lmb z.natAbs)]
noncomputable def fSgnQ:List AV→Option AV:=o1 fun x=>.lit (.int .i64 (sgR x.q))
noncomputable def fCross:List AV→Option AV:=o2 fun x y=>.tup [intA (iv x.s x.l1*dn y.l2),intA (iv y.s y.l1*dn x.l2)]
noncomputable def fICmp:List AV→Option AV:=oI2 icmpF
noncomputable def orcC:FuncId→Option Orc:=ext (ext (ext noO 107 (.pure fSgnQ)) 108 (.pure fCross)) 109 (.pure fICmp)
theorem intC_rep{w:World}{s:Bool}{a:Option Addr}{n c:Nat}{z:Int}(h:IntC w s a n c z):RepT w (okU w) (intA z) (.agg #[.bool s,.slice a n c]):=by
 have e:s=decide (z<0):=h.sign.out
 subst e
 refine .agg rfl fun i d hi=>?_
 match i,hi with
 | 0,hi=>cases hi;exact .lit _
 | 1,hi=>cases hi;exact natA_rep h.mag
 | i+2,hi=>simp at hi
theorem orcC_ok:OrcOk Tryz.prog orcC:=by
 refine OrcOk.extP (OrcOk.extP (OrcOk.extP OrcOk.none (by kernel_rfl) ?_) (by kernel_rfl) ?_) (by kernel_rfl) ?_
 ·exact con1 fun w x a1 a2 n1 c1 n2 c2 h1 h2 b1 b2=>(rsign_any w x.l2 h1 (by omega)).mono fun _ _ h=>h.ret
 ·exact con2 fun w x y a1 a2 a3 a4 n1 c1 n2 c2 n3 c3 n4 c4 h1 h2 h3 h4 b1 b2 b3 b4=>(cross_any w h1 h2 h3 h4 (by omega) (by omega) (by omega) (by omega)).mono fun e w' h=>by
   obtain ⟨s1,a1,n1,c1,s2,a2,n2,c2,rfl,g1,g2,hb⟩:=h
   refine ⟨_,rfl,.tup rfl fun i d hi=>?_,hb⟩
   match i,hi with
   | 0,hi=>cases hi;exact intC_rep g1
   | 1,hi=>cases hi;exact intC_rep g2
   | i+2,hi=>simp at hi
 ·exact conI2r fun x y h1 h2 hx hy=>con_of orcI_ok mixed Tryz.func109 (body_some (by kernel_rfl) Tryz.func109) (icmp_run h1 h2 hx hy)
theorem sgR_mk{z:Int}{d:Nat}(h:0<d):sgR (mkRat z d)=z.sign:=by
 have h2:=sgR_sv (decide (z<0)) (lmb z.natAbs) (lmb d)
 have e:iv (decide (z<0)) (lmb z.natAbs)=z:=by
  unfold iv
  rw [val_lmb]
  by_cases hz:z<0 <;>simp [hz] <;>omega
 have e2:sv (decide (z<0)) (lmb z.natAbs) (lmb d)=mkRat z d:=by
  have e3:dn (lmb d)=d:=by
   unfold dn
   rw [val_lmb]
   have h0:¬d=0:=by omega
   simp only [h0,if_false]
  unfold sv
  rw [e3]
  have e4:sgi (decide (z<0)) (val (lmb z.natAbs))=z:=e
  rw [e4]
 rw [e,e2] at h2
 exact h2.symm
theorem sv_sub(x y:Raw):sgR (x.q-y.q)=(iv x.s x.l1*(dn y.l2:Int)-iv y.s y.l1*(dn x.l2:Int)).sign:=by
 rw [Rat.sub_eq_add_neg,←raw_neg_q]
 unfold Raw.q sv
 rw [←rat_add _ _ (dn_pos _) (dn_pos _),sgR_mk (Nat.mul_pos (dn_pos _) (dn_pos _))]
 congr 1
 have e:sgi (!y.s) (val y.l1)=-(iv y.s y.l1):=by
  unfold sgi iv
  cases y.s <;>simp
 dsimp only
 rw [e,Int.neg_mul,Int.sub_eq_add_neg]
 rfl
theorem sgR_sub{p q:Rat}:(sgR p<sgR q→sgR (p-q)=-1)∧(sgR q<sgR p→sgR (p-q)=1):=by
 have np:∀r:Rat,(r<0∧sgR r=-1)∨(r=0∧sgR r=0)∨(0<r∧sgR r=1):=fun r=>by
  have h1:=@Rat.num_nonneg r
  have h2:r.num=0↔r=0:=Rat.num_eq_zero
  unfold sgR
  rcases sign_cases r.num with h|h|h
  ·refine .inl ⟨?_,h.2⟩
   have:¬0≤r:=fun h3=>by have:=h1.2 h3;omega
   grind
  ·exact .inr (.inl ⟨h2.1 h.1,h.2⟩)
  ·refine .inr (.inr ⟨?_,h.2⟩)
   have h3:=h1.1 (by omega)
   have h4:r≠0:=fun h4=>by have:=h2.2 h4;omega
   grind
 rcases np p with h|h|h <;>rcases np q with g|g|g <;>rcases np (p-q) with k|k|k <;>first|omega|grind
theorem few_mul{x y:Raw}(h1:Lim x.l1)(h4:Lim y.l2)(hx:x.few=true)(hy:y.few=true):fewN (lmb (iv x.s x.l1*(dn y.l2:Int)).natAbs)=true:=by
 have a1:=(Raw.few_parts hx).1
 have a2:=(Raw.few_parts hy).2
 have e1:=lmb_len_mul (val x.l1) (dn y.l2)
 have e2:=lmb_len_val h1
 have e3:(lmb (dn y.l2)).length≤y.l2.length+1:=by
  unfold dn
  split
  ·rw [lmb_one];simp
  ·have:=lmb_len_val h4;omega
 have e4:(iv x.s x.l1*(dn y.l2:Int)).natAbs=val x.l1*dn y.l2:=by
  rw [Int.natAbs_mul,Int.natAbs_natCast]
  congr 1
  unfold iv
  cases x.s <;>simp
 rw [e4]
 exact Nat.ble_eq_true_of_le (by omega)
theorem pcmp_run{x y:Raw}(h1:Lim x.l1)(h2:Lim x.l2)(h3:Lim y.l1)(h4:Lim y.l2)(hx:x.few=true)(hy:y.few=true):fnP Tryz.prog orcC noL 5 Tryz.f81 [x.av,y.av]=some (.lit (.int .i64 (sgR (x.q-y.q)))):=by
 have K1:fSgnQ [.agg [.lit (.bool x.s),natA x.l1,natA x.l2]]=some (.lit (.int .i64 (sgR x.q))):=o1_raw h1 h2 hx
 have K2:fSgnQ [.agg [.lit (.bool y.s),natA y.l1,natA y.l2]]=some (.lit (.int .i64 (sgR y.q))):=o1_raw h3 h4 hy
 have K3:fCross [.agg [.lit (.bool x.s),natA x.l1,natA x.l2],.agg [.lit (.bool y.s),natA y.l1,natA y.l2]]=some (.tup [intA (iv x.s x.l1*dn y.l2),intA (iv y.s y.l1*dn x.l2)]):=o2_raw h1 h2 h3 h4 hx hy
 have key:∀p q:Int,fewN (lmb p.natAbs)=true→fewN (lmb q.natAbs)=true→fICmp [.agg [.lit (.bool (decide (p<0))),natA (lmb p.natAbs)],.agg [.lit (.bool (decide (q<0))),natA (lmb q.natAbs)]]=some (.lit (.int .i64 (p-q).sign)):=fun p q hp hq=>by
  unfold fICmp
  rw [oI2_raw (lim_lmb _) (lim_lmb _) hp hq]
  have e:∀z:Int,iv (decide (z<0)) (lmb z.natAbs)=z:=fun z=>by
   unfold iv
   rw [val_lmb]
   by_cases hz:z<0 <;>simp [hz] <;>omega
  unfold icmpF
  dsimp only
  rw [e,e]
 have K4:=key (iv x.s x.l1*dn y.l2) (iv y.s y.l1*dn x.l2) (few_mul h1 h4 hx hy) (few_mul h3 h2 hy hx)
 rw [←sv_sub] at K4
 have T1:orcC 107=some (.pure fSgnQ):=by unfold orcC ext;rw [if_neg (by decide),if_neg (by decide),if_pos rfl]
 have T2:orcC 108=some (.pure fCross):=by unfold orcC ext;rw [if_neg (by decide),if_pos rfl]
 have T3:orcC 109=some (.pure fICmp):=by unfold orcC ext;rw [if_pos rfl]
 have HS:=sgR_sub (p:=x.q) (q:=y.q)
 generalize iv x.s x.l1*(dn y.l2:Int)=p at*
 generalize iv y.s y.l1*(dn x.l2:Int)=q at*
 generalize sgR (x.q-y.q)=z at*
 generalize sgR x.q=a at*
 generalize sgR y.q=b at*
 unfold fnP
 by_cases c0:a=b
 ·have c1:(a==b)=true:=by rw [c0];simp
  have c2:(a !=b)=false:=by rw [c0];simp
  simp+decide [Tryz.f81,Raw.av,T1,T2,T3,K1,K2,K3,intA,K4,c1,c2]
 ·have c1:(a==b)=false:=by simpa using c0
  have c2:(a !=b)=true:=by simpa using c0
  by_cases c3:a<b
  ·rw [HS.1 c3]
   simp+decide [Tryz.f81,Raw.av,T1,T2,T3,K1,K2,c1,c2,c3]
  ·rw [HS.2 (by omega)]
   simp+decide [Tryz.f81,Raw.av,T1,T2,T3,K1,K2,c1,c2,c3]
theorem con_pcmp:∀args r,o2 (fun x y=>.lit (.int .i64 (sgR (x.q-y.q)))) args=some r→Con Tryz.prog 81 args r:=
 con_raw2 fun x y h1 h2 h3 h4 hx hy=>con_of orcC_ok mixed Tryz.func81 (body_some (by kernel_rfl) Tryz.func81) (pcmp_run h1 h2 h3 h4 hx hy)
end Go.Proofs.YtefdjbknmfeooaaGreatDoor
set_option linter.all false
set_option maxRecDepth 100000
namespace Go.Proofs.YtefdjbknmfeooaaGreatDoor
open Go.RowKit Go.Sort
theorem RetN.ret{k:Nat}{w w':World}{e:Ending}(h:RetN k w e w'):Ret (natA (lmb k)) w e w':=by
 obtain ⟨ad,n,c,rfl,h1,h2⟩:=h
 exact ⟨_,rfl,natA_rep h1,h2⟩
theorem tup2_rep{w:World}{ok:Nat→Nat→Prop}{d0 d1:AV}{v0 v1:Value}(h0:RepT w ok d0 v0)(h1:RepT w ok d1 v1):RepT w ok (.tup [d0,d1]) (.tuple #[v0,v1]):=by
 refine .tup rfl fun i d hi=>?_
 match i,hi with
 | 0,hi=>cases hi;exact h0
 | 1,hi=>cases hi;exact h1
 | i+2,hi=>simp at hi
theorem tup3_rep{w:World}{ok:Nat→Nat→Prop}{d0 d1 d2:AV}{v0 v1 v2:Value}(h0:RepT w ok d0 v0)(h1:RepT w ok d1 v1)(h2:RepT w ok d2 v2):RepT w ok (.tup [d0,d1,d2]) (.tuple #[v0,v1,v2]):=by
 refine .tup rfl fun i d hi=>?_
 match i,hi with
 | 0,hi=>cases hi;exact h0
 | 1,hi=>cases hi;exact h1
 | 2,hi=>cases hi;exact h2
 | i+3,hi=>simp at hi
theorem DivPost.ret{q r:Nat}{w w':World}{e:Ending}(h:DivPost q r w e w'):Ret (.tup [natA (lmb q),natA (lmb r),.lit (.int .i64 0)]) w e w':=by
 obtain ⟨a1,n1,c1,a2,n2,c2,rfl,h1,h2,h3⟩:=h
 exact ⟨_,rfl,tup3_rep (natA_rep h1) (natA_rep h2) (.lit _),h3⟩
def oU(F:Nat→AV):List AV→Option AV
 | [.lit (.int .u64 z)]=>if 0≤z∧z<18446744073709551616 then some (F z.toNat) else none
 | _=>none
def oN1(G:List Nat→Bool)(F:List Nat→AV):List AV→Option AV
 | [a]=>match decN a with
   | some x=>if fewN x && G x then some (F x) else none
   | none=>none
 | _=>none
def oND(F:List Nat→List Nat→AV):List AV→Option AV
 | [a,b]=>match decN a,decN b with
   | some x,some y=>if fewN x && fewN y && Nat.blt 0 (val y) then some (F x y) else none
   | _,_=>none
 | _=>none
section
variable {P : Program} {f : FuncId}
theorem conU{F:Nat→AV}(h:∀(w:World) (z:Int),0≤z→z<18446744073709551616→Calls P f #[.int .u64 z] w (Ret (F z.toNat) w)):∀args r,oU F args=some r→Con P f args r:=by
 intro args r hr
 unfold oU at hr
 split at hr
 ·rename_i z
  split at hr
  ·rename_i hz
   cases hr
   refine con_ret fun w ok vs hv=>?_
   obtain ⟨v,rfl,hv1⟩:=rv_list1 hv
   cases hv1
   exact h w z hz.1 hz.2
  ·cases hr
 ·cases hr
theorem conN1{G:List Nat→Bool}{F:List Nat→AV}(h:∀(w:World) (x:List Nat) (a:Option Addr) (n c:Nat),LimR w a n c x→n≤68719476736→G x=true→Calls P f #[.slice a n c] w (Ret (F x) w)):∀args r,oN1 G F args=some r→Con P f args r:=by
 intro args r hr
 unfold oN1 at hr
 split at hr
 ·rename_i a
  split at hr
  ·rename_i x hx
   split at hr
   ·rename_i hfew
    cases hr
    rw [Bool.and_eq_true] at hfew
    refine con_ret fun w ok vs hv=>?_
    obtain ⟨v,rfl,hv1⟩:=rv_list1 hv
    obtain ⟨a1,n1,c1,rfl,h1⟩:=decN_sound hv1 hx
    exact h w x a1 n1 c1 h1 (few_of hfew.1 h1.len) hfew.2
   ·cases hr
  ·cases hr
 ·cases hr
theorem conND{F:List Nat→List Nat→AV}(h:∀(w:World) (x y:List Nat) (a1 a2:Option Addr) (n1 c1 n2 c2:Nat),LimR w a1 n1 c1 x→LimR w a2 n2 c2 y→n1≤68719476736→n2≤68719476736→0<val y→Calls P f #[.slice a1 n1 c1,.slice a2 n2 c2] w (Ret (F x y) w)):∀args r,oND F args=some r→Con P f args r:=by
 intro args r hr
 unfold oND at hr
 split at hr
 ·rename_i a b
  split at hr
  ·rename_i x y hx hy
   split at hr
   ·rename_i hfew
    cases hr
    simp only [Bool.and_eq_true] at hfew
    refine con_ret fun w ok vs hv=>?_
    obtain ⟨v,u,rfl,hv1,hv2⟩:=rv_list2 hv
    obtain ⟨a1,n1,c1,rfl,h1⟩:=decN_sound hv1 hx
    obtain ⟨a2,n2,c2,rfl,h2⟩:=decN_sound hv2 hy
    exact h w x y a1 a2 n1 c1 n2 c2 h1 h2 (few_of hfew.1.1 h1.len) (few_of hfew.1.2 h2.len) (Nat.le_of_ble_eq_true hfew.2)
   ·cases hr
  ·cases hr
 ·cases hr
end
def u64N(x:List Nat):Bool:=Nat.blt (val x) 18446744073709551616
theorem con_nof:∀args r,oU (fun k=>natA (lmb k)) args=some r→Con Tryz.prog 119 args r:=conU fun w z h0 h1=>(nof_any w z h0 h1).mono fun _ _ h=>h.ret
theorem con_nadd:∀args r,oN2 (fun x y=>natA (lmb (val x+val y))) args=some r→Con Tryz.prog 175 args r:=conN2 fun w x y a1 a2 n1 c1 n2 c2 h1 h2 b1 b2=>(nadd_any w h1 h2 (by omega) (by omega)).mono fun _ _ h=>h.ret
theorem con_nmul:∀args r,oN2 (fun x y=>natA (lmb (val x*val y))) args=some r→Con Tryz.prog 148 args r:=conN2 fun w x y a1 a2 n1 c1 n2 c2 h1 h2 b1 b2=>(nmul_any w h1 h2 (by omega) (by omega)).mono fun _ _ h=>h.ret
theorem con_nmake:∀args r,oN1 (fun _=>true) (fun x=>natA (lmb (val x))) args=some r→Con Tryz.prog 129 args r:=conN1 fun w x a n c h b _=>(nmake_any w h (by omega)).mono fun _ _ h=>h.ret
theorem con_ndiv:∀args r,oND (fun x y=>.tup [natA (lmb (val x / val y)),natA (lmb (val x % val y)),.lit (.int .i64 0)]) args=some r→Con Tryz.prog 132 args r:=conND fun w x y a1 a2 n1 c1 n2 c2 h1 h2 b1 b2 h0=>(ndiv_any w h1 h2 (by omega) (by omega) h0).mono fun _ _ h=>h.ret
theorem con_nuint:∀args r,oN1 u64N (fun x=>.tup [.lit (.int .u64 (val x:Nat)),.lit (.bool true)]) args=some r→Con Tryz.prog 138 args r:=conN1 fun w x a n c h b h64=>(nuint_any w h (by omega) (Nat.le_of_ble_eq_true h64)).mono fun e w' ⟨he,hw⟩=>⟨_,he,tup2_rep (.lit _) (.lit _),hw▸Below.refl _ _⟩
theorem con_fnof:∀args r,oU (fun k=>natA (lmb k)) args=some r→Con Tryz.prog 79 args r:=conU fun w z h0 h1=>(fof_any w z h0 h1).mono fun _ _ h=>h.ret
theorem con_fnmake:∀args r,oN1 (fun _=>true) (fun x=>natA (lmb (val x))) args=some r→Con Tryz.prog 100 args r:=conN1 fun w x a n c h b _=>(fmake_any w h (by omega)).mono fun _ _ h=>h.ret
theorem con_fndiv:∀args r,oND (fun x y=>.tup [natA (lmb (val x / val y)),natA (lmb (val x % val y)),.lit (.int .i64 0)]) args=some r→Con Tryz.prog 104 args r:=conND fun w x y a1 a2 n1 c1 n2 c2 h1 h2 b1 b2 h0=>(fdiv_any w h1 h2 (by omega) (by omega) h0).mono fun _ _ h=>h.ret
theorem con_fnuint:∀args r,oN1 u64N (fun x=>.tup [.lit (.int .u64 (val x:Nat)),.lit (.bool true)]) args=some r→Con Tryz.prog 121 args r:=conN1 fun w x a n c h b h64=>(fuint_any w h (by omega)).mono fun e w' ⟨he,hb⟩=>by
 have h9:val x<18446744073709551616:=Nat.le_of_ble_eq_true h64
 rw [if_pos h9,decide_eq_true h9] at he
 exact ⟨_,he,tup2_rep (.lit _) (.lit _),hb⟩
section
variable (u:Nat) (hu64:u<18446744073709551616) (w:World) (htab:Lib.TabIs Tryz.prog w "internal/strconv.uint64pow10" .u64 Lib.pow10Tab)
include u hu64 w htab
theorem ifu_c:
  Calls Tryz.prog 161 #[.int .u64 u,.int .i64 10] w fun e w'=>e=.returned (.string ⟨(Lib.decDigits u).toArray⟩)∧∃k os,w'=grow (w.drewN k) os:=by
 by_cases hs:u<100
 ·go_enter Tryz.func161, Tryz.ntmps161
  have hwr:IntKind.i64.wrap (u:Int)=u:=by simp [IntKind.wrap,IntKind.signed,IntKind.bits];omega
  go_wp2_with (go_at_call 157;refine (Tryz.internal_strconv_small u hs _).mono ?_;rintro e w' ⟨rfl,rfl⟩)
  go_ret
  exact ⟨rfl,0,#[],by simp [World.drewN_zero,Sort.grow]⟩
 ·have hu1:1≤u:=by omega
  have hnd20:Lib.nDigits u≤20:=by have:=Lib.numDigits_eq u hu1 hu64;split at this <;>omega
  have hb3:Lib.nDigits u≤24:=by omega
  have hal: Tryz.prog.arrayLen 155=24:=by kernel_rfl
  have hsl1:∀W,(Instr.sliceAt 155 (.pointer (some ⟨w.heap.size,0,none⟩)) none (some (.int .i64 (Lib.nDigits u:Int))) none).run Tryz.prog W=.ok (.slice (some ⟨w.heap.size,0,none⟩) (Lib.nDigits u) 24) W:=fun W=>by
   rw [run_sliceAt_array_h W 155 ⟨w.heap.size,0,none⟩ (by simp [Program.arrayLen,Program.elem, Tryz.underlying155]) .i64 (Lib.nDigits u:Int) (by omega) (by rw [hal];omega)]
   go_simp
  have hH0:=Lib.holds_zero0 w 155 (Lib.nDigits u) (by omega)
  have hfmt:= Tryz.internal_strconv_formatBase10 w.heap.size 0 24 u (Array.replicate (Lib.nDigits u) 0) (w.alloc (.cells Lib.zeros24 155)) hH0 (by rw [Array.size_replicate];exact Lib.lt_pow_nDigits u) hu64 (by rw [Array.size_replicate];omega)
  rw [Array.size_replicate] at hfmt
  have HH0:=Lib.hid hH0
  clear hH0 hal
  go_enter Tryz.func161, Tryz.ntmps161
  go_wp2_with (first
   | (go_at_call 158;refine (Tryz.internal_strconv_numDigits u hu1 hu64 _ (Lib.tabIs_alloc htab _)).mono ?_;rintro e w' ⟨rfl,rfl⟩))
  go_at_call 159
  refine hfmt.mono ?_
  rintro e w' ⟨rfl,k,v',dk,rfl,hF⟩
  have hcv:(convert 98 9 (.slice (some ⟨w.heap.size,0,none⟩) (Lib.nDigits u) 24)).run Tryz.prog ((putRow (fun (b:UInt8)=>Value.int .u8 (b.toNat:Int)) (w.alloc (.cells Lib.zeros24 155)) w.heap.size 0 dk).drewN k)=.ok (.string ⟨(Lib.decDigits u).toArray⟩) ((putRow (fun (b:UInt8)=>Value.int .u8 (b.toNat:Int)) (w.alloc (.cells Lib.zeros24 155)) w.heap.size 0 dk).drewN k):=by
   have h:=run_convert_bytes_back (P:= Tryz.prog) ((putRow (fun (b:UInt8)=>Value.int .u8 (b.toNat:Int)) (w.alloc (.cells Lib.zeros24 155)) w.heap.size 0 dk).drewN k) 98 9 5 ⟨w.heap.size,0,none⟩ 24 (Lib.decDigits u) Tryz.underlying98 Tryz.underlying5 Tryz.underlying9 (fun j hj=>by
    rw [Lib.row_is_numeral hF j hj,Lib.add_plain,World.cell?_drewN]
    exact cell?_putRow (fun (b:UInt8)=>Value.int .u8 (b.toNat:Int)) _ w.heap.size 0 _ dk HH0.out (by rw [hF.size,Array.size_replicate]) j (by rw [hF.size];rw [Lib.decDigits_length] at hj;exact hj))
   rw [Lib.decDigits_length] at h
   exact h
  go_wp2
  go_ret
  obtain ⟨os,eo⟩:=Lib.fin_at w (.cells Lib.zeros24 155) dk k 0
  exact ⟨rfl,k,os,eo⟩
theorem fu_c:
  Calls Tryz.prog 139 #[.int .u64 u,.int .i64 10] w fun e w'=>e=.returned (.string ⟨(Lib.decDigits u).toArray⟩)∧∃k os,w'=grow (w.drewN k) os:=by
 go_enter Tryz.func139, Tryz.ntmps139
 go_wp2_with (go_at_call 161;refine (ifu_c u hu64 _ htab).mono ?_;rintro e w' ⟨rfl,k,os,rfl⟩)
 go_ret
 exact ⟨rfl,k,os,rfl⟩
end
def oFU:List AV→Option AV
 | [.lit (.int .u64 u),.lit (.int .i64 10)]=>if 0≤u∧u<18446744073709551616 then some (.lit (.string ⟨(Lib.decDigits u.toNat).toArray⟩)) else none
 | _=>none
theorem con_fu:∀args r,oFU args=some r→Con Tryz.prog 139 args r:=fun args r hr=>by
 unfold oFU at hr
 split at hr
 ·rename_i u
  split at hr
  ·rename_i hn
   cases hr
   intro w ok vs hgl hv
   obtain ⟨v,v2,rfl,hv1,hv2⟩:=rv_list2 hv
   cases hv1
   cases hv2
   obtain ⟨m,rfl⟩:∃m:Nat,u=m:=⟨u.toNat,by omega⟩
   rw [Int.toNat_natCast]
   refine (fu_c m (by omega) w (globTab hgl)).mono ?_
   rintro e w' ⟨rfl,k,os,rfl⟩
   exact ⟨_,rfl,.lit _,below_grow_drew⟩
  ·cases hr
 ·cases hr
end Go.Proofs.YtefdjbknmfeooaaGreatDoor
set_option linter.all false
set_option maxRecDepth 100000
namespace Go.Proofs.YtefdjbknmfeooaaGreatDoor
open Go.RowKit
theorem rv_list3{R:AV→Value→Prop}{a b c:AV}{vs:Array Value}(h:RV R [a,b,c] vs.toList):∃v u t,vs=#[v,u,t]∧R a v∧R b u∧R c t:=by
 obtain ⟨h1,h2⟩:=h
 obtain ⟨u,h3,h4⟩:=h2 0 a rfl
 obtain ⟨u',h5,h6⟩:=h2 1 b rfl
 obtain ⟨u2,h7,h8⟩:=h2 2 c rfl
 refine ⟨u,u',u2,?_,h4,h6,h8⟩
 apply Array.toList_inj.1
 match hv:vs.toList,h1 with
 | [x,y,z],_=>rw [hv] at h3 h5 h7;simp at h3 h5 h7;rw [h3,h5,h7]
def oQt:List AV→Option AV
 | [.lit (.bool b),a,c]=>match decN a,decN c with
   | some x,some y=>if fewN x && fewN y && Nat.blt 0 (val y) then some (ratA (mkRat (sgi b (val x)) (val y))) else none
   | _,_=>none
 | _=>none
theorem conQt{P:Program}{f:FuncId}(h:∀(w:World) (b:Bool) (x y:List Nat) (a1 a2:Option Addr) (n1 c1 n2 c2:Nat),LimR w a1 n1 c1 x→LimR w a2 n2 c2 y→n1≤68719476736→n2≤68719476736→0<val y→Calls P f #[.bool b,.slice a1 n1 c1,.slice a2 n2 c2] w (Ret (ratA (mkRat (sgi b (val x)) (val y))) w)):∀args r,oQt args=some r→Con P f args r:=by
 intro args r hr
 unfold oQt at hr
 split at hr
 ·rename_i b a c
  split at hr
  ·rename_i x y hx hy
   split at hr
   ·rename_i hfew
    cases hr
    simp only [Bool.and_eq_true] at hfew
    refine con_ret fun w ok vs hv=>?_
    obtain ⟨v,u,t,rfl,hv0,hv1,hv2⟩:=rv_list3 hv
    cases hv0
    obtain ⟨a1,n1,c1,rfl,h1⟩:=decN_sound hv1 hx
    obtain ⟨a2,n2,c2,rfl,h2⟩:=decN_sound hv2 hy
    exact h w b x y a1 a2 n1 c1 n2 c2 h1 h2 (few_of hfew.1.1 h1.len) (few_of hfew.1.2 h2.len) (Nat.le_of_ble_eq_true hfew.2)
   ·cases hr
  ·cases hr
 ·cases hr
theorem con_quot:∀args r,oQt args=some r→Con Tryz.prog 110 args r:=conQt fun w b x y a1 a2 n1 c1 n2 c2 h1 h2 b1 b2 hd=>(quot_any w h1 h2 (by omega) (by omega) hd).mono fun _ _ h=>h.ret
theorem con_fquot:∀args r,oQt args=some r→Con Tryz.prog 77 args r:=conQt fun w b x y a1 a2 n1 c1 n2 c2 h1 h2 b1 b2 hd=>(fquot_any w h1 h2 (by omega) (by omega) hd).mono fun _ _ h=>h.ret
theorem con_fnmul:∀args r,oN2 (fun x y=>natA (lmb (val x*val y))) args=some r→Con Tryz.prog 74 args r:=conN2 fun w x y a1 a2 n1 c1 n2 c2 h1 h2 b1 b2=>(fmul_any w h1 h2 (by omega) (by omega)).mono fun _ _ h=>h.ret
theorem con_fnadd:∀args r,oN2 (fun x y=>natA (lmb (val x+val y))) args=some r→Con Tryz.prog 101 args r:=conN2 fun w x y a1 a2 n1 c1 n2 c2 h1 h2 b1 b2=>(fadd_any w h1 h2 (by omega) (by omega)).mono fun _ _ h=>h.ret
def unL(l:List Nat):List Nat:=if val l=0 then [1] else l
set_option maxHeartbeats 800000 in
theorem underL_any(w:World){neg:Bool}{a1 a2:Option Addr}{n1 n2 c1 c2:Nat}{l:List Nat}(h:LimR w a2 n2 c2 l)(hn:n2≤17592186044416):
  Calls Tryz.prog 111 #[.agg #[.bool neg,.slice a1 n1 c1,.slice a2 n2 c2]] w (Ret (natA (unL l)) w):=by
 have hb0:Below w.heap.size w (w.alloc (.cells #[.bool neg,.slice a1 n1 c1,.slice a2 n2 c2] 34)):=(Below.refl _ _).alloc (Nat.le_refl _) _
 have h':=h.on hb0
 go_enter Tryz.func111, Tryz.ntmps111
 go_wp2_with fail
 refine (nbits_any _ h' (by omega)).mono ?_
 rintro e w1 ⟨b,rfl,hb,HB,rfl⟩
 by_cases hz:b=0
 ·have HZ:Hid (val l=0):=HB.out.1 hz
  subst hz
  go_wp2_with fail
  refine (rone_any _).mono ?_
  rintro e w1 ⟨ad3,n3,c3,rfl,g3,hb3⟩
  go_wp2_with fail
  go_ret
  refine ⟨_,rfl,?_,hb0.trans (hb3.mono hb0.size)⟩
  unfold unL
  rw [if_pos HZ.out,←lmb_one]
  exact natA_rep g3
 ·have HZ:Hid (val l≠0):=fun e=>hz (HB.out.2 e)
  have e1:(b==0)=false:=by simp;exact hz
  clear hz
  go_wp2_with fail
  go_ret
  refine ⟨_,rfl,?_,hb0⟩
  unfold unL
  rw [if_neg HZ.out]
  exact natA_rep h'
theorem con_under:∀args r,(o1 fun x=>natA (unL x.l2)) args=some r→Con Tryz.prog 111 args r:=con1 fun w x a1 a2 n1 c1 n2 c2 h1 h2 b1 b2=>underL_any w h2 (by omega)
theorem con_fone:∀args r,(oN1 (fun _=>true) fun x=>natA (lmb (dn x))) args=some r→Con Tryz.prog 75 args r:=conN1 fun w x a n c h b _=>(fone_any w h (by omega)).mono fun _ _ h=>h.ret
end Go.Proofs.YtefdjbknmfeooaaGreatDoor
set_option linter.all false
set_option maxRecDepth 100000
namespace Go.Proofs.YtefdjbknmfeooaaGreatDoor
open Go.RowKit
theorem rvs_one{R:AV→Value→Prop}{a:AV}{v:Value}(h:R a v):RV R [a] (#[v]:Array Value).toList:=⟨rfl,fun i d hi=>by
 cases i with
 | zero=>cases hi;exact ⟨_,rfl,h⟩
 | succ i=>simp at hi⟩
theorem roomy_t{n b:Nat}(h:n≤100000000)(hb:b≤10000):roomy n b=true:=by
 unfold roomy
 have:n*b≤100000000*10000:=Nat.mul_le_mul h hb
 rw [Bool.and_eq_true]
 exact ⟨decide_eq_true (by omega),decide_eq_true (by omega)⟩
theorem re_row{E:Nat→Nat→Prop}{L':Nat→Option Value}{w':World}{e:TypeId}{k:Nat}{v:Value}(hb:BsRel E (lookB [(1,.row e k [] 0)]) L' w')(hv:L' 1=some v):BsRel E (lookB [(2,.row e k [] 0)]) (setL L' 2 v) w':=by
 have one:∀j id blk,lookB [(j,AB.row e k [] 0)] id=some blk→id=j∧blk=.row e k [] 0:=fun j id blk h=>by
  rw [lookB] at h
  split at h
  ·rename_i h2
   cases h
   exact ⟨h2,rfl⟩
  ·cases h
 have self:∀j,lookB [(j,AB.row e k [] 0)] j=some (.row e k [] 0):=fun j=>by rw [lookB,if_pos rfl]
 have eo:okS E (lookB [(2,AB.row e k [] 0)]) (setL L' 2 v)=okS E (lookB [(1,.row e k [] 0)]) L':=by
  funext b o
  refine propext ⟨fun h=>⟨h.1,fun id blk u h1 h2 h3=>?_⟩,fun h=>⟨h.1,fun id blk u h1 h2 h3=>?_⟩⟩
  ·obtain ⟨rfl,rfl⟩:=one 1 id blk h1
   rw [hv] at h2;cases h2
   exact h.2 2 _ _ (self 2) (setL_self _ _ _) h3
  ·obtain ⟨rfl,rfl⟩:=one 2 id blk h1
   rw [setL_self] at h2;cases h2
   exact h.2 1 _ _ (self 1) hv h3
 refine ⟨fun id blk h=>?_,fun id blk u g h1 h2 h3=>?_,hb.fresh,hb.limb,fun id id' blk blk' u u' g h1 h2 _ _ _ _=>(one 2 id blk h1).1.trans (one 2 id' blk' h2).1.symm,by rw [eo];exact hb.glob⟩
 ·obtain ⟨rfl,rfl⟩:=one 2 id blk h
  obtain ⟨v0,xs,h1,h2,h3,h4,h5⟩:=hb.blk 1 _ (self 1)
  rw [hv] at h1;cases h1
  exact ⟨_,xs,setL_self _ _ _,h2,h3,h4,fun i j x d hi=>(by simp at hi)⟩
 ·obtain ⟨rfl,rfl⟩:=one 2 id blk h1
  rw [setL_self] at h2;cases h2
  exact hb.ext 1 _ _ g (self 1) hv h3
noncomputable def cuA(keep:Bool):List AV→List AB→Option (AV × List (Nat × AB)):=fnL Tryz.prog noO noL 5 Tryz.f57 keep
def clU:List AV→List AB→Option (AV × List (Nat × AB))
 | [.sl 4 es],[]=>if okEls 4 es=true∧es.length≤10000000 then some (.own 2 es.length,[(2,.row 45 4 es 0)]) else none
 | _,_=>none
theorem clU_eq{es:List (List AV)}(h:okEls 4 es=true)(hl:es.length≤10000000):clU [.sl 4 es] []=some (.own 2 es.length,[(2,.row 45 4 es 0)]):=if_pos ⟨h,hl⟩
theorem cuA_con{keep:Bool}{args:List AV}{bin:List AB}{r:AV}{outs:List (Nat × AB)}(h:cuA keep args bin=some (r,outs)):ConL Tryz.prog 57 bin args r outs:=
 conL_of OrcOk.none mixed Tryz.func57 rfl h
theorem cuA_nil(c:Nat):cuA true [.lit (.slice none 0 c)] []=some (.own 1 0,[(1,.row 45 4 [] 0)]):=rfl
theorem cuA_emp(a:Addr)(c:Nat):cuA true [.lit (.slice (some a) 0 c)] []=some (.own 2 0,[(2,.row 45 4 [] 0)]):=by
 have hr:roomy 0 64=true:=by decide
 have hr2:roomy 0 80=true:=by decide
 have hpt:ptT Tryz.prog 22=none:=by kernel_rfl
 unfold cuA fnL
 simp+decide [hpt,ptrB,slEq, Tryz.f57,hr,hr2]
theorem cuA_cons{e:List AV}{es:List (List AV)}(h:okEls 4 (e::es)=true)(hl:es.length≤10000000):cuA true [.sl 4 (e::es)] []=some (.own 2 (es.length+1),[(2,.row 45 4 (e::es) 0)]):=by
 have hr:∀b,b≤10000→roomy (es.length+1) b=true:=fun b hb=>roomy_t (by omega) hb
 have hr2:roomy (es.length+1) 64=true:=hr _ (by omega)
 have hpt:ptT Tryz.prog 22=none:=by kernel_rfl
 unfold cuA fnL
 simp+decide [hpt,ptrB,slEq, Tryz.f57,hr,hr2,h]
theorem con_clU:∀bin args r outs,clU args bin=some (r,outs)→ConL Tryz.prog 57 bin args r outs:=fun bin args r outs h=>by
 unfold clU at h
 split at h
 ·rename_i es
  split at h
  ·rename_i hc
   cases h
   cases es with
   | cons e es=>exact cuA_con (cuA_cons hc.1 (by have:=hc.2;rw [List.length_cons] at this;omega))
   | nil=>
     intro w E L vs hbs hn hvs
     obtain ⟨v,rfl,hv⟩:=rv_list1 hvs
     have hv':∃a c,v=.slice a 0 c:=by
      cases hv with
      | t h=>cases h with
        | nil a c=>exact ⟨a,c,rfl⟩
        | sl=>exact ⟨_,_,rfl⟩
     obtain ⟨a,c,rfl⟩:=hv'
     cases a with
     | some a=>exact cuA_con (cuA_emp a c) w E L #[.slice (some a) 0 c] hbs hn (rvs_one (.t (.lit _)))
     | none=>
       refine (cuA_con (cuA_nil c) w E L #[.slice none 0 c] hbs hn (rvs_one (.t (.lit _)))).mono ?_
       rintro e w' ⟨v',L',he,hL,hb,hr,hrun⟩
       cases hr with
       | t h=>cases h
       | own h1=>
         refine ⟨_,setL L' 2 _,he,fun i u hi=>by simp at hi,re_row hb h1,.own (setL_self _ _ _),⟨hrun.mod,fun id blk v g k1 k2 k3 k4=>?_⟩⟩
         rw [lookB] at k1
         split at k1
         ·rename_i h4
          subst h4
          cases k1
          rw [setL_self] at k2
          cases k2
          exact hrun.own 1 _ _ g (by rw [lookB,if_pos rfl]) h1 k3 k4
         ·cases k1
  ·cases h
 ·cases h
noncomputable def cvA(keep:Bool):List AV→List AB→Option (AV × List (Nat × AB)):=fnL Tryz.prog noO noL 5 Tryz.f106 keep
def clV:List AV→List AB→Option (AV × List (Nat × AB))
 | [.sl 4 es],[]=>if okEls 4 es=true∧es.length≤10000000 then some (.own 2 es.length,[(2,.row 57 4 es 0)]) else none
 | _,_=>none
theorem clV_eq{es:List (List AV)}(h:okEls 4 es=true)(hl:es.length≤10000000):clV [.sl 4 es] []=some (.own 2 es.length,[(2,.row 57 4 es 0)]):=if_pos ⟨h,hl⟩
theorem cvA_con{keep:Bool}{args:List AV}{bin:List AB}{r:AV}{outs:List (Nat × AB)}(h:cvA keep args bin=some (r,outs)):ConL Tryz.prog 106 bin args r outs:=
 conL_of OrcOk.none mixed Tryz.func106 rfl h
theorem cvA_nil(c:Nat):cvA true [.lit (.slice none 0 c)] []=some (.own 1 0,[(1,.row 57 4 [] 0)]):=rfl
theorem cvA_emp(a:Addr)(c:Nat):cvA true [.lit (.slice (some a) 0 c)] []=some (.own 2 0,[(2,.row 57 4 [] 0)]):=by
 have hr:roomy 0 64=true:=by decide
 have hr2:roomy 0 80=true:=by decide
 have hpt:ptT Tryz.prog 43=none:=by kernel_rfl
 unfold cvA fnL
 simp+decide [hpt,ptrB,slEq, Tryz.f106,hr,hr2]
theorem cvA_cons{e:List AV}{es:List (List AV)}(h:okEls 4 (e::es)=true)(hl:es.length≤10000000):cvA true [.sl 4 (e::es)] []=some (.own 2 (es.length+1),[(2,.row 57 4 (e::es) 0)]):=by
 have hr:∀b,b≤10000→roomy (es.length+1) b=true:=fun b hb=>roomy_t (by omega) hb
 have hr2:roomy (es.length+1) 64=true:=hr _ (by omega)
 have hpt:ptT Tryz.prog 43=none:=by kernel_rfl
 unfold cvA fnL
 simp+decide [hpt,ptrB,slEq, Tryz.f106,hr,hr2,h]
theorem con_clV:∀bin args r outs,clV args bin=some (r,outs)→ConL Tryz.prog 106 bin args r outs:=fun bin args r outs h=>by
 unfold clV at h
 split at h
 ·rename_i es
  split at h
  ·rename_i hc
   cases h
   cases es with
   | cons e es=>exact cvA_con (cvA_cons hc.1 (by have:=hc.2;rw [List.length_cons] at this;omega))
   | nil=>
     intro w E L vs hbs hn hvs
     obtain ⟨v,rfl,hv⟩:=rv_list1 hvs
     have hv':∃a c,v=.slice a 0 c:=by
      cases hv with
      | t h=>cases h with
        | nil a c=>exact ⟨a,c,rfl⟩
        | sl=>exact ⟨_,_,rfl⟩
     obtain ⟨a,c,rfl⟩:=hv'
     cases a with
     | some a=>exact cvA_con (cvA_emp a c) w E L #[.slice (some a) 0 c] hbs hn (rvs_one (.t (.lit _)))
     | none=>
       refine (cvA_con (cvA_nil c) w E L #[.slice none 0 c] hbs hn (rvs_one (.t (.lit _)))).mono ?_
       rintro e w' ⟨v',L',he,hL,hb,hr,hrun⟩
       cases hr with
       | t h=>cases h
       | own h1=>
         refine ⟨_,setL L' 2 _,he,fun i u hi=>by simp at hi,re_row hb h1,.own (setL_self _ _ _),⟨hrun.mod,fun id blk v g k1 k2 k3 k4=>?_⟩⟩
         rw [lookB] at k1
         split at k1
         ·rename_i h4
          subst h4
          cases k1
          rw [setL_self] at k2
          cases k2
          exact hrun.own 1 _ _ g (by rw [lookB,if_pos rfl]) h1 k3 k4
         ·cases k1
  ·cases h
 ·cases h
end Go.Proofs.YtefdjbknmfeooaaGreatDoor
set_option linter.all false
namespace Go.Proofs.YtefdjbknmfeooaaGreatDoor
open Go.RowKit
noncomputable def orc0:FuncId→Option Orc:=(ext (ext (ext (ext (ext (ext (ext (ext (ext (ext (ext (ext (ext (ext (ext (ext (ext (ext (ext (ext (ext (ext (ext (ext (ext (ext (ext (ext (ext (ext (ext (ext (ext (ext (ext (ext (ext (ext (ext (ext noO 51 (.pure (o2 fun x y=>ratA (x.q+y.q)))) 87 (.pure (o2 fun x y=>ratA (x.q-y.q)))) 72 (.pure (o2 fun x y=>ratA (x.q*y.q)))) 86 (.pure (o1 fun x=>ratA (-x.q)))) 61 (.pure (o1 fun x=>ratA x.q))) 67 (.pure (o1 fun x=>.lit (.int .i64 (sgR x.q))))) 60 (.pure (o2 fun x y=>.lit (.int .i64 (sgR (x.q-y.q)))))) 49 (.pure (o2 fun x y=>.lit (.bool (decide (x.s=y.s∧x.l1=y.l1∧x.l2=y.l2)))))) 45 (.pure (o1 fun x=>.lit (.bool (decide (RatV x.s x.l1 x.l2)))))) 32 (.pure (oZ fun z=>ratA (z:Rat)))) 144 (.pure (o2 fun x y=>ratA (x.q+y.q)))) 145 (.pure (o2 fun x y=>ratA (x.q*y.q)))) 82 (.pure (o1 fun x=>ratA x.q))) 107 (.pure (o1 fun x=>.lit (.int .i64 (sgR x.q))))) 112 (.pure (o1 fun x=>.lit (.bool (decide (RatV x.s x.l1 x.l2)))))) 63 (.pure (oZ fun z=>ratA (z:Rat)))) 81 (.pure (o2 fun x y=>.lit (.int .i64 (sgR (x.q-y.q)))))) 119 (.pure (oU fun k=>natA (lmb k)))) 175 (.pure (oN2 fun x y=>natA (lmb (val x+val y))))) 148 (.pure (oN2 fun x y=>natA (lmb (val x*val y))))) 129 (.pure (oN1 (fun _=>true) fun x=>natA (lmb (val x))))) 132 (.pure (oND fun x y=>.tup [natA (lmb (val x / val y)),natA (lmb (val x % val y)),.lit (.int .i64 0)]))) 138 (.pure (oN1 u64N fun x=>.tup [.lit (.int .u64 (val x:Nat)),.lit (.bool true)]))) 79 (.pure (oU fun k=>natA (lmb k)))) 100 (.pure (oN1 (fun _=>true) fun x=>natA (lmb (val x))))) 104 (.pure (oND fun x y=>.tup [natA (lmb (val x / val y)),natA (lmb (val x % val y)),.lit (.int .i64 0)]))) 121 (.pure (oN1 u64N fun x=>.tup [.lit (.int .u64 (val x:Nat)),.lit (.bool true)]))) 74 (.pure (oN2 fun x y=>natA (lmb (val x*val y))))) 101 (.pure (oN2 fun x y=>natA (lmb (val x+val y))))) 111 (.pure (o1 fun x=>natA (unL x.l2)))) 75 (.pure (oN1 (fun _=>true) fun x=>natA (lmb (dn x))))) 110 (.pure (oQt))) 77 (.pure (oQt))) 139 (.pure (oFU))) 91 (.pure (oItoa))) 140 (.pure (oRepeat))) 142 (.pure (oJoin))) 115 (.lin [true] ccG)) 57 (.lin [] clU)) 106 (.lin [] clV))
theorem orc0_ok:OrcOk Tryz.prog orc0:=by
 refine OrcOk.extL (OrcOk.extL (OrcOk.extL (OrcOk.extP (OrcOk.extP (OrcOk.extP (OrcOk.extP (OrcOk.extP (OrcOk.extP (OrcOk.extP (OrcOk.extP (OrcOk.extP (OrcOk.extP (OrcOk.extP (OrcOk.extP (OrcOk.extP (OrcOk.extP (OrcOk.extP (OrcOk.extP (OrcOk.extP (OrcOk.extP (OrcOk.extP (OrcOk.extP (OrcOk.extP (OrcOk.extP (OrcOk.extP (OrcOk.extP (OrcOk.extP (OrcOk.extP (OrcOk.extP (OrcOk.extP (OrcOk.extP (OrcOk.extP (OrcOk.extP (OrcOk.extP (OrcOk.extP (OrcOk.extP (OrcOk.extP (OrcOk.extP (OrcOk.extP OrcOk.none (by kernel_rfl) ?_) (by kernel_rfl) ?_) (by kernel_rfl) ?_) (by kernel_rfl) ?_) (by kernel_rfl) ?_) (by kernel_rfl) ?_) (by kernel_rfl) ?_) (by kernel_rfl) ?_) (by kernel_rfl) ?_) (by kernel_rfl) ?_) (by kernel_rfl) ?_) (by kernel_rfl) ?_) (by kernel_rfl) ?_) (by kernel_rfl) ?_) (by kernel_rfl) ?_) (by kernel_rfl) ?_) (by kernel_rfl) ?_) (by kernel_rfl) ?_) (by kernel_rfl) ?_) (by kernel_rfl) ?_) (by kernel_rfl) ?_) (by kernel_rfl) ?_) (by kernel_rfl) ?_) (by kernel_rfl) ?_) (by kernel_rfl) ?_) (by kernel_rfl) ?_) (by kernel_rfl) ?_) (by kernel_rfl) ?_) (by kernel_rfl) ?_) (by kernel_rfl) ?_) (by kernel_rfl) ?_) (by kernel_rfl) ?_) (by kernel_rfl) ?_) (by kernel_rfl) ?_) (by kernel_rfl) ?_) (by kernel_rfl) ?_) (by kernel_rfl) ?_) (by kernel_rfl) ?_) (by kernel_rfl) ?_) (by kernel_rfl) ?_
 ·exact con2 fun w x y a1 a2 a3 a4 n1 c1 n2 c2 n3 c3 n4 c4 h1 h2 h3 h4 b1 b2 b3 b4=>(fradd_any w h1 h2 h3 h4 (by omega) (by omega) (by omega) (by omega)).mono fun _ _ h=>h.ret
 ·exact con2 fun w x y a1 a2 a3 a4 n1 c1 n2 c2 n3 c3 n4 c4 h1 h2 h3 h4 b1 b2 b3 b4=>(frsub_any w h1 h2 h3 h4 (by omega) (by omega) (by omega) (by omega)).mono fun _ _ h=>h.ret
 ·exact con2 fun w x y a1 a2 a3 a4 n1 c1 n2 c2 n3 c3 n4 c4 h1 h2 h3 h4 b1 b2 b3 b4=>(frmul_any w h1 h2 h3 h4 (by omega) (by omega) (by omega) (by omega)).mono fun _ _ h=>h.ret
 ·exact con1 fun w x a1 a2 n1 c1 n2 c2 h1 h2 b1 b2=>(fneg_any w h1 h2 (by omega) (by omega)).mono fun _ _ h=>h.ret
 ·exact con1 fun w x a1 a2 n1 c1 n2 c2 h1 h2 b1 b2=>(fcanon_any w h1 h2 (by omega) (by omega)).mono fun _ _ h=>h.ret
 ·exact con1 fun w x a1 a2 n1 c1 n2 c2 h1 h2 b1 b2=>(fsign_any w x.l2 h1 (by omega)).mono fun _ _ h=>h.ret
 ·exact con2 fun w x y a1 a2 a3 a4 n1 c1 n2 c2 n3 c3 n4 c4 h1 h2 h3 h4 b1 b2 b3 b4=>(frcmp_any w h1 h2 h3 h4 (by omega) (by omega) (by omega) (by omega)).mono fun _ _ h=>h.ret
 ·exact con2 fun w x y a1 a2 a3 a4 n1 c1 n2 c2 n3 c3 n4 c4 h1 h2 h3 h4 b1 b2 b3 b4=>(frsame_any w h1 h2 h3 h4 (by omega) (by omega) (by omega) (by omega)).mono fun _ _ h=>h.ret
 ·exact con1 fun w x a1 a2 n1 c1 n2 c2 h1 h2 b1 b2=>(fvalid_any w h1 h2 (by omega) (by omega)).mono fun _ _ h=>h.ret
 ·exact con_of_z
 ·exact con2 fun w x y a1 a2 a3 a4 n1 c1 n2 c2 n3 c3 n4 c4 h1 h2 h3 h4 b1 b2 b3 b4=>(radd_any w h1 h2 h3 h4 (by omega) (by omega) (by omega) (by omega)).mono fun _ _ h=>h.ret
 ·exact con2 fun w x y a1 a2 a3 a4 n1 c1 n2 c2 n3 c3 n4 c4 h1 h2 h3 h4 b1 b2 b3 b4=>(rmul_any w h1 h2 h3 h4 (by omega) (by omega) (by omega) (by omega)).mono fun _ _ h=>h.ret
 ·exact con1 fun w x a1 a2 n1 c1 n2 c2 h1 h2 b1 b2=>(canon_any w h1 h2 (by omega) (by omega)).mono fun _ _ h=>h.ret
 ·exact con1 fun w x a1 a2 n1 c1 n2 c2 h1 h2 b1 b2=>(rsign_any w x.l2 h1 (by omega)).mono fun _ _ h=>h.ret
 ·exact con1 fun w x a1 a2 n1 c1 n2 c2 h1 h2 b1 b2=>(rvalid_any w h1 h2 (by omega) (by omega)).mono fun _ _ h=>h.ret
 ·exact con_of_zp
 ·exact con_pcmp
 ·exact con_nof
 ·exact con_nadd
 ·exact con_nmul
 ·exact con_nmake
 ·exact con_ndiv
 ·exact con_nuint
 ·exact con_fnof
 ·exact con_fnmake
 ·exact con_fndiv
 ·exact con_fnuint
 ·exact con_fnmul
 ·exact con_fnadd
 ·exact con_under
 ·exact con_fone
 ·exact con_quot
 ·exact con_fquot
 ·exact con_fu
 ·exact con_itoa
 ·exact con_repeat
 ·exact con_join
 ·exact con_cc
 ·exact con_clU
 ·exact con_clV
end Go.Proofs.YtefdjbknmfeooaaGreatDoor
