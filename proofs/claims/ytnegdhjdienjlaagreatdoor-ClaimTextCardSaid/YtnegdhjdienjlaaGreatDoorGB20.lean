import Derived.Test.YtnegdhjdienjlaaGreatDoorGB15
import Derived.Test.YtnegdhjdienjlaaGreatDoorGB17
import Derived.Test.YtnegdhjdienjlaaGreatDoorGB19
import Derived.Test.YtnegdhjdienjlaaGreatDoorGB16
import Derived.Lib.IndexAny
import Derived.Lib.IndexBytes
set_option linter.all false
set_option maxHeartbeats 6400000
set_option maxRecDepth 100000
namespace Go.Proofs.YtnegdhjdienjlaaGreatDoor
section
open Go.RowKit Go.Lib
def swp(a b x:UInt8):UInt8:=if x=a then b else x
theorem index_eq(c:UInt8)(l:List UInt8):index (c::l) [c]=0:=by simp [index]
theorem index_ne{b c:UInt8}(h:b≠c)(l:List UInt8):index (b::l) [c]=if index l [c]==-1 then -1 else index l [c]+1:=by
 rw [index,if_neg]
 simp [Ne.symm h]
theorem index_mem(c:UInt8):∀(l:List UInt8),0≤index l [c]↔c∈l
 | []=>by simp [index]
 | b::l=>by
   by_cases h:b=c
   ·subst h;simp [index_eq]
   ·rw [index_ne h,List.mem_cons,←index_mem c l]
    have hg:=index_ge l [c]
    by_cases h9:index l [c]=-1
    ·rw [h9];simp;exact fun e=>h e.symm
    ·rw [if_neg (by simpa using h9)]
     constructor
     ·intro _;exact .inr (by omega)
     ·intro _;omega
theorem repK(a b:UInt8):∀(s:List UInt8),replaceK [a] [b] (s.count a) s=s.map (swp a b)
 | []=>by simp [replaceK]
 | x::l=>by
   have ih:=repK a b l
   by_cases h:x=a
   ·subst h
    rw [List.count_cons_self,replaceK_hit [x] [b] _ _ 0 (index_eq x l)]
    simp only [List.take_zero,List.nil_append,List.length_singleton,Nat.zero_add,List.drop_succ_cons,List.drop_zero,List.singleton_append,List.map_cons]
    rw [ih]
    simp [swp]
   ·rw [List.count_cons_of_ne h,List.map_cons,←ih]
    have e:swp a b x=x:=if_neg h
    rw [e]
    cases hk:l.count a with
    | zero=>simp [replaceK]
    | succ k=>
      obtain ⟨i,hi⟩:=index_of_count (s:=l) (old:=[a]) (by rw [count_one];omega)
      rw [replaceK_hit [a] [b] k l i hi,replaceK_hit [a] [b] k (x::l) (i+1) (by
       rw [index_ne h,hi,if_neg (by simp)];rfl)]
      simp only [List.take_succ_cons,List.length_singleton,List.cons_append,List.drop_succ_cons]
theorem repAll{a b:UInt8}(h:a≠b)(s:List UInt8):replaceAll s [a] [b]=s.map (swp a b):=by
 unfold replaceAll replace replaceNum
 rw [if_neg (by simpa using h),if_pos (.inl (by decide)),count_one,repK]
theorem countB_small(s:ByteArray)(c:UInt8):countB s ⟨#[c]⟩≤s.size:=countB_le ⟨#[c]⟩ (Nat.le_refl 1) s.size s (Nat.le_refl _)
theorem rep_c{a b:UInt8}(h:a≠b){L:List UInt8}(hL:L.length≤100000):oReplaceAll [.lit (.string (bs L)),.lit (.string ⟨#[a]⟩),.lit (.string ⟨#[b]⟩)]=some (.lit (.string (bs (L.map (swp a b))))):=by
 have h1:=countB_small (bs L) a
 rw [bs_size] at h1
 unfold oReplaceAll
 dsimp only
 have e1:(⟨#[a]⟩:ByteArray).size=1:=rfl
 have e2:(⟨#[b]⟩:ByteArray).size=1:=rfl
 rw [if_pos (by rw [bs_size,e1,e2];omega)]
 have e3:replaceAll (bs L).data.toList (⟨#[a]⟩:ByteArray).data.toList (⟨#[b]⟩:ByteArray).data.toList=L.map (swp a b):=by
  rw [bs_data];exact repAll h L
 rw [e3];rfl
theorem swB_c(a b:UInt8)(L:List UInt8):swB (a.toNat:Int) (b.toNat:Int) (bs L)=bs (L.map (swp a b)):=by
 unfold swB bs
 congr 2
 rw [show (⟨L.toArray⟩:ByteArray).data.toList=L by simp]
 apply List.map_congr_left
 intro x _
 unfold swp
 by_cases h:x=a
 ·subst h
  rw [if_pos rfl,if_pos rfl]
  simp
 ·rw [if_neg h,if_neg (fun e=>h (UInt8.toNat_inj.1 (by omega)))]
theorem swap_c{a b:UInt8}{L:List UInt8}(hL:L.length≤100000):oSwap [.lit (.string (bs L)),.lit (.int .u8 (a.toNat:Int)),.lit (.int .u8 (b.toNat:Int))]=some (.lit (.string (bs (L.map (swp a b))))):=by
 unfold oSwap
 dsimp only
 have h1:b.toNat<256:=b.toNat_lt
 rw [if_pos (by rw [bs_size];omega),swB_c]
theorem contains_c{c:UInt8}{L:List UInt8}(hL:L.length≤100000):oContains [.lit (.string (bs L)),.lit (.string ⟨#[c]⟩)]=some (.lit (.bool (decide (c∈L)))):=by
 unfold oContains
 dsimp only
 rw [if_pos (by rw [bs_size];omega),bs_data]
 have e:contains L (⟨#[c]⟩:ByteArray).data.toList=decide (c∈L):=by
  show decide (0≤index L [c])=_
  exact decide_eq_decide.2 (index_mem c L)
 rw [e]
def Cmp(L:List UInt8)(i:Nat):Prop:=L[i+1]?=some 61∧(L[i]?=some 60∨L[i]?=some 62)
theorem occ2(L:List UInt8)(c:UInt8)(i:Nat):occAt L [c,61] i=true↔L[i]?=some c∧L[i+1]?=some 61:=by
 unfold occAt
 have e0:(L.drop i)[0]?=L[i]?:=by rw [List.getElem?_drop];rfl
 have e1:(L.drop i)[1]?=L[i+1]?:=by rw [List.getElem?_drop]
 rw [←e0,←e1]
 match L.drop i with
 | []=>simp
 | [x]=>simp
 | x::y::r=>
   have e3:List.isPrefixOf ([]:List UInt8) r=true:=by cases r <;>rfl
   simp only [List.isPrefixOf_cons₂,e3,Bool.and_true,Bool.and_eq_true,beq_iff_eq,List.getElem?_cons_zero,List.getElem?_cons_succ,Option.some.injEq]
   constructor
   ·rintro ⟨rfl,rfl⟩;exact ⟨rfl,rfl⟩
   ·rintro ⟨rfl,rfl⟩;exact ⟨rfl,rfl⟩
def spF(L:List UInt8):Int:=if index L [62,61]<0 then index L [60,61] else if 0≤index L [60,61]∧index L [60,61]<index L [62,61] then index L [60,61] else index L [62,61]
theorem sp_spec(L:List UInt8):(spF L=-1∧∀j,¬Cmp L j)∨∃i:Nat,spF L=(i:Int)∧Cmp L i∧∀j,j<i→¬Cmp L j:=by
 have room:∀j c,L.length<j→¬(L[j]?=some c):=fun j c h e=>by rw [List.getElem?_eq_none (by omega)] at e;cases e
 have no:∀{c j},occAt L [c,61] j=false→¬(L[j]?=some c∧L[j+1]?=some 61):=fun h h2=>by rw [(occ2 L _ _).2 h2] at h;cases h
 unfold spF
 rcases index_spec L [62,61] with ⟨a1,a2⟩|⟨a,a1,a2,a3,a4⟩ <;>rcases index_spec L [60,61] with ⟨b1,b2⟩|⟨b,b1,b2,b3,b4⟩
 ·refine .inl ⟨by rw [a1,b1];rfl,fun j h=>?_⟩
  by_cases hj:j≤L.length
  ·rcases h.2 with h2|h2
   ·exact no (b2 j hj) ⟨h2,h.1⟩
   ·exact no (a2 j hj) ⟨h2,h.1⟩
  ·rcases h.2 with h2|h2 <;>exact room j _ (by omega) h2
 ·refine .inr ⟨b,by rw [a1,b1];rfl,⟨((occ2 L _ _).1 b3).2,.inl ((occ2 L _ _).1 b3).1⟩,fun j hj h=>?_⟩
  rcases h.2 with h2|h2
  ·exact no (b4 j hj) ⟨h2,h.1⟩
  ·exact no (a2 j (by omega)) ⟨h2,h.1⟩
 ·refine .inr ⟨a,by rw [a1,b1,if_neg (by omega),if_neg (by omega)],⟨((occ2 L _ _).1 a3).2,.inr ((occ2 L _ _).1 a3).1⟩,fun j hj h=>?_⟩
  rcases h.2 with h2|h2
  ·exact no (b2 j (by omega)) ⟨h2,h.1⟩
  ·exact no (a4 j hj) ⟨h2,h.1⟩
 ·by_cases hlt:b<a
  ·refine .inr ⟨b,by rw [a1,b1,if_neg (by omega),if_pos ⟨by omega,by omega⟩],⟨((occ2 L _ _).1 b3).2,.inl ((occ2 L _ _).1 b3).1⟩,fun j hj h=>?_⟩
   rcases h.2 with h2|h2
   ·exact no (b4 j hj) ⟨h2,h.1⟩
   ·exact no (a4 j (by omega)) ⟨h2,h.1⟩
  ·refine .inr ⟨a,by rw [a1,b1,if_neg (by omega),if_neg (by omega)],⟨((occ2 L _ _).1 a3).2,.inr ((occ2 L _ _).1 a3).1⟩,fun j hj h=>?_⟩
   rcases h.2 with h2|h2
   ·exact no (b4 j (by omega)) ⟨h2,h.1⟩
   ·exact no (a4 j hj) ⟨h2,h.1⟩
theorem sp_uniq{L:List UInt8}{i:Nat}(h:Cmp L i)(h2:∀j,j<i→¬Cmp L j):spF L=(i:Int):=by
 rcases sp_spec L with ⟨_,h3⟩|⟨k,h3,h4,h5⟩
 ·exact absurd h (h3 i)
 ·rcases Nat.lt_trichotomy i k with h6|h6|h6
  ·exact absurd h (h5 i h6)
  ·rw [h3,h6]
  ·exact absurd h4 (h2 k h6)
end
section
open Go.RowKit Go.Lib
def bl(c:UInt8):Bool:=c==32
def trL(L:List UInt8):List UInt8:=L.dropWhile bl
def trR(L:List UInt8):List UInt8:=(L.reverse.dropWhile bl).reverse
theorem contains32(c:UInt8):([32]:List UInt8).contains c=bl c:=by
 rw [Bool.eq_iff_iff]
 simp [bl]
theorem mem_tw{p:UInt8→Bool}:∀{L:List UInt8} {c:UInt8},c∈L.takeWhile p→p c=true
 | [],c,h=>by simp at h
 | x::L,c,h=>by
   rw [List.takeWhile_cons] at h
   split at h
   ·rename_i hx
    rcases List.mem_cons.1 h with rfl|h2
    ·exact hx
    ·exact mem_tw h2
   ·cases h
theorem dw_nil{p:UInt8→Bool}:∀{L:List UInt8},(∀c∈L,p c=true)→L.dropWhile p=[]
 | [],_=>rfl
 | x::L,h=>by
   rw [List.dropWhile_cons,if_pos (h x List.mem_cons_self)]
   exact dw_nil fun c hc=>h c (List.mem_cons_of_mem _ hc)
theorem left_bl(L:List UInt8):trimLeftS L [32]=trL L:=by
 unfold trimLeftS trL
 congr 1
 funext c
 exact contains32 c
theorem trim_bl(L:List UInt8):trimS L [32]=trL (trR L):=by
 unfold trimS
 rw [left_bl]
 unfold trimRightS trR
 congr 2
 congr 1
 funext c
 exact contains32 c
theorem trR_app{c:UInt8}(h:bl c=false)(L M:List UInt8):trR (L++c::M)=L++c::trR M:=by
 unfold trR
 rw [List.reverse_append,List.reverse_cons,List.append_assoc,List.dropWhile_append]
 have e:List.dropWhile bl ([c]++L.reverse)=c::L.reverse:=by simp [List.dropWhile_cons,h]
 rw [e]
 split
 ·rename_i h1
  have h2:List.dropWhile bl M.reverse=[]:=by simpa using h1
  rw [h2];simp
 ·simp
theorem trL_split(L:List UInt8):∃B,L=B++trL L∧(∀c∈B,bl c=true)∧∀c M,trL L=c::M→bl c=false:=by
 refine ⟨L.takeWhile bl,(List.takeWhile_append_dropWhile).symm,fun c hc=>?_,fun c M h=>?_⟩
 ·exact mem_tw hc
 ·have h1:(L.dropWhile bl).head?=some c:=by show (trL L).head?=_;rw [h];rfl
  have h2:=List.head?_dropWhile_not bl L
  rw [h1] at h2
  simpa using h2
theorem trL_app{B K:List UInt8}(h:∀c∈B,bl c=true):trL (B++K)=trL K:=by
 unfold trL
 rw [List.dropWhile_append]
 have e:B.dropWhile bl=[]:=dw_nil h
 rw [e];rfl
theorem trR_all{L:List UInt8}(h:∀c∈L,bl c=true):trR L=[]:=by
 unfold trR
 rw [dw_nil (fun c hc=>h c (List.mem_reverse.1 hc))]
 rfl
theorem trLR(L:List UInt8):trL (trR L)=trR (trL L):=by
 obtain ⟨B,h1,h2,h3⟩:=trL_split L
 cases hK:trL L with
 | nil=>
   rw [hK,List.append_nil] at h1
   rw [h1,trR_all h2]
   rfl
 | cons c M=>
   have hc:=h3 c M hK
   rw [hK] at h1
   have e1:trR L=B++c::trR M:=by rw [h1];exact trR_app hc B M
   have e2:trR (c::M)=c::trR M:=trR_app hc [] M
   rw [e1,e2,trL_app h2]
   simp [trL,List.dropWhile_cons,hc]
theorem trR_pre(L:List UInt8):trR L <+:L:=by
 have h:=List.dropWhile_suffix (l:=L.reverse) bl
 have h2:=List.reverse_prefix.2 h
 rw [List.reverse_reverse] at h2
 exact h2
def topW:List UInt8:=[116,111,112]
theorem top_cut{K:List UInt8}(h:hasPrefix K topW=true):K=topW++K.drop 3∧trR K=topW++trR (K.drop 3):=by
 unfold hasPrefix at h
 obtain ⟨X,rfl⟩:=List.isPrefixOf_iff_prefix.1 h
 have e:trR (topW++X)=topW++trR X:=trR_app (c:=112) (by decide) [116,111] X
 exact ⟨rfl,e⟩
def trB(L:List UInt8):List UInt8:=trR (trL L)
def tgP(X:List UInt8):Option Nat:=
 if X.head?=some 32∧trB X≠[]∧(trB X).length≤9∧¬((trB X).head?=some 48∧1<(trB X).length)∧∀c∈trB X,isD c=true then some (dgV (trB X) 0) else none
end
section
open Go.RowKit
attribute [local irreducible] run runL loopG exec
theorem bs_at(l:List UInt8)(i:Nat):(bs l)[i]?=l[i]?:=by
 by_cases h:i<l.length
 ·rw [getElem?_pos (bs l) i (by rw [bs_size];exact h),List.getElem?_eq_getElem h]
  rfl
 ·rw [getElem?_neg (bs l) i (by rw [bs_size];exact h),List.getElem?_eq_none (by omega)]
theorem bs_cut(l:List UInt8)(a b:Nat):(bs l).extract a b=bs ((l.drop a).take (b-a)):=by
 apply ba_ext
 rw [bs_data,←ba_toList,Lib.extract_toList,bs_data]
theorem bs_from(l:List UInt8)(a:Nat):(bs l).extract a (bs l).size=bs (l.drop a):=by
 rw [bs_cut,bs_size,List.take_of_length_le (by rw [List.length_drop];exact Nat.le_refl _)]
theorem bs_to(l:List UInt8)(b:Nat):(bs l).extract 0 b=bs (l.take b):=by
 rw [bs_cut,List.drop_zero,Nat.sub_zero]
section
variable {n : Nat} {L : List UInt8}
end
end
section
open Go.RowKit
structure Tparser where
 s:ByteArray
 at_:Int
end
section
open Go.RowKit
noncomputable def lbk_C0:Code:=(loopsOf (bodyOf Tryz.f175)).getD 0 .skip
def lbk_h0(a0:Tparser)(i_0:Int):St:=
 ⟨[(0,.ptr 0 0)],
  [(0,some (.box 201 [.lit (.string a0.s),.lit (.int .i64 i_0)] false))],1⟩
def lbk_o0a(a0:Tparser)(i_0:Int):St:=
 ⟨[],
  [(0,some (.box 201 [.lit (.string a0.s),.lit (.int .i64 i_0)] false))],1⟩
section
variable {n : Nat} {a0 : Tparser} {b3 : UInt8} {i_0 : Int}
theorem lbk_r0_1(C1:i_0<(a0.s.size:Int))(E2:a0.s[i_0.toNat]?=some b3)(Z2:0≤i_0)(C3:(b3.toNat:Int)=32)(W4:InI (i_0+1)):
  Cont 1 (exec Tryz.prog (tab n) 1 31 (livesOf 175) big lbk_C0) (livesOf 175 0) (lbk_h0 a0 i_0) (lbk_h0 a0 (i_0+1)):=by
 have C3_:((b3.toNat:Int)==32)=true:=by rw [C3];simp
 have C3_n:((b3.toNat:Int) !=32)=false:=by rw [C3];simp
 have W4_:IntKind.i64.wrap (i_0+1)=i_0+1:=wr64 W4.1 W4.2
 have EG2:∀h,(a0.s)[i_0.toNat]'h=b3:=fun h=>Option.some.inj ((getElem?_pos (a0.s) (i_0.toNat) h).symm.trans E2)
 unfold Cont
 simp+decide [EG2,lbk_h0,loopsOf, Tryz.f175,lbk_C0,C1,E2,Z2,C3_,C3_n,W4_]
theorem lbk_x0_1(C1:i_0<(a0.s.size:Int))(E2:a0.s[i_0.toNat]?=some b3)(Z2:0≤i_0)(C3:¬(b3.toNat:Int)=32):
  Leave 1 (exec Tryz.prog (tab n) 1 31 (livesOf 175) big lbk_C0) (livesOf 175 (outOf 0)) (lbk_h0 a0 i_0) (.exit 0) (lbk_o0a a0 i_0):=by
 have C3_:((b3.toNat:Int)==32)=false:=by simpa using C3
 have C3_n:((b3.toNat:Int) !=32)=true:=by simpa using C3
 have EG2:∀h,(a0.s)[i_0.toNat]'h=b3:=fun h=>Option.some.inj ((getElem?_pos (a0.s) (i_0.toNat) h).symm.trans E2)
 unfold Leave
 simp+decide [EG2,lbk_h0,loopsOf, Tryz.f175,lbk_o0a,lbk_C0,C1,E2,Z2,C3_,C3_n]
theorem lbk_x0_2(C1:¬i_0<(a0.s.size:Int)):
  Leave 1 (exec Tryz.prog (tab n) 1 31 (livesOf 175) big lbk_C0) (livesOf 175 (outOf 0)) (lbk_h0 a0 i_0) (.exit 0) (lbk_o0a a0 i_0):=by
 unfold Leave
 simp+decide [lbk_h0,loopsOf, Tryz.f175,lbk_o0a,lbk_C0,C1]
theorem lbk_f1(L1:loopG Tryz.prog (tab n) 1 31 (livesOf 175) 0 lbk_C0 (lbk_h0 a0 a0.at_)=some (.exit 0,lbk_o0a a0 i_0)):
  runL n 175 [.ptr 0 0] [.box 201 [.lit (.string a0.s),.lit (.int .i64 (a0.at_))] false]=some (.tup [],[(0,.box 201 [.lit (.string a0.s),.lit (.int .i64 i_0)] false)]):=by
 unfold runL fnL
 simp+decide [Tryz.f175]
 rw [loopX_G (C':=lbk_C0) (e:=(lbk_h0 a0 a0.at_)) ?_ ?_,L1]
 rotate_left
 ·kernel_rfl
 ·simp+decide [lbk_h0]
 simp+decide [lbk_o0a]
end
end
section
open Go.RowKit
section
variable {n : Nat} {a1 : ByteArray} {a0 : Tparser} {r : Int} {b : UInt8}
theorem lis_f1(C1:a0.at_<(a0.s.size:Int))(E2:a0.s[a0.at_.toNat]?=some b)(Z2:0≤a0.at_)(K3:(oIB) [.lit (.string a1),.lit (.int .u8 (b.toNat:Int))]=some (.lit (.int .i64 r))):
  runL (n+3) 176 [.ptr 0 0,.lit (.string a1)] [.box 201 [.lit (.string a0.s),.lit (.int .i64 (a0.at_))] false]=some (.lit (.bool (decide (0≤r))),[(0,.box 201 [.lit (.string a0.s),.lit (.int .i64 (a0.at_))] false)]):=by
 have EG2:∀h,(a0.s)[a0.at_.toNat]'h=b:=fun h=>Option.some.inj ((getElem?_pos (a0.s) (a0.at_.toNat) h).symm.trans E2)
 unfold runL fnL
 simp+decide [EG2, Tryz.f176,C1,E2,Z2,K3]
theorem lis_f2(C1:¬a0.at_<(a0.s.size:Int)):
  runL (n+3) 176 [.ptr 0 0,.lit (.string a1)] [.box 201 [.lit (.string a0.s),.lit (.int .i64 (a0.at_))] false]=some (.lit (.bool false),[(0,.box 201 [.lit (.string a0.s),.lit (.int .i64 (a0.at_))] false)]):=by
 unfold runL fnL
 simp+decide [Tryz.f176,C1]
end
end
section
open Go.RowKit
noncomputable def lnb_C7:Code:=(loopsOf (bodyOf Tryz.f221)).getD 0 .skip
def lnb_h7(a0:Tparser)(a1:Int)(i_7:Int):St:=
 ⟨[(0,.ptr 0 0),(1,.lit (.int .i64 a1)),(8,.lit (.int .i64 (a0.at_)))],
  [(0,some (.box 201 [.lit (.string a0.s),.lit (.int .i64 i_7)] false))],1⟩
def lnb_o7a(a0:Tparser)(z6:Int):St:=
 ⟨[(0,.ptr 0 0),(8,.lit (.int .i64 (a0.at_)))],
  [(0,some (.box 201 [.lit (.string a0.s),.lit (.int .i64 z6)] false))],1⟩
section
variable {n : Nat} {r6 : Bool} {a1 : Int} {a0 : Tparser} {z6 : Int} {i_7 : Int} {z : Int} {r : Bool} {a2 : Bool} {z2 : Int} {r2 : Bool} {r3 : Bool} {z3 : Int} {sub : ByteArray} {r7 : Bool} {z7 : Int} {sub2 : ByteArray}
section
variable(K1:runL (n+3) 176 [.ptr 0 0,.lit (.string (⟨#[48,49,50,51,52,53,54,55,56,57]⟩:ByteArray))] [.box 201 [.lit (.string a0.s),.lit (.int .i64 i_7)] false]=some (.lit (.bool r6),[(0,.box 201 [.lit (.string a0.s),.lit (.int .i64 z6)] false)]))
include K1
theorem lnb_r7_1(C2:r6=true)(W3:InI (z6-a0.at_))(C4:z6-a0.at_<a1)(W5:InI (z6+1)):
  Cont 1 (exec Tryz.prog (tab (n+4)) 1 62 (livesOf 221) big lnb_C7) (livesOf 221 7) (lnb_h7 a0 a1 i_7) (lnb_h7 a0 a1 (z6+1)):=by
 have W3_:IntKind.i64.wrap (z6-a0.at_)=z6-a0.at_:=wr64 W3.1 W3.2
 have W5_:IntKind.i64.wrap (z6+1)=z6+1:=wr64 W5.1 W5.2
 rw [C2] at K1
 unfold Cont
 simp+decide [lnb_h7,loopsOf, Tryz.f221,lnb_C7,K1,C2,W3_,C4,W5_]
theorem lnb_x7_1(C2:r6=true)(W3:InI (z6-a0.at_))(C4:¬z6-a0.at_<a1):
  Leave 1 (exec Tryz.prog (tab (n+4)) 1 62 (livesOf 221) big lnb_C7) (livesOf 221 (outOf 7)) (lnb_h7 a0 a1 i_7) (.exit 0) (lnb_o7a a0 z6):=by
 have W3_:IntKind.i64.wrap (z6-a0.at_)=z6-a0.at_:=wr64 W3.1 W3.2
 rw [C2] at K1
 unfold Leave
 simp+decide [lnb_h7,loopsOf, Tryz.f221,lnb_o7a,lnb_C7,K1,C2,W3_,C4]
theorem lnb_x7_2(C2:r6=false):
  Leave 1 (exec Tryz.prog (tab (n+4)) 1 62 (livesOf 221) big lnb_C7) (livesOf 221 (outOf 7)) (lnb_h7 a0 a1 i_7) (.exit 0) (lnb_o7a a0 z6):=by
 rw [C2] at K1
 unfold Leave
 simp+decide [lnb_h7,loopsOf, Tryz.f221,lnb_o7a,lnb_C7,K1,C2]
end
section
variable(K1:runL (n+3) 176 [.ptr 0 0,.lit (.string (⟨#[48,49,50,51,52,53,54,55,56,57]⟩:ByteArray))] [.box 201 [.lit (.string a0.s),.lit (.int .i64 (a0.at_))] false]=some (.lit (.bool r),[(0,.box 201 [.lit (.string a0.s),.lit (.int .i64 z)] false)]))
include K1
theorem lnb_f1(C2:r=false):
  runL (n+4) 221 [.ptr 0 0,.lit (.int .i64 a1),.lit (.bool a2)] [.box 201 [.lit (.string a0.s),.lit (.int .i64 (a0.at_))] false]=some (.tup [.lit (.string (⟨#[]⟩:ByteArray)),.lit (.bool false)],[(0,.box 201 [.lit (.string a0.s),.lit (.int .i64 z)] false)]):=by
 rw [C2] at K1
 unfold runL fnL
 simp+decide [Tryz.f221,K1,C2]
theorem lnb_f2(C2:r=true)(C3:a2=false)(K4:runL (n+3) 176 [.ptr 0 0,.lit (.string (⟨#[48]⟩:ByteArray))] [.box 201 [.lit (.string a0.s),.lit (.int .i64 z)] false]=some (.lit (.bool r2),[(0,.box 201 [.lit (.string a0.s),.lit (.int .i64 z2)] false)]))(C5:r2=true):
  runL (n+4) 221 [.ptr 0 0,.lit (.int .i64 a1),.lit (.bool a2)] [.box 201 [.lit (.string a0.s),.lit (.int .i64 (a0.at_))] false]=some (.tup [.lit (.string (⟨#[]⟩:ByteArray)),.lit (.bool false)],[(0,.box 201 [.lit (.string a0.s),.lit (.int .i64 z2)] false)]):=by
 rw [C2] at K1
 rw [C5] at K4
 unfold runL fnL
 simp+decide [Tryz.f221,K1,C2,C3,K4,C5]
theorem lnb_f4(C2:r=true)(C3:a2=false)(K4:runL (n+3) 176 [.ptr 0 0,.lit (.string (⟨#[48]⟩:ByteArray))] [.box 201 [.lit (.string a0.s),.lit (.int .i64 z)] false]=some (.lit (.bool r2),[(0,.box 201 [.lit (.string a0.s),.lit (.int .i64 z2)] false)]))(C5:r2=false)(K6:runL (n+3) 176 [.ptr 0 0,.lit (.string (⟨#[48]⟩:ByteArray))] [.box 201 [.lit (.string a0.s),.lit (.int .i64 z2)] false]=some (.lit (.bool r3),[(0,.box 201 [.lit (.string a0.s),.lit (.int .i64 z3)] false)]))(C7:r3=false)(L8:loopG Tryz.prog (tab (n+4)) 1 62 (livesOf 221) 7 lnb_C7 (lnb_h7 a0 a1 z3)=some (.exit 0,lnb_o7a a0 z6))(U9:0≤a0.at_∧a0.at_≤z6∧z6≤(a0.s.size:Int))(D9:sub=a0.s.extract a0.at_.toNat z6.toNat):
  runL (n+4) 221 [.ptr 0 0,.lit (.int .i64 a1),.lit (.bool a2)] [.box 201 [.lit (.string a0.s),.lit (.int .i64 (a0.at_))] false]=some (.tup [.lit (.string sub),.lit (.bool true)],[(0,.box 201 [.lit (.string a0.s),.lit (.int .i64 z6)] false)]):=by
 have D9_:=D9.symm
 rw [C2] at K1
 rw [C5] at K4
 rw [C7] at K6
 unfold runL fnL
 simp+decide [Tryz.f221,K1,C2,C3,K4,C5,K6,C7,U9,D9_]
 rw [loopX_G (C':=lnb_C7) (e:=(lnb_h7 a0 a1 z3)) ?_ ?_,L8]
 rotate_left
 ·kernel_rfl
 ·simp+decide [lnb_h7,K1,C2,C3,K4,C5,K6,C7,U9,D9_]
 simp+decide [lnb_o7a,K1,C2,C3,K4,C5,K6,C7,U9,D9_]
section
variable(C2:r=true)(C3:a2=true)(K4:runL (n+3) 176 [.ptr 0 0,.lit (.string (⟨#[48]⟩:ByteArray))] [.box 201 [.lit (.string a0.s),.lit (.int .i64 z)] false]=some (.lit (.bool r7),[(0,.box 201 [.lit (.string a0.s),.lit (.int .i64 z7)] false)]))
include C2 C3 K4
theorem lnb_f5(C5:r7=true)(W6:InI (z7+1)):
  runL (n+4) 221 [.ptr 0 0,.lit (.int .i64 a1),.lit (.bool a2)] [.box 201 [.lit (.string a0.s),.lit (.int .i64 (a0.at_))] false]=some (.tup [.lit (.string (⟨#[48]⟩:ByteArray)),.lit (.bool true)],[(0,.box 201 [.lit (.string a0.s),.lit (.int .i64 (z7+1))] false)]):=by
 have W6_:IntKind.i64.wrap (z7+1)=z7+1:=wr64 W6.1 W6.2
 rw [C2] at K1
 rw [C5] at K4
 unfold runL fnL
 simp+decide [Tryz.f221,K1,C2,C3,K4,C5,W6_]
theorem lnb_f6(C5:r7=false)(L6:loopG Tryz.prog (tab (n+4)) 1 62 (livesOf 221) 7 lnb_C7 (lnb_h7 a0 a1 z7)=some (.exit 0,lnb_o7a a0 z6))(U7:0≤a0.at_∧a0.at_≤z6∧z6≤(a0.s.size:Int))(D7:sub2=a0.s.extract a0.at_.toNat z6.toNat):
  runL (n+4) 221 [.ptr 0 0,.lit (.int .i64 a1),.lit (.bool a2)] [.box 201 [.lit (.string a0.s),.lit (.int .i64 (a0.at_))] false]=some (.tup [.lit (.string sub2),.lit (.bool true)],[(0,.box 201 [.lit (.string a0.s),.lit (.int .i64 z6)] false)]):=by
 have D7_:=D7.symm
 rw [C2] at K1
 rw [C5] at K4
 unfold runL fnL
 simp+decide [Tryz.f221,K1,C2,C3,K4,C5,U7,D7_]
 rw [loopX_G (C':=lnb_C7) (e:=(lnb_h7 a0 a1 z7)) ?_ ?_,L6]
 rotate_left
 ·kernel_rfl
 ·simp+decide [lnb_h7,K1,C2,C3,K4,C5,U7,D7_]
 simp+decide [lnb_o7a,K1,C2,C3,K4,C5,U7,D7_]
end
end
end
end
section
open Go.RowKit
noncomputable def lno_C4:Code:=(loopsOf (bodyOf Tryz.f222)).getD 0 .skip
def lno_h4(a0:ByteArray)(nat_4:List Nat)(r:List Nat)(i_4:Nat):St:=
 ⟨[(3,natA nat_4),(4,natA r),(9,.sl 1 ((byL a0).map intU8C)),(10,.lit (.int .i64 (((byL a0).length:Int)))),(11,.lit (.int .i64 (i_4:Int)))],
  [],0⟩
def lno_o4a(nat_4:List Nat):St:=
 ⟨[(3,natA nat_4)],
  [],0⟩
section
variable {nat_4 : List Nat} {n : Nat} {i_4 : Nat} {x3 : Int} {a0 : ByteArray} {r : List Nat} {r8 : List Nat} {r9 : List Nat} {r10 : List Nat}
theorem lno_r4_1(C1:(i_4:Int)<((byL a0).length:Int))(E2:(byL a0)[i_4]?=some x3)(K3:(oN2 fun x y=>natA (lmb (val x*val y))) [natA nat_4,natA r]=some (natA r8))(W4:IntKind.u8.wrap (x3-48)=x3-48)(W5:IntKind.u64.wrap (x3-48)=x3-48)(K6:(oU fun k=>natA (lmb k)) [.lit (.int .u64 (x3-48))]=some (natA r9))(K7:(oN2 fun x y=>natA (lmb (val x+val y))) [natA r8,natA r9]=some (natA r10))(W8:InI ((i_4:Int)+1)):
  Cont 0 (exec Tryz.prog (tab (n+2)) 0 25 (livesOf 222) big lno_C4) (livesOf 222 4) (lno_h4 a0 nat_4 r i_4) (lno_h4 a0 r10 r (i_4+1)):=by
 have C1_:i_4<(byL a0).length:=by omega
 obtain ⟨EL2,EG2⟩:=List.getElem?_eq_some_iff.1 E2
 have W8_:IntKind.i64.wrap ((i_4:Int)+1)=(i_4:Int)+1:=wr64 W8.1 W8.2
 unfold Cont
 simp+decide [lno_h4,loopsOf, Tryz.f222,lno_C4,C1,C1_,EL2,EG2,E2,K3,W4,W5,K6,K7,W8_]
theorem lno_x4_1(C1:¬(i_4:Int)<((byL a0).length:Int)):
  Leave 0 (exec Tryz.prog (tab (n+2)) 0 25 (livesOf 222) big lno_C4) (livesOf 222 (outOf 4)) (lno_h4 a0 nat_4 r i_4) (.exit 0) (lno_o4a nat_4):=by
 have C1_:¬i_4<(byL a0).length:=by omega
 unfold Leave
 simp+decide [lno_h4,loopsOf, Tryz.f222,lno_o4a,lno_C4,C1,C1_]
theorem lno_f1(K1:(oU fun k=>natA (lmb k)) [.lit (.int .u64 10)]=some (natA r))(L3:loopG Tryz.prog (tab (n+2)) 0 25 (livesOf 222) 4 lno_C4 (lno_h4 a0 [] r 0)=some (.exit 0,lno_o4a nat_4)):
  run (n+2) 222 [.lit (.string a0)]=some (natA nat_4):=by
 unfold run fnP
 simp+decide [Tryz.f222,K1,strEls_by]
 rw [loopX_G (C':=lno_C4) (e:=(lno_h4 a0 [] r 0)) ?_ ?_,L3]
 rotate_left
 ·kernel_rfl
 ·simp+decide [lno_h4,K1,strEls_by] <;>rfl
 simp+decide [lno_o4a,K1,strEls_by]
end
end
section
open Go.RowKit
open Lib (decDigits)
attribute [local irreducible] run runL loopG exec
theorem ba_get(L:List UInt8)(i:Nat):(bs L)[i]?=L[i]?:=by
 have hs:=bs_size L
 by_cases h:i<L.length
 ·rw [getElem?_pos (bs L) i (by omega),List.getElem?_eq_getElem h];rfl
 ·rw [getElem?_neg (bs L) i (by omega),List.getElem?_eq_none (by omega)]
def po(L l:List UInt8):Int:=((L.length-l.length:Nat):Int)
theorem po_get{L l:List UInt8}(h:l <:+L):(bs L)[(po L l).toNat]?=l.head?:=by
 obtain ⟨p,rfl⟩:=h
 unfold po
 rw [Int.toNat_natCast,ba_get,List.length_append,show p.length+l.length-l.length=p.length from by omega,List.getElem?_append_right (Nat.le_refl _),Nat.sub_self]
 cases l <;>rfl
theorem po_nil(L:List UInt8):po L []=L.length:=by unfold po;simp
theorem po_self(L:List UInt8):po L L=0:=by unfold po;simp
theorem po_rg(L l:List UInt8):0≤po L l∧po L l≤L.length:=by unfold po;omega
theorem po_lt{L l:List UInt8}{c:UInt8}(h:c::l <:+L):po L (c::l)<L.length∧po L (c::l)+1=po L l:=by
 have:=h.length_le
 unfold po
 simp only [List.length_cons] at this ⊢
 omega
theorem suf_tl{L l:List UInt8}{c:UInt8}(h:c::l <:+L):l <:+L:=(List.suffix_cons c l).trans h
theorem u8n{c d:UInt8}:c=d↔c.toNat=d.toNat:=UInt8.toNat_inj.symm
theorem skL_suf:∀l:List UInt8,skL l <:+l
 | []=>List.suffix_refl _
 | c::l=>by
   rw [skL]
   split
   ·exact (skL_suf l).trans (List.suffix_cons c l)
   ·exact List.suffix_refl _
def isIn(set:List UInt8):List UInt8→Bool
 | []=>false
 | c::_=>set.contains c
def D10:List UInt8:=[48,49,50,51,52,53,54,55,56,57]
theorem d10(c:UInt8):D10.contains c=isD c:=by
 rw [Bool.eq_iff_iff]
 unfold D10 isD
 simp only [List.contains_eq_mem,List.mem_cons,List.not_mem_nil,or_false,decide_eq_true_eq,u8n]
 have e:∀k:Nat,k<256→(UInt8.ofNat k).toNat=k:=fun k hk=>by rw [UInt8.toNat_ofNat'];omega
 have e0:(48:UInt8).toNat=48∧(49:UInt8).toNat=49∧(50:UInt8).toNat=50∧(51:UInt8).toNat=51∧(52:UInt8).toNat=52∧(53:UInt8).toNat=53∧(54:UInt8).toNat=54∧(55:UInt8).toNat=55∧(56:UInt8).toNat=56∧(57:UInt8).toNat=57:=⟨rfl,rfl,rfl,rfl,rfl,rfl,rfl,rfl,rfl,rfl⟩
 omega
def dgP:Nat→List UInt8→List UInt8 × List UInt8
 | 0,l=>([],l)
 | _+1,[]=>([],[])
 | k+1,c::l=>if isD c=true then (c::(dgP k l).1,(dgP k l).2) else ([],c::l)
theorem dgP_app:∀(k:Nat) (l:List UInt8),l=(dgP k l).1++(dgP k l).2
 | 0,l=>rfl
 | _+1,[]=>rfl
 | k+1,c::l=>by
   rw [dgP]
   split
   ·show c::l=c::((dgP k l).1++(dgP k l).2)
    rw [←dgP_app k l]
   ·rfl
theorem dgP_d:∀(k:Nat) (l:List UInt8),(∀c∈(dgP k l).1,isD c=true)∧(dgP k l).1.length≤k
 | 0,l=>⟨fun c hc=>(by cases hc),by simp [dgP]⟩
 | _+1,[]=>⟨fun c hc=>(by cases hc),by simp [dgP]⟩
 | k+1,c::l=>by
   obtain ⟨a,b⟩:=dgP_d k l
   rw [dgP]
   split
   ·rename_i h
    refine ⟨fun x hx=>?_,by show (c::(dgP k l).1).length≤k+1;simp;exact b⟩
    rcases List.mem_cons.1 hx with rfl|hx
    ·exact h
    ·exact a x hx
   ·exact ⟨fun c hc=>(by cases hc),by simp⟩
theorem dgP_L:∀(k:Nat) (l:List UInt8) (n:Nat),dgL k l n=(dgV (dgP k l).1 n,(dgP k l).2)
 | 0,l,n=>by rw [dgL,dgP];rfl
 | _+1,[],n=>rfl
 | k+1,c::l,n=>by
   rw [dgL,dgP]
   by_cases h:isD c=true
   ·rw [if_pos h,if_pos h,dgP_L k l];rfl
   ·rw [if_neg h,if_neg h];rfl
def nmP(zero:Bool)(most:Nat):List UInt8→Option (List UInt8 × List UInt8)
 | []=>none
 | c::l=>if isD c=true then (if c=48 then (if zero=true then some ([48],l) else none) else some (dgP most (c::l))) else none
theorem nm_P(zero:Bool)(most:Nat)(l:List UInt8):nmL zero most l=(nmP zero most l).map fun p=>(dgV p.1 0,p.2):=by
 cases l with
 | nil=>rfl
 | cons c l=>
   rw [nmL,nmP]
   by_cases h:isD c=true
   ·rw [if_pos h,if_pos h]
    by_cases h2:c=48
    ·rw [if_pos h2,if_pos h2]
     cases zero <;>rfl
    ·rw [if_neg h2,if_neg h2,dgP_L];rfl
   ·rw [if_neg h,if_neg h];rfl
theorem nmP_ok{zero:Bool}{most:Nat}{l d r:List UInt8}(h:nmP zero most l=some (d,r))(hm:0<most):l=d++r∧(∀c∈d,isD c=true)∧d.length≤most∧d≠[]:=by
 cases l with
 | nil=>cases h
 | cons c l=>
   rw [nmP] at h
   split at h
   ·rename_i hd
    split at h
    ·rename_i h2
     split at h
     ·cases h
      refine ⟨by rw [h2];rfl,fun x hx=>by rw [List.mem_singleton.1 hx];decide,by simp;omega,by simp⟩
     ·cases h
    ·have e:=Option.some.inj h
     have a:=dgP_app most (c::l)
     have b:=dgP_d most (c::l)
     rw [e] at a b
     refine ⟨a,b.1,b.2,fun e2=>?_⟩
     obtain ⟨m,rfl⟩:∃m,most=m+1:=⟨most-1,by omega⟩
     rw [dgP,if_pos hd] at e
     rw [e2] at e
     cases e
   ·cases h
theorem dgV_lt:∀(d:List UInt8) (n k:Nat),(∀c∈d,isD c=true)→n<10 ^ k→dgV d n<10 ^ (k+d.length)
 | [],n,k,_,h=>h
 | c::d,n,k,hd,h=>by
   have hc:c.toNat≤57:=by
    have:=hd c (by simp)
    unfold isD at this
    exact (of_decide_eq_true this).2
   have e:10 ^ (k+1)=10 ^ k*10:=Nat.pow_succ 10 _
   have:=dgV_lt d (n*10+(c.toNat-48)) (k+1) (fun x hx=>hd x (by simp [hx])) (by omega)
   rw [List.length_cons,show k+(d.length+1)=k+1+d.length from by omega]
   exact this
theorem ext_suf{L l d r:List UInt8}(h:l <:+L)(e:l=d++r):bs d=(bs L).extract (po L l).toNat (po L r).toNat:=by
 apply ba_ext
 rw [Lib.extract_data,bs_data,bs_data]
 obtain ⟨p,rfl⟩:=h
 subst e
 unfold po
 rw [Int.toNat_natCast,Int.toNat_natCast]
 simp only [List.length_append]
 rw [show p.length+(d.length+r.length)-(d.length+r.length)=p.length from by omega,show p.length+(d.length+r.length)-r.length-p.length=d.length from by omega,List.drop_left,List.take_left]
def pB(L l:List UInt8):AB:=.box 201 [.lit (.string (bs L)),.lit (.int .i64 (po L l))] false
section
variable {n : Nat} {L l : List UInt8}
theorem blank_c(hL:L.length≤1000)(h:l <:+L):runL n 175 [.ptr 0 0] [pB L l]=some (.tup [],[(0,pB L (skL l))]):=by
 have hs:=bs_size L
 obtain ⟨ex,t,h1,h2⟩:=loopG_Q (β:=List UInt8) (P:= Tryz.prog) (O:=tab n) (m:=1) (N:=31) (lives:=livesOf 175) (r:=0) (C:=lbk_C0) (M:=l.length) (enc:=fun _ b=>lbk_h0 ⟨bs L,po L l⟩ (po L b))
  (fun k b=>b <:+L∧skL b=skL l∧k+b.length=l.length) (fun ex t=>ex=.exit 0∧t=lbk_o0a ⟨bs L,po L l⟩ (po L (skL l))) l ⟨h,rfl,by omega⟩ (by have:=h.length_le;omega)
  (fun k b hk hI=>by
   obtain ⟨i1,i2,i3⟩:=hI
   cases b with
   | nil=>simp at i3;omega
   | cons c b=>
     obtain ⟨p1,p2⟩:=po_lt i1
     have p3:=po_rg L (c::b)
     by_cases hc:c=32
     ·have R:=lbk_r0_1 (n:=n) (a0:=⟨bs L,po L l⟩) (i_0:=po L (c::b)) (b3:=c) (by show _<((bs L).size:Int);omega) (po_get i1) (by omega) (by rw [hc];rfl) ⟨by omega,by omega⟩
      rw [p2] at R
      refine .inl ⟨b,R,suf_tl i1,?_,by simp at i3;omega⟩
      rw [←i2,hc,skL_b]
     ·refine .inr ⟨_,_,by simp,lbk_x0_1 (n:=n) (a0:=⟨bs L,po L l⟩) (i_0:=po L (c::b)) (b3:=c) (by show _<((bs L).size:Int);omega) (po_get i1) (by omega) (fun e=>hc (u8n.2 (by have e2:(32:UInt8).toNat=32:=rfl;omega))),rfl,?_⟩
      rw [←i2,skL_ne hc])
  (fun b hI=>by
   obtain ⟨i1,i2,i3⟩:=hI
   have:b=[]:=List.eq_nil_of_length_eq_zero (by omega)
   subst this
   refine ⟨_,_,by simp,lbk_x0_2 (n:=n) (a0:=⟨bs L,po L l⟩) (i_0:=po L []) (by show ¬po L []<((bs L).size:Int);rw [po_nil];omega),rfl,?_⟩
   rw [←i2];rfl)
 obtain ⟨rfl,rfl⟩:=h2
 exact lbk_f1 (a0:=⟨bs L,po L l⟩) h1
theorem is_c(hL:L.length≤1000)(h:l <:+L)(set:List UInt8):runL (n+3) 176 [.ptr 0 0,.lit (.string (bs set))] [pB L l]=some (.lit (.bool (isIn set l)),[(0,pB L l)]):=by
 have hs:=bs_size L
 cases l with
 | nil=>exact lis_f2 (a0:=⟨bs L,po L []⟩) (by show ¬po L []<((bs L).size:Int);rw [po_nil];omega)
 | cons c r=>
   obtain ⟨p1,p2⟩:=po_lt h
   have p3:=po_rg L (c::r)
   have hc:=c.toNat_lt
   have K:(oIB) [.lit (.string (bs set)),.lit (.int .u8 (c.toNat:Int))]=some (.lit (.int .i64 (Lib.indexByte set c))):=by
    unfold oIB
    show (if 0≤(c.toNat:Int)∧(c.toNat:Int)<256 then some (AV.lit (.int .i64 (Lib.indexByte (bs set).data.toList (c.toNat:Int).toNat.toUInt8))) else none)=_
    rw [if_pos ⟨by omega,by omega⟩,bs_data,Int.toNat_natCast]
    have e:c.toNat.toUInt8=c:=u8n.2 (by show (UInt8.ofNat c.toNat).toNat=_;rw [UInt8.toNat_ofNat'];omega)
    rw [e]
   have R:=lis_f1 (n:=n) (a0:=⟨bs L,po L (c::r)⟩) (a1:=bs set) (b:=c) (by show po L (c::r)<((bs L).size:Int);omega) (po_get h) (by show 0≤po L (c::r);omega) K
   rw [←Lib.contains_iff_indexByte] at R
   exact R
theorem isIn_D(l:List UInt8):isIn D10 l=true↔∃c r,l=c::r∧isD c=true:=by
 cases l with
 | nil=>exact ⟨fun h=>(by cases h),fun ⟨c,r,h,_⟩=>(by cases h)⟩
 | cons c r=>
   rw [isIn,d10]
   exact ⟨fun h=>⟨c,r,rfl,h⟩,fun ⟨c',r',e,h⟩=>by cases e;exact h⟩
theorem isIn_1{c d:UInt8}{r:List UInt8}:isIn [d] (c::r)=decide (c=d):=by
 rw [isIn,Bool.eq_iff_iff]
 simp
theorem number_l(hL:L.length≤1000)(h:l <:+L)(most:Nat)(hm:most≤1000):
  loopG Tryz.prog (tab (n+4)) 1 62 (livesOf 221) 7 lnb_C7 (lnb_h7 ⟨bs L,po L l⟩ (most:Int) (po L l))=some (.exit 0,lnb_o7a ⟨bs L,po L l⟩ (po L (dgP most l).2)):=by
 obtain ⟨ex,t,h1,h2⟩:=loopG_Q (β:=List UInt8) (P:= Tryz.prog) (O:=tab (n+4)) (m:=1) (N:=62) (lives:=livesOf 221) (r:=7) (C:=lnb_C7) (M:=most) (enc:=fun _ b=>lnb_h7 ⟨bs L,po L l⟩ (most:Int) (po L b))
  (fun k b=>b <:+L∧(dgP (most-k) b).2=(dgP most l).2∧k+b.length=l.length∧k≤most) (fun ex t=>ex=.exit 0∧t=lnb_o7a ⟨bs L,po L l⟩ (po L (dgP most l).2)) l ⟨h,by rw [Nat.sub_zero],by omega,by omega⟩ (by omega)
  (fun k b hk hI=>by
   obtain ⟨i1,i2,i3,i4⟩:=hI
   have K:=is_c (n:=n) hL i1 D10
   have hl:=h.length_le
   have hpo:po L b-po L l=k:=by have:=i1.length_le;unfold po;omega
   have p3:=po_rg L b
   by_cases c:isIn D10 b=true
   ·obtain ⟨d,r,rfl,hd⟩:=(isIn_D b).1 c
    rw [c] at K
    obtain ⟨p1,p2⟩:=po_lt i1
    have R:=lnb_r7_1 (n:=n) (a0:=⟨bs L,po L l⟩) (a1:=(most:Int)) (i_7:=po L (d::r)) K rfl ⟨by show _≤po L (d::r)-po L l;omega,by show po L (d::r)-po L l≤_;omega⟩ (by show po L (d::r)-po L l<_;omega) ⟨by omega,by omega⟩
    rw [p2] at R
    refine .inl ⟨r,R,suf_tl i1,?_,by simp at i3;omega,by omega⟩
    rw [←i2,show most-k=(most-(k+1))+1 from by omega,dgP,if_pos hd]
   ·rw [Bool.eq_false_iff.2 c] at K
    refine .inr ⟨_,_,by simp,lnb_x7_2 (n:=n) (a0:=⟨bs L,po L l⟩) (a1:=(most:Int)) (i_7:=po L b) K rfl,rfl,?_⟩
    rw [←i2,show most-k=(most-(k+1))+1 from by omega]
    cases b with
    | nil=>rfl
    | cons d r=>
      have hd:¬isD d=true:=fun e=>c ((isIn_D _).2 ⟨d,r,rfl,e⟩)
      rw [dgP,if_neg hd])
  (fun b hI=>by
   obtain ⟨i1,i2,i3,i4⟩:=hI
   have K:=is_c (n:=n) hL i1 D10
   have hl:=h.length_le
   have hpo:po L b-po L l=most:=by have:=i1.length_le;unfold po;omega
   rw [Nat.sub_self] at i2
   have e:b=(dgP most l).2:=i2
   by_cases c:isIn D10 b=true
   ·rw [c] at K
    exact ⟨_,_,by simp,lnb_x7_1 (n:=n) (a0:=⟨bs L,po L l⟩) (a1:=(most:Int)) (i_7:=po L b) K rfl ⟨by show _≤po L b-po L l;omega,by show po L b-po L l≤_;omega⟩ (by show ¬po L b-po L l<_;omega),rfl,by rw [←e]⟩
   ·rw [Bool.eq_false_iff.2 c] at K
    exact ⟨_,_,by simp,lnb_x7_2 (n:=n) (a0:=⟨bs L,po L l⟩) (a1:=(most:Int)) (i_7:=po L b) K rfl,rfl,by rw [←e]⟩)
 obtain ⟨rfl,rfl⟩:=h2
 exact h1
theorem number_n(hL:L.length≤1000)(h:l <:+L){most:Nat}{zero:Bool}(hm:most≤1000)(hn:nmP zero most l=none):
  runL (n+4) 221 [.ptr 0 0,.lit (.int .i64 (most:Int)),.lit (.bool zero)] [pB L l]=some (.tup [.lit (.string (bs [])),.lit (.bool false)],[(0,pB L l)]):=by
 have K:=is_c (n:=n) hL h D10
 by_cases c:isIn D10 l=true
 ·obtain ⟨d,r,rfl,hd⟩:=(isIn_D l).1 c
  rw [c] at K
  rw [nmP,if_pos hd] at hn
  by_cases h2:d=48
  ·rw [if_pos h2] at hn
   cases zero with
   | true=>cases hn
   | false=>
     have K2:=is_c (n:=n) hL h [48]
     rw [isIn_1,decide_eq_true h2] at K2
     exact lnb_f2 (a0:=⟨bs L,po L (d::r)⟩) K rfl rfl K2 rfl
  ·rw [if_neg h2] at hn
   cases hn
 ·rw [Bool.eq_false_iff.2 c] at K
  exact lnb_f1 (a0:=⟨bs L,po L l⟩) K rfl
theorem number_s(hL:L.length≤1000)(h:l <:+L){most:Nat}{zero:Bool}{d r:List UInt8}(hm:most≤1000)(h0:0<most)(hn:nmP zero most l=some (d,r)):
  runL (n+4) 221 [.ptr 0 0,.lit (.int .i64 (most:Int)),.lit (.bool zero)] [pB L l]=some (.tup [.lit (.string (bs d)),.lit (.bool true)],[(0,pB L r)]):=by
 have K:=is_c (n:=n) hL h D10
 have K2:=is_c (n:=n) hL h [48]
 have hs:=bs_size L
 obtain ⟨e1,e2,e3,e4⟩:=nmP_ok hn h0
 cases l with
 | nil=>cases hn
 | cons c l=>
   rw [nmP] at hn
   have hd:isD c=true:=by
    false_or_by_contra
    rename_i hd
    rw [if_neg hd] at hn
    cases hn
   rw [if_pos hd] at hn
   rw [(isIn_D _).2 ⟨c,l,rfl,hd⟩] at K
   obtain ⟨p1,p2⟩:=po_lt h
   have p3:=po_rg L (c::l)
   have p4:=po_rg L r
   rw [isIn_1] at K2
   by_cases hc:c=48
   ·rw [if_pos hc] at hn
    rw [decide_eq_true hc] at K2
    cases zero with
    | false=>cases hn
    | true=>
      obtain ⟨h1,h2⟩:=Prod.mk.inj (Option.some.inj hn)
      rw [←h1,←h2]
      have R:=lnb_f5 (n:=n) (a0:=⟨bs L,po L (c::l)⟩) (a1:=(most:Int)) (a2:=true) K rfl rfl K2 rfl ⟨by omega,by omega⟩
      rw [p2] at R
      exact R
   ·rw [if_neg hc] at hn
    rw [decide_eq_false hc] at K2
    have hn2:=Option.some.inj hn
    have G:=number_l (n:=n) hL h most hm
    rw [hn2] at G
    have hr:po L (c::l)≤po L r:=by
     have:=congrArg List.length e1
     rw [List.length_append] at this
     unfold po
     omega
    have X:=ext_suf h e1
    cases zero with
    | false=>exact lnb_f4 (n:=n) (a0:=⟨bs L,po L (c::l)⟩) (a1:=(most:Int)) (a2:=false) K rfl rfl K2 rfl K2 rfl G ⟨by show 0≤po L _;omega,hr,by show _≤((bs L).size:Int);omega⟩ X
    | true=>exact lnb_f6 (n:=n) (a0:=⟨bs L,po L (c::l)⟩) (a1:=(most:Int)) (a2:=true) K rfl rfl K2 rfl G ⟨by show 0≤po L _;omega,hr,by show _≤((bs L).size:Int);omega⟩ X
theorem oU_k{z:Int}{k:Nat}(hz:z=k)(h:k<18446744073709551616):(oU fun k=>natA (lmb k)) [.lit (.int .u64 z)]=some (natA (lmb k)):=by
 subst hz
 unfold oU
 show (if 0≤(k:Int)∧(k:Int)<18446744073709551616 then some (natA (lmb (k:Int).toNat)) else none)=_
 rw [if_pos ⟨by omega,by omega⟩,Int.toNat_natCast]
theorem lmb_few{k m:Nat}(h:k<10 ^ m)(hm:m≤400):(lmb k).length≤100:=by
 have h2:k<4294967296 ^ 100:=Nat.lt_of_lt_of_le h (Nat.le_trans (Nat.pow_le_pow_right (by omega) hm) (by decide+kernel))
 exact lmb_len_le h2
theorem few_l{k:Nat}(h:(lmb k).length≤1000):fewN (lmb k)=true:=Nat.ble_eq_true_of_le (by omega)
theorem k_mul{a b:Nat}(ha:(lmb a).length≤1000)(hb:(lmb b).length≤1000):(oN2 fun x y=>natA (lmb (val x*val y))) [natA (lmb a),natA (lmb b)]=some (natA (lmb (a*b))):=by
 rw [oN2_raw (lim_lmb a) (lim_lmb b) (few_l ha) (few_l hb),val_lmb,val_lmb]
theorem k_add{a b:Nat}(ha:(lmb a).length≤1000)(hb:(lmb b).length≤1000):(oN2 fun x y=>natA (lmb (val x+val y))) [natA (lmb a),natA (lmb b)]=some (natA (lmb (a+b))):=by
 rw [oN2_raw (lim_lmb a) (lim_lmb b) (few_l ha) (few_l hb),val_lmb,val_lmb]
theorem foldI_l{α β:Type}(f:β→α→β):∀(R:List α) (i:Nat) (o:β),foldI (fun _ o x=>f o x) i o R=R.foldl f o
 | [],_,_=>rfl
 | x::R,i,o=>by rw [foldI,foldI_l f R];rfl
theorem isD_n{c:UInt8}(h:isD c=true):48≤c.toNat∧c.toNat≤57:=of_decide_eq_true h
theorem natOf_c{d:List UInt8}(hd:∀c∈d,isD c=true)(hl:d.length≤300):run (n+2) 222 [.lit (.string (bs d))]=some (natA (lmb (dgV d 0))):=by
 have hb:byL (bs d)=d.map fun c=>(c.toNat:Int):=by unfold byL;rw [bs_data]
 have K1:(oU fun k=>natA (lmb k)) [.lit (.int .u64 10)]=some (natA (lmb 10)):=oU_k (by omega) (by omega)
 have h10:(lmb 10).length≤1000:=by decide+kernel
 have L1:=(loopG_I (O:=tab (n+2)) (P:= Tryz.prog) (m:=0) (N:=25) (lives:=livesOf 222) (r:=4) (C:=lno_C4) (L:=d) (f:=fun _ (b:Nat) (c:UInt8)=>b*10+(c.toNat-48)) (enc:=fun i b=>lno_h4 (bs d) (lmb b) (lmb 10) i) (exN:=.exit 0) (out:=fun b=>lno_o4a (lmb b)) (Inv:=fun i b=>b<10 ^ i) 0 (by simp) (by omega) (by simp)
  (fun i c b hi hI=>by
   have hlt:=(List.getElem?_eq_some_iff.1 hi).1
   obtain ⟨c0,c1⟩:=isD_n (hd c (List.mem_of_getElem? hi))
   have f1:=lmb_few hI (by omega)
   have e:10 ^ (i+1)=10 ^ i*10:=Nat.pow_succ 10 _
   have f2:=lmb_few (k:=b*10) (m:=i+1) (by omega) (by omega)
   have f3:=lmb_few (k:=c.toNat-48) (m:=2) (by omega) (by omega)
   have w1:IntKind.u8.wrap ((c.toNat:Int)-48)=(c.toNat:Int)-48:=by simp [IntKind.wrap,IntKind.signed,IntKind.bits];omega
   have w2:IntKind.u64.wrap ((c.toNat:Int)-48)=(c.toNat:Int)-48:=by rw [wrapU64];omega
   have K6:(oU fun k=>natA (lmb k)) [.lit (.int .u64 ((c.toNat:Int)-48))]=some (natA (lmb (c.toNat-48))):=oU_k (by omega) (by omega)
   exact ⟨lno_r4_1 (n:=n) (by rw [hb,List.length_map];omega) (by rw [hb,List.getElem?_map,hi];rfl) (k_mul (by omega) h10) w1 w2 K6 (k_add (by omega) (by omega)) ⟨by omega,by omega⟩,by omega⟩)
  (fun b hI=>lno_x4_1 (by rw [hb,List.length_map];omega))).1
 rw [foldI_l (fun (b:Nat) (c:UInt8)=>b*10+(c.toNat-48))] at L1
 exact lno_f1 K1 L1
theorem decF:∀(d:List UInt8) (a:Nat),(∀c∈d,isD c=true)→Lib.decFrom a d=some (dgV d a)
 | [],_,_=>rfl
 | c::d,a,h=>by
   have hc:=isD_n (h c (by simp))
   have e:Lib.digitVal c=some (c.toNat-48):=if_pos hc
   rw [Lib.decFrom,e]
   exact decF d _ fun x hx=>h x (by simp [hx])
theorem atoi_d{d:List UInt8}(h:∀c∈d,isD c=true)(h0:d≠[]):Lib.atoi d=some (dgV d 0:Nat):=by
 cases d with
 | nil=>exact absurd rfl h0
 | cons c d=>
   have hc:=h c (by simp)
   have e1:(c==45)=false:=by rw [beq_eq_false_iff_ne];exact isD_ne hc (by decide)
   have e2:(c==43)=false:=by rw [beq_eq_false_iff_ne];exact isD_ne hc (by decide)
   rw [Lib.atoi,e1,e2]
   have e3:Lib.decNat (c::d)=some (dgV (c::d) 0):=by
    unfold Lib.decNat
    exact decF (c::d) 0 h
   simp [e3]
end
end
section
open Go.RowKit Go.Lib
attribute [local irreducible] run runL loopG exec
def dgC:List UInt8:=[48,49,50,51,52,53,54,55,56,57]
theorem dgC_d(c:UInt8):dgC.contains c=isD c:=by
 have h:∀n:Fin 256,dgC.contains (UInt8.ofNat n.1)=isD (UInt8.ofNat n.1):=by decide+kernel
 have e:UInt8.ofNat c.toNat=c:=UInt8.ofNat_toNat
 have:=h ⟨c.toNat,c.toNat_lt⟩
 rwa [e] at this
theorem dw_all{p:UInt8→Bool}{L:List UInt8}(h:L.dropWhile p=[]):∀c∈L,p c=true:=by
 have h1:L.takeWhile p=L:=by
  have:=List.takeWhile_append_dropWhile (p:=p) (l:=L)
  rw [h,List.append_nil] at this
  exact this
 intro c hc
 rw [←h1] at hc
 exact mem_tw hc
theorem dw_head{p:UInt8→Bool}{L:List UInt8}{c:UInt8}{M:List UInt8}(h:L.dropWhile p=c::M):p c=false:=by
 have h1:(L.dropWhile p).head?=some c:=by rw [h];rfl
 have h2:=List.head?_dropWhile_not p L
 rw [h1] at h2
 simpa using h2
theorem trim_dg(D:List UInt8):trimS D dgC=[]↔∀c∈D,isD c=true:=by
 have e:(fun c:UInt8=>dgC.contains c)=isD:=by funext c;exact dgC_d c
 unfold trimS trimLeftS trimRightS
 rw [e]
 constructor
 ·intro h
  have h2:=dw_all h
  cases hr:D.reverse.dropWhile isD with
  | nil=>exact fun c hc=>dw_all hr c (List.mem_reverse.2 hc)
  | cons c M=>
    have h3:=dw_head hr
    have h4:=h2 c (by rw [hr];simp)
    rw [h3] at h4;cases h4
 ·intro h
  rw [dw_nil (p:=isD) (L:=D.reverse) (fun c hc=>h c (List.mem_reverse.1 hc))]
  rfl
def tgR:Option Nat→AV
 | some v=>.tup [.lit (.int .i64 (v:Int)),.lit (.bool true)]
 | none=>.tup [.lit (.int .i64 0),.lit (.bool false)]
theorem tgP_no{X:List UInt8}(h:¬(X.head?=some 32∧trB X≠[]∧(trB X).length≤9∧¬((trB X).head?=some 48∧1<(trB X).length)∧∀c∈trB X,isD c=true)):tgR (tgP X)=.tup [.lit (.int .i64 0),.lit (.bool false)]:=by
 unfold tgP;rw [if_neg h];rfl
theorem tgP_yes{X:List UInt8}(h:X.head?=some 32∧trB X≠[]∧(trB X).length≤9∧¬((trB X).head?=some 48∧1<(trB X).length)∧∀c∈trB X,isD c=true):tgR (tgP X)=.tup [.lit (.int .i64 (dgV (trB X) 0:Nat)),.lit (.bool true)]:=by
 unfold tgP;rw [if_pos h];rfl
theorem bs_e{L:List UInt8}:bs L=(⟨#[]⟩:ByteArray)↔L=[]:=⟨fun h=>bs_inj (l:=L) (m:=[]) h,fun h=>by rw [h];rfl⟩
section
variable {n : Nat} {L : List UInt8}
theorem trL_len(L:List UInt8):(trL L).length≤L.length:=(List.dropWhile_suffix _).length_le
theorem trR_len(L:List UInt8):(trR L).length≤L.length:=(trR_pre L).length_le
theorem trimLeft_c(hL:L.length≤100000):oTrimLeft [.lit (.string (bs L)),.lit (.string (⟨#[32]⟩:ByteArray))]=some (.lit (.string (bs (trL L)))):=by
 unfold oTrimLeft
 dsimp only
 rw [if_pos ⟨by rw [bs_size];omega,by decide,by decide⟩,bs_data]
 have e:trimLeftS L (⟨#[32]⟩:ByteArray).data.toList=trL L:=left_bl L
 rw [e];rfl
theorem trimB_c(hL:L.length≤100000):oTrim [.lit (.string (bs L)),.lit (.string (⟨#[32]⟩:ByteArray))]=some (.lit (.string (bs (trB L)))):=by
 unfold oTrim
 dsimp only
 rw [if_pos ⟨by rw [bs_size];omega,by decide,by decide⟩,bs_data]
 have e:trimS L (⟨#[32]⟩:ByteArray).data.toList=trB L:=(trim_bl L).trans (trLR L)
 rw [e];rfl
theorem trimD_c(hL:L.length≤100000):oTrim [.lit (.string (bs L)),.lit (.string (⟨#[48,49,50,51,52,53,54,55,56,57]⟩:ByteArray))]=some (.lit (.string (bs (trimS L dgC)))):=by
 unfold oTrim
 dsimp only
 rw [if_pos ⟨by rw [bs_size];omega,by decide,by decide⟩,bs_data]
 rfl
theorem pre_c{t:List UInt8}:oHasPrefix [.lit (.string (bs L)),.lit (.string (bs t))]=some (.lit (.bool (hasPrefix L t))):=by
 unfold oHasPrefix
 dsimp only
 rw [bs_data,bs_data]
theorem cutT_c(h:hasPrefix L topW=true):oTrimPrefix [.lit (.string (bs L)),.lit (.string (⟨#[116,111,112]⟩:ByteArray))]=some (.lit (.string (bs (L.drop 3)))):=by
 unfold oTrimPrefix
 dsimp only
 rw [bs_data]
 have e:trimPrefix L (⟨#[116,111,112]⟩:ByteArray).data.toList=L.drop 3:=by
  unfold trimPrefix
  exact if_pos h
 rw [e];rfl
theorem pre32(X:List UInt8):hasPrefix X [32]=true↔X.head?=some 32:=by
 unfold hasPrefix
 cases X with
 | nil=>constructor <;>intro h <;>cases h
 | cons c M=>
   have e3:List.isPrefixOf ([]:List UInt8) M=true:=by cases M <;>rfl
   show ((32:UInt8)==c && List.isPrefixOf [] M)=true↔some c=some 32
   rw [e3,Bool.and_true,beq_iff_eq]
   exact ⟨fun h=>by rw [h],fun h=>(Option.some.inj h).symm⟩
theorem atoi_c(hd:∀c∈L,isD c=true)(h0:L≠[])(hl:L.length≤9):oAtoi [.lit (.string (bs L))]=some (.tup [.lit (.int .i64 (dgV L 0:Nat)),.lit .nilIface]):=by
 unfold oAtoi
 dsimp only
 rw [bs_data,if_pos (by rw [bs_size];omega),atoi_d hd h0]
 rfl
theorem target_c(hL:L.length≤100000)(ht:hasPrefix (trL L) topW=true):run (n+9) 59 [.lit (.string (bs L))]=some (tgR (tgP ((trL L).drop 3))):=by
 have hl:=trL_len L
 have K1:=trimLeft_c (L:=L) (by omega)
 have K2:=cutT_c ht
 have hX:((trL L).drop 3).length≤100000:=by rw [List.length_drop];omega
 generalize (trL L).drop 3=X at K2 hX ⊢
 have K3:=trimB_c (L:=X) (by omega)
 have K4:oHasPrefix [.lit (.string (bs X)),.lit (.string (⟨#[32]⟩:ByteArray))]=some (.lit (.bool (hasPrefix X [32]))):=pre_c (t:=[32])
 cases hp:hasPrefix X [32] with
 | false=>
   rw [tgP_no (fun h=>by rw [(pre32 X).2 h.1] at hp;cases hp)]
   exact ctg_f1 K1 K2 K3 K4 hp
 | true=>
 have hh:=(pre32 X).1 hp
 have hD:(trB X).length≤100000:=by have:=trR_len (trL X);have:=trL_len X;show (trR (trL X)).length≤100000;omega
 have hs:(bs (trB X)).size=(trB X).length:=bs_size _
 by_cases h0:trB X=[]
 ·rw [tgP_no (fun h=>h.2.1 h0)]
  exact ctg_f2 K1 K2 K3 K4 hp (bs_e.2 h0)
 have h0':¬bs (trB X)=(⟨#[]⟩:ByteArray):=fun h=>h0 (bs_e.1 h)
 by_cases h9:9<(trB X).length
 ·rw [tgP_no (fun h=>by have:=h.2.2.1;omega)]
  exact ctg_f3 K1 K2 K3 K4 hp h0' (by omega)
 have h9':¬9<((bs (trB X)).size:Int):=by omega
 have K11:=trimD_c (L:=trB X) (by omega)
 obtain ⟨b,M,hb⟩:∃b M,trB X=b::M:=by
  cases hc:trB X with
  | nil=>exact absurd hc h0
  | cons b M=>exact ⟨b,M,rfl⟩
 have E8:(bs (trB X))[0]?=some b:=by rw [bs_at,hb];rfl
 have hhd:(trB X).head?=some b:=by rw [hb];rfl
 have b48:(b.toNat:Int)=48↔b=48:=⟨fun h=>UInt8.toNat_inj.1 (by show b.toNat=48;omega),fun h=>by rw [h];rfl⟩
 by_cases c9:b=48
 ·by_cases c10:1<(trB X).length
  ·rw [tgP_no (fun h=>h.2.2.2.1 ⟨by rw [hhd,c9],c10⟩)]
   exact ctg_f4 K1 K2 K3 K4 hp h0' h9' E8 (b48.2 c9) (by omega)
  ·by_cases hd:∀c∈trB X,isD c=true
   ·rw [tgP_yes ⟨hh,h0,by omega,fun h=>c10 h.2,hd⟩]
    exact ctg_f6 K1 K2 K3 K4 hp h0' h9' E8 (b48.2 c9) (by omega) K11 (bs_e.2 ((trim_dg _).2 hd)) (atoi_c hd h0 (by omega)) rfl
   ·rw [tgP_no (fun h=>hd h.2.2.2.2)]
    exact ctg_f5 K1 K2 K3 K4 hp h0' h9' E8 (b48.2 c9) (by omega) K11 (fun h=>hd ((trim_dg _).1 (bs_e.1 h)))
 ·by_cases hd:∀c∈trB X,isD c=true
  ·rw [tgP_yes ⟨hh,h0,by omega,fun h=>c9 (by have:=h.1;rw [hhd] at this;cases this;rfl),hd⟩]
   exact ctg_f8 K1 K2 K3 K4 hp h0' h9' E8 (fun h=>c9 (b48.1 h)) K11 (bs_e.2 ((trim_dg _).2 hd)) (atoi_c hd h0 (by omega)) rfl
  ·rw [tgP_no (fun h=>hd h.2.2.2.2)]
   exact ctg_f7 K1 K2 K3 K4 hp h0' h9' E8 (fun h=>c9 (b48.1 h)) K11 (fun h=>hd ((trim_dg _).1 (bs_e.1 h)))
end
end
section
open Go.RowKit
noncomputable def crw_C4:Code:=(loopsOf (bodyOf Tryz.f60)).getD 0 .skip
def crw_h4(out_4:List Form)(i_4:Int)(r:List ByteArray)(i2_4:Nat):St:=
 ⟨[(5,.own 0 out_4.length),(6,.lit (.int .i64 i_4)),(14,.sl 1 (r.map strC)),(15,.lit (.int .i64 (r.length:Int))),(16,.lit (.int .i64 (i2_4:Int)))],
  [(0,some (.row 79 4 (out_4.map formC) 0))],1⟩
def crw_o4a(i_4:Int)(out_4:List Form):St:=
 ⟨[(2,.own 0 0),(3,.lit (.int .i64 i_4)),(4,.lit (.bool false)),(5,.own 1 out_4.length)],
  [(0,some (.row 79 4 [] 0)),
   (1,some (.row 79 4 (out_4.map formC) 0))],2⟩
def crw_o4b(i_4:Int)(r16:Int)(out_4:List Form):St:=
 ⟨[(2,.own 0 0),(3,.lit (.int .i64 ((i_4+r16)+2))),(4,.lit (.bool false)),(5,.own 1 out_4.length)],
  [(0,some (.row 79 4 [] 0)),
   (1,some (.row 79 4 (out_4.map formC) 0))],2⟩
def crw_o4c(out_4:List Form):St:=
 ⟨[(2,.any),(3,.any),(4,.any),(5,.own 0 out_4.length)],
  [(0,some (.row 79 4 (out_4.map formC) 0))],1⟩
section
variable {sub6 : ByteArray} {r18 : Bool} {r19 : Form} {out_4 : List Form} {n : Nat} {sub5 : ByteArray} {b3 : UInt8} {r21 : Form} {i_4 : Int} {x3 : ByteArray} {r17 : Form} {r20 : Bool} {r : List ByteArray} {r16 : Int} {i2_4 : Nat} {r22 : Form} {a0 : ByteArray}
section
variable(C1:(i2_4:Int)<(r.length:Int))(E2:r[i2_4]?=some x3)(K3:run (n+12) 123 [.lit (.string x3)]=some (.lit (.int .i64 r16)))
include C1 E2 K3
section
variable(C4:¬r16<0)(U5:0≤0∧0≤r16∧r16≤(x3.size:Int))(D5:sub5=x3.extract 0 r16.toNat)(K6:run (n+12) 61 [.lit (.string sub5)]=some (.tup [formV r17,.lit (.bool r18)]))(C7:r18=true)(W8:InI (r16+2))(U9:0≤r16+2∧r16+2≤(x3.size:Int)∧(x3.size:Int)≤(x3.size:Int))(D9:sub6=x3.extract ((r16+2).toNat) x3.size)(K10:run (n+12) 61 [.lit (.string sub6)]=some (.tup [formV r19,.lit (.bool r20)]))(C11:r20=true)(E12:x3[r16.toNat]?=some b3)(Z12:0≤r16)
include C4 U5 D5 K6 C7 W8 U9 D9 K10 C11 E12 Z12
theorem crw_r4_1(C13:(b3.toNat:Int)=60)(K14:run (n+12) 92 [formV r19,formV r17]=some (formV r21))(M15:out_4.length+1≤100000000)(W16:InI ((x3.size:Int)+1))(W17:InI (i_4+((x3.size:Int)+1)))(W18:InI ((i2_4:Int)+1)):
  Cont 0 (exec Tryz.prog (tab (n+13)) 0 68 (livesOf 60) big crw_C4) (livesOf 60 4) (crw_h4 out_4 i_4 r i2_4) (crw_h4 (out_4++[r21]) (i_4+((x3.size:Int)+1)) r (i2_4+1)):=by
 have C1_:i2_4<r.length:=by omega
 obtain ⟨EL2,EG2⟩:=List.getElem?_eq_some_iff.1 E2
 have D5_:=D5.symm
 simp only [formV] at K6
 have W8_:IntKind.i64.wrap (r16+2)=r16+2:=wr64 W8.1 W8.2
 have D9_:=D9.symm
 simp only [formV] at K10
 have C13_:((b3.toNat:Int)==60)=true:=by rw [C13];simp
 have C13_n:((b3.toNat:Int) !=60)=false:=by rw [C13];simp
 simp only [formV] at K14
 have M15_:∀b,b≤10000→roomy (out_4.length+1) b=true:=fun b hb=>roomy_s M15 hb
 have W16_:IntKind.i64.wrap ((x3.size:Int)+1)=(x3.size:Int)+1:=wr64 W16.1 W16.2
 have W17_:IntKind.i64.wrap (i_4+((x3.size:Int)+1))=i_4+((x3.size:Int)+1):=wr64 W17.1 W17.2
 have W18_:IntKind.i64.wrap ((i2_4:Int)+1)=(i2_4:Int)+1:=wr64 W18.1 W18.2
 rw [C7] at K6
 rw [C11] at K10
 have EG12:∀h,(x3)[r16.toNat]'h=b3:=fun h=>Option.some.inj ((getElem?_pos (x3) (r16.toNat) h).symm.trans E12)
 unfold Cont
 simp+decide [EG12,crw_h4,loopsOf, Tryz.f60,crw_C4,C1,C1_,EL2,EG2,E2,K3,C4,U5,D5_,K6,C7,W8_,U9,D9_,K10,C11,E12,Z12,C13_,C13_n,K14,M15_,W16_,W17_,W18_]
theorem crw_r4_2(C13:¬(b3.toNat:Int)=60)(K14:run (n+12) 92 [formV r17,formV r19]=some (formV r22))(M15:out_4.length+1≤100000000)(W16:InI ((x3.size:Int)+1))(W17:InI (i_4+((x3.size:Int)+1)))(W18:InI ((i2_4:Int)+1)):
  Cont 0 (exec Tryz.prog (tab (n+13)) 0 68 (livesOf 60) big crw_C4) (livesOf 60 4) (crw_h4 out_4 i_4 r i2_4) (crw_h4 (out_4++[r22]) (i_4+((x3.size:Int)+1)) r (i2_4+1)):=by
 have C1_:i2_4<r.length:=by omega
 obtain ⟨EL2,EG2⟩:=List.getElem?_eq_some_iff.1 E2
 have D5_:=D5.symm
 simp only [formV] at K6
 have W8_:IntKind.i64.wrap (r16+2)=r16+2:=wr64 W8.1 W8.2
 have D9_:=D9.symm
 simp only [formV] at K10
 have C13_:((b3.toNat:Int)==60)=false:=by simpa using C13
 have C13_n:((b3.toNat:Int) !=60)=true:=by simpa using C13
 simp only [formV] at K14
 have M15_:∀b,b≤10000→roomy (out_4.length+1) b=true:=fun b hb=>roomy_s M15 hb
 have W16_:IntKind.i64.wrap ((x3.size:Int)+1)=(x3.size:Int)+1:=wr64 W16.1 W16.2
 have W17_:IntKind.i64.wrap (i_4+((x3.size:Int)+1))=i_4+((x3.size:Int)+1):=wr64 W17.1 W17.2
 have W18_:IntKind.i64.wrap ((i2_4:Int)+1)=(i2_4:Int)+1:=wr64 W18.1 W18.2
 rw [C7] at K6
 rw [C11] at K10
 have EG12:∀h,(x3)[r16.toNat]'h=b3:=fun h=>Option.some.inj ((getElem?_pos (x3) (r16.toNat) h).symm.trans E12)
 unfold Cont
 simp+decide [EG12,crw_h4,loopsOf, Tryz.f60,crw_C4,C1,C1_,EL2,EG2,E2,K3,C4,U5,D5_,K6,C7,W8_,U9,D9_,K10,C11,E12,Z12,C13_,C13_n,K14,M15_,W16_,W17_,W18_]
end
theorem crw_x4_1(C4:r16<0):
  Leave 0 (exec Tryz.prog (tab (n+13)) 0 68 (livesOf 60) big crw_C4) (livesOf 60 (outOf 4)) (crw_h4 out_4 i_4 r i2_4) (.ret) (crw_o4a i_4 out_4):=by
 have C1_:i2_4<r.length:=by omega
 obtain ⟨EL2,EG2⟩:=List.getElem?_eq_some_iff.1 E2
 unfold Leave
 simp+decide [crw_h4,loopsOf, Tryz.f60,crw_o4a,crw_C4,C1,C1_,EL2,EG2,E2,K3,C4]
section
variable(C4:¬r16<0)(U5:0≤0∧0≤r16∧r16≤(x3.size:Int))(D5:sub5=x3.extract 0 r16.toNat)(K6:run (n+12) 61 [.lit (.string sub5)]=some (.tup [formV r17,.lit (.bool r18)]))
include C4 U5 D5 K6
theorem crw_x4_2(C7:r18=false):
  Leave 0 (exec Tryz.prog (tab (n+13)) 0 68 (livesOf 60) big crw_C4) (livesOf 60 (outOf 4)) (crw_h4 out_4 i_4 r i2_4) (.ret) (crw_o4a i_4 out_4):=by
 have C1_:i2_4<r.length:=by omega
 obtain ⟨EL2,EG2⟩:=List.getElem?_eq_some_iff.1 E2
 have D5_:=D5.symm
 simp only [formV] at K6
 rw [C7] at K6
 unfold Leave
 simp+decide [crw_h4,loopsOf, Tryz.f60,crw_o4a,crw_C4,C1,C1_,EL2,EG2,E2,K3,C4,U5,D5_,K6,C7]
theorem crw_x4_3(C7:r18=true)(W8:InI (r16+2))(U9:0≤r16+2∧r16+2≤(x3.size:Int)∧(x3.size:Int)≤(x3.size:Int))(D9:sub6=x3.extract ((r16+2).toNat) x3.size)(K10:run (n+12) 61 [.lit (.string sub6)]=some (.tup [formV r19,.lit (.bool r20)]))(C11:r20=false)(W12:InI (i_4+r16))(W13:InI ((i_4+r16)+2)):
  Leave 0 (exec Tryz.prog (tab (n+13)) 0 68 (livesOf 60) big crw_C4) (livesOf 60 (outOf 4)) (crw_h4 out_4 i_4 r i2_4) (.ret) (crw_o4b i_4 r16 out_4):=by
 have C1_:i2_4<r.length:=by omega
 obtain ⟨EL2,EG2⟩:=List.getElem?_eq_some_iff.1 E2
 have D5_:=D5.symm
 simp only [formV] at K6
 have W8_:IntKind.i64.wrap (r16+2)=r16+2:=wr64 W8.1 W8.2
 have D9_:=D9.symm
 simp only [formV] at K10
 have W12_:IntKind.i64.wrap (i_4+r16)=i_4+r16:=wr64 W12.1 W12.2
 have W13_:IntKind.i64.wrap ((i_4+r16)+2)=(i_4+r16)+2:=wr64 W13.1 W13.2
 rw [C7] at K6
 rw [C11] at K10
 unfold Leave
 simp+decide [crw_h4,loopsOf, Tryz.f60,crw_o4b,crw_C4,C1,C1_,EL2,EG2,E2,K3,C4,U5,D5_,K6,C7,W8_,U9,D9_,K10,C11,W12_,W13_]
end
end
theorem crw_x4_4(C1:¬(i2_4:Int)<(r.length:Int)):
  Leave 0 (exec Tryz.prog (tab (n+13)) 0 68 (livesOf 60) big crw_C4) (livesOf 60 (outOf 4)) (crw_h4 out_4 i_4 r i2_4) (.exit 0) (crw_o4c out_4):=by
 have C1_:¬i2_4<r.length:=by omega
 unfold Leave
 simp+decide [crw_h4,loopsOf, Tryz.f60,crw_o4c,crw_C4,C1,C1_]
section
variable(K1:(oSplit) [.lit (.string a0),.lit (.string (⟨#[59]⟩:ByteArray))]=some (.sl 1 (r.map strC)))
include K1
theorem crw_f1(L2:loopG Tryz.prog (tab (n+13)) 0 68 (livesOf 60) 4 crw_C4 (crw_h4 [] 0 r 0)=some (.ret,crw_o4a i_4 out_4)):
  run (n+13) 60 [.lit (.string a0)]=some (.tup [.sl 4 [],.lit (.int .i64 i_4),.lit (.bool false)]):=by
 unfold run fnP
 simp+decide [Tryz.f60,K1]
 rw [loopX_G (C':=crw_C4) (e:=(crw_h4 [] 0 r 0)) ?_ ?_,L2]
 rotate_left
 ·kernel_rfl
 ·simp+decide [crw_h4,K1]
 simp+decide [crw_o4a,K1]
theorem crw_f2(L2:loopG Tryz.prog (tab (n+13)) 0 68 (livesOf 60) 4 crw_C4 (crw_h4 [] 0 r 0)=some (.ret,crw_o4b i_4 r16 out_4)):
  run (n+13) 60 [.lit (.string a0)]=some (.tup [.sl 4 [],.lit (.int .i64 ((i_4+r16)+2)),.lit (.bool false)]):=by
 unfold run fnP
 simp+decide [Tryz.f60,K1]
 rw [loopX_G (C':=crw_C4) (e:=(crw_h4 [] 0 r 0)) ?_ ?_,L2]
 rotate_left
 ·kernel_rfl
 ·simp+decide [crw_h4,K1]
 simp+decide [crw_o4b,K1]
theorem crw_f3(L2:loopG Tryz.prog (tab (n+13)) 0 68 (livesOf 60) 4 crw_C4 (crw_h4 [] 0 r 0)=some (.exit 0,crw_o4c out_4)):
  run (n+13) 60 [.lit (.string a0)]=some (.tup [.sl 4 (out_4.map formC),.lit (.int .i64 0),.lit (.bool true)]):=by
 unfold run fnP
 simp+decide [Tryz.f60,K1]
 rw [loopX_G (C':=crw_C4) (e:=(crw_h4 [] 0 r 0)) ?_ ?_,L2]
 rotate_left
 ·kernel_rfl
 ·simp+decide [crw_h4,K1]
 simp+decide [crw_o4c,K1]
end
end
end
section
open Go.RowKit
section
variable {n : Nat} {a0 : Tparser} {z : Int} {r : Bool} {r4 : Int} {r3 : Bool} {r2 : ByteArray} {z2 : Int} {r5 : AV}
section
variable(K1:runL (n+8) 176 [.ptr 0 0,.lit (.string (⟨#[120]⟩:ByteArray))] [.box 201 [.lit (.string a0.s),.lit (.int .i64 (a0.at_))] false]=some (.lit (.bool r),[(0,.box 201 [.lit (.string a0.s),.lit (.int .i64 z)] false)]))
include K1
theorem lvr_f1(C2:r=false):
  runL (n+9) 224 [.ptr 0 0] [.box 201 [.lit (.string a0.s),.lit (.int .i64 (a0.at_))] false]=some (.tup [.lit (.int .i64 0),.lit (.bool false)],[(0,.box 201 [.lit (.string a0.s),.lit (.int .i64 z)] false)]):=by
 rw [C2] at K1
 unfold runL fnL
 simp+decide [Tryz.f224,K1,C2]
theorem lvr_f2(C2:r=true)(W3:InI (z+1))(K4:runL (n+8) 221 [.ptr 0 0,.lit (.int .i64 9),.lit (.bool true)] [.box 201 [.lit (.string a0.s),.lit (.int .i64 (z+1))] false]=some (.tup [.lit (.string r2),.lit (.bool r3)],[(0,.box 201 [.lit (.string a0.s),.lit (.int .i64 z2)] false)]))(K5:(oAtoi) [.lit (.string r2)]=some (.tup [.lit (.int .i64 r4),r5])):
  runL (n+9) 224 [.ptr 0 0] [.box 201 [.lit (.string a0.s),.lit (.int .i64 (a0.at_))] false]=some (.tup [.lit (.int .i64 r4),.lit (.bool r3)],[(0,.box 201 [.lit (.string a0.s),.lit (.int .i64 z2)] false)]):=by
 have W3_:IntKind.i64.wrap (z+1)=z+1:=wr64 W3.1 W3.2
 rw [C2] at K1
 unfold runL fnL
 simp+decide [Tryz.f224,K1,C2,W3_,K4,K5]
end
end
end
end Go.Proofs.YtnegdhjdienjlaaGreatDoor
