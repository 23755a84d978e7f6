import Derived.Test.YtnegdhjdienjlaaGreatDoorGA19
import Derived.Test.YtnegdhjdienjlaaGreatDoorGA17
import Derived.Test.YtnegdhjdienjlaaGreatDoorGA16
import Derived.Lib.IndexAny
import Derived.Lib.IndexBytes
set_option linter.all false
set_option maxHeartbeats 6400000
set_option maxRecDepth 100000
namespace Go.Proofs.YtnegdhjdienjlaaGreatDoor
section
open Go.RowKit
open Lib (decDigits)
def skL:List UInt8→List UInt8
 | []=>[]
 | c::l=>if c=32 then skL l else c::l
def isD(c:UInt8):Bool:=decide (48≤c.toNat∧c.toNat≤57)
def dgL:Nat→List UInt8→Nat→Nat × List UInt8
 | 0,l,n=>(n,l)
 | _+1,[],n=>(n,[])
 | k+1,c::l,n=>if isD c=true then dgL k l (n*10+(c.toNat-48)) else (n,c::l)
def nmL(zero:Bool)(most:Nat):List UInt8→Option (Nat × List UInt8)
 | []=>none
 | c::l=>if isD c=true then (if c=48 then (if zero=true then some (0,l) else none) else some (dgL most (c::l) 0)) else none
def qv(neg:Bool)(a d:Nat):Rat:=mkRat (sgi neg a) d
def vaL(f:Form)(q:Rat)(l:List UInt8):Except (List UInt8) (Form × List UInt8):=
 match nmL true 9 l with
 | none=>.error l
 | some (v,r)=>.ok ((plusV false f.1 (v:Int) q,f.2),r)
def afL(f:Form)(q:Rat):List UInt8→Except (List UInt8) (Form × List UInt8)
 | []=>.ok ((f.1,f.2+q),[])
 | c::r=>if c=42 then (match skL r with
    | []=>.error []
    | c2::r2=>if c2=120 then vaL f q r2 else .error (c2::r2)) else .ok ((f.1,f.2+q),c::r)
def deL(f:Form)(neg:Bool)(a:Nat):List UInt8→Except (List UInt8) (Form × List UInt8)
 | []=>afL f (qv neg a 1) []
 | c::r=>if c=47 then (match nmL false 200 (skL r) with
    | none=>.error (skL r)
    | some (d,r3)=>afL f (qv neg a d) (skL r3)) else afL f (qv neg a 1) (c::r)
def nuL(f:Form)(neg:Bool)(l:List UInt8):Except (List UInt8) (Form × List UInt8):=
 match nmL true 200 l with
 | none=>.error l
 | some (a,r)=>deL f neg a (skL r)
def paL(f:Form)(neg:Bool):List UInt8→Except (List UInt8) (Form × List UInt8)
 | []=>nuL f neg []
 | c::r=>if c=120 then vaL f (qv neg 1 1) r else nuL f neg (c::r)
def psL:Nat→Form→Bool→List UInt8→Except (List UInt8) Form
 | 0,_,_,l=>.error l
 | k+1,f,neg,l=>match paL f neg (skL l) with
   | .error r=>.error r
   | .ok (g,r)=>match skL r with
     | []=>.ok g
     | c::r2=>if c=43∨c=45 then psL k g (decide (c=45)) r2 else .error (c::r2)
def psT(l:List UInt8):Except (List UInt8) Form:=
 match skL l with
 | []=>psL (l.length+1) ([],0) false []
 | c::r=>if c=43∨c=45 then psL (l.length+1) ([],0) (decide (c=45)) r else psL (l.length+1) ([],0) false (c::r)
theorem skL_ne{c:UInt8}{l:List UInt8}(h:c≠32):skL (c::l)=c::l:=by rw [skL,if_neg h]
theorem skL_b(l:List UInt8):skL (32::l)=skL l:=by rw [skL,if_pos rfl]
def dgV(D:List UInt8)(n:Nat):Nat:=D.foldl (fun n c=>n*10+(c.toNat-48)) n
structure NB (q:Rat):Prop where
 n:(decDigits q.num.natAbs).length≤200
 d:(decDigits q.den).length≤200
theorem isD_ne{c d:UInt8}(h:isD c=true)(hd:isD d=false):c≠d:=fun e=>by rw [e,hd] at h;cases h
structure TmN (t:Int × Rat):Prop where
 q:NB t.2
 v0:0≤t.1
 v:(decDigits t.1.toNat).length≤9
def coL(k:Nat)(f:Form)(l:List UInt8):Except (List UInt8) Form:=
 match skL l with
 | []=>.ok f
 | d::r2=>if d=43∨d=45 then psL k f (decide (d=45)) r2 else .error (d::r2)
end
section
open Go.RowKit Go.Lib
def bl(c:UInt8):Bool:=c==32
def trL(L:List UInt8):List UInt8:=L.dropWhile bl
def trR(L:List UInt8):List UInt8:=(L.reverse.dropWhile bl).reverse
theorem contains32(c:UInt8):([32]:List UInt8).contains c=bl c:=by
 rw [Bool.eq_iff_iff]
 simp [bl]
theorem mem_tw{p:UInt8→Bool}:∀{L:List UInt8} {c:UInt8},c∈L.takeWhile p→p c=true
 | [],c,h=>by simp at h
 | x::L,c,h=>by
   rw [List.takeWhile_cons] at h
   split at h
   ·rename_i hx
    rcases List.mem_cons.1 h with rfl|h2
    ·exact hx
    ·exact mem_tw h2
   ·cases h
theorem dw_nil{p:UInt8→Bool}:∀{L:List UInt8},(∀c∈L,p c=true)→L.dropWhile p=[]
 | [],_=>rfl
 | x::L,h=>by
   rw [List.dropWhile_cons,if_pos (h x List.mem_cons_self)]
   exact dw_nil fun c hc=>h c (List.mem_cons_of_mem _ hc)
theorem left_bl(L:List UInt8):trimLeftS L [32]=trL L:=by
 unfold trimLeftS trL
 congr 1
 funext c
 exact contains32 c
theorem trim_bl(L:List UInt8):trimS L [32]=trL (trR L):=by
 unfold trimS
 rw [left_bl]
 unfold trimRightS trR
 congr 2
 congr 1
 funext c
 exact contains32 c
theorem trR_app{c:UInt8}(h:bl c=false)(L M:List UInt8):trR (L++c::M)=L++c::trR M:=by
 unfold trR
 rw [List.reverse_append,List.reverse_cons,List.append_assoc,List.dropWhile_append]
 have e:List.dropWhile bl ([c]++L.reverse)=c::L.reverse:=by simp [List.dropWhile_cons,h]
 rw [e]
 split
 ·rename_i h1
  have h2:List.dropWhile bl M.reverse=[]:=by simpa using h1
  rw [h2];simp
 ·simp
theorem trL_split(L:List UInt8):∃B,L=B++trL L∧(∀c∈B,bl c=true)∧∀c M,trL L=c::M→bl c=false:=by
 refine ⟨L.takeWhile bl,(List.takeWhile_append_dropWhile).symm,fun c hc=>?_,fun c M h=>?_⟩
 ·exact mem_tw hc
 ·have h1:(L.dropWhile bl).head?=some c:=by show (trL L).head?=_;rw [h];rfl
  have h2:=List.head?_dropWhile_not bl L
  rw [h1] at h2
  simpa using h2
theorem trL_app{B K:List UInt8}(h:∀c∈B,bl c=true):trL (B++K)=trL K:=by
 unfold trL
 rw [List.dropWhile_append]
 have e:B.dropWhile bl=[]:=dw_nil h
 rw [e];rfl
theorem trR_all{L:List UInt8}(h:∀c∈L,bl c=true):trR L=[]:=by
 unfold trR
 rw [dw_nil (fun c hc=>h c (List.mem_reverse.1 hc))]
 rfl
theorem trLR(L:List UInt8):trL (trR L)=trR (trL L):=by
 obtain ⟨B,h1,h2,h3⟩:=trL_split L
 cases hK:trL L with
 | nil=>
   rw [hK,List.append_nil] at h1
   rw [h1,trR_all h2]
   rfl
 | cons c M=>
   have hc:=h3 c M hK
   rw [hK] at h1
   have e1:trR L=B++c::trR M:=by rw [h1];exact trR_app hc B M
   have e2:trR (c::M)=c::trR M:=trR_app hc [] M
   rw [e1,e2,trL_app h2]
   simp [trL,List.dropWhile_cons,hc]
theorem trR_pre(L:List UInt8):trR L <+:L:=by
 have h:=List.dropWhile_suffix (l:=L.reverse) bl
 have h2:=List.reverse_prefix.2 h
 rw [List.reverse_reverse] at h2
 exact h2
def topW:List UInt8:=[116,111,112]
theorem top_pre(K:List UInt8):hasPrefix (trR K) topW=hasPrefix K topW:=by
 unfold hasPrefix
 rw [Bool.eq_iff_iff,List.isPrefixOf_iff_prefix,List.isPrefixOf_iff_prefix]
 constructor
 ·exact fun h=>h.trans (trR_pre K)
 ·rintro ⟨X,rfl⟩
  have e:trR (topW++X)=topW++trR X:=trR_app (c:=112) (by decide) [116,111] X
  rw [e]
  exact ⟨_,rfl⟩
theorem top_cut{K:List UInt8}(h:hasPrefix K topW=true):K=topW++K.drop 3∧trR K=topW++trR (K.drop 3):=by
 unfold hasPrefix at h
 obtain ⟨X,rfl⟩:=List.isPrefixOf_iff_prefix.1 h
 have e:trR (topW++X)=topW++trR X:=trR_app (c:=112) (by decide) [116,111] X
 exact ⟨rfl,e⟩
def trB(L:List UInt8):List UInt8:=trR (trL L)
theorem trB_R(L:List UInt8):trB (trR L)=trB L:=by
 unfold trB
 rw [←trLR,←trLR]
 congr 1
 unfold trR
 rw [List.reverse_reverse]
 congr 1
 have h:∀M:List UInt8,List.dropWhile bl (List.dropWhile bl M)=List.dropWhile bl M:=fun M=>by
  cases hM:List.dropWhile bl M with
  | nil=>rfl
  | cons c N=>
    have h1:(M.dropWhile bl).head?=some c:=by rw [hM];rfl
    have h2:=List.head?_dropWhile_not bl M
    rw [h1] at h2
    have hc:bl c=false:=by simpa using h2
    simp [List.dropWhile_cons,hc]
 exact h _
def tgP(X:List UInt8):Option Nat:=
 if X.head?=some 32∧trB X≠[]∧(trB X).length≤9∧¬((trB X).head?=some 48∧1<(trB X).length)∧∀c∈trB X,isD c=true then some (dgV (trB X) 0) else none
end
section
open Go.RowKit
attribute [local irreducible] run runL loopG exec
theorem bs_at(l:List UInt8)(i:Nat):(bs l)[i]?=l[i]?:=by
 by_cases h:i<l.length
 ·rw [getElem?_pos (bs l) i (by rw [bs_size];exact h),List.getElem?_eq_getElem h]
  rfl
 ·rw [getElem?_neg (bs l) i (by rw [bs_size];exact h),List.getElem?_eq_none (by omega)]
theorem bs_cut(l:List UInt8)(a b:Nat):(bs l).extract a b=bs ((l.drop a).take (b-a)):=by
 apply ba_ext
 rw [bs_data,←ba_toList,Lib.extract_toList,bs_data]
theorem bs_from(l:List UInt8)(a:Nat):(bs l).extract a (bs l).size=bs (l.drop a):=by
 rw [bs_cut,bs_size,List.take_of_length_le (by rw [List.length_drop];exact Nat.le_refl _)]
theorem bs_to(l:List UInt8)(b:Nat):(bs l).extract 0 b=bs (l.take b):=by
 rw [bs_cut,List.drop_zero,Nat.sub_zero]
theorem bl_nat(c:UInt8):bl c=true↔(c.toNat:Int)=32:=by
 unfold bl
 rw [beq_iff_eq]
 constructor
 ·rintro rfl;rfl
 ·intro h
  exact UInt8.toNat_inj.1 (by show c.toNat=32;omega)
theorem trL_cons{c:UInt8}(M:List UInt8):trL (c::M)=if bl c then trL M else c::M:=by
 unfold trL;rw [List.dropWhile_cons]
theorem trR_snoc{c:UInt8}(M:List UInt8):trR (M++[c])=if bl c then trR M else M++[c]:=by
 unfold trR
 rw [List.reverse_append]
 simp only [List.reverse_cons,List.reverse_nil,List.nil_append,List.singleton_append,List.dropWhile_cons]
 split <;>simp
section
variable {n : Nat} {L : List UInt8}
theorem ftrim_c(hL:L.length≤1000):run n 64 [.lit (.string (bs L))]=some (.lit (.string (bs (trB L)))):=by
 obtain ⟨ex,t,h1,rfl,rfl⟩:=loopG_Q (β:=Unit) (P:= Tryz.prog) (O:=tab n) (m:=0) (N:=30) (lives:=livesOf 64) (r:=1) (C:=ftr_C1) (M:=L.length) (enc:=fun i _=>ftr_h1 (bs (L.drop i)))
  (fun i _=>trL L=trL (L.drop i)) (fun ex t=>ex=.exit 0∧t=ftr_o1a (bs (trL L))) () rfl (by omega)
  (fun i b hi hI=>by
   have hd:=List.drop_eq_getElem_cons hi
   generalize L[i]=c at hd
   have hs:(bs (L.drop i)).size=L.length-i:=by rw [bs_size,List.length_drop]
   have C1:0<((bs (L.drop i)).size:Int):=by omega
   have E2:(bs (L.drop i))[0]?=some c:=by rw [bs_at,hd];rfl
   by_cases hc:bl c=true
   ·refine .inl ⟨(),ftr_r1_1 C1 E2 ((bl_nat c).1 hc) ⟨by omega,by omega,Int.le_refl _⟩ ?_,?_⟩
    ·rw [bs_from,List.drop_drop]
    ·rw [hI,hd,trL_cons,if_pos hc]
   ·refine .inr ⟨_,_,by simp,ftr_x1_1 C1 E2 (fun h=>hc ((bl_nat c).2 h)),rfl,?_⟩
    rw [hI,hd,trL_cons,if_neg hc])
  (fun b hI=>⟨_,_,by simp,ftr_x1_2 (by rw [bs_size,List.length_drop];omega),rfl,by
   rw [hI,List.drop_length];rfl⟩)
 rw [List.drop_zero] at h1
 have hK:(trL L).length≤1000:=Nat.le_trans (List.dropWhile_suffix _).length_le hL
 have eB:trB L=trR (trL L):=rfl
 rw [eB]
 generalize trL L=K at h1 hK
 obtain ⟨ex,t,h2,rfl,rfl⟩:=loopG_Q (β:=Unit) (P:= Tryz.prog) (O:=tab n) (m:=0) (N:=30) (lives:=livesOf 64) (r:=3) (C:=ftr_C3) (M:=K.length) (enc:=fun i _=>ftr_h3 (bs (K.take (K.length-i))))
  (fun i _=>trR K=trR (K.take (K.length-i))) (fun ex t=>ex=.exit 2∧t=ftr_o3a (bs (trR K))) () (by rw [Nat.sub_zero,List.take_length]) (by omega)
  (fun i b hi hI=>by
   obtain ⟨k,hk⟩:∃k,K.length-i=k+1:=⟨K.length-i-1,by omega⟩
   have hkl:k<K.length:=by omega
   have hd:K.take (k+1)=K.take k++[K[k]]:=by rw [List.take_succ_eq_append_getElem hkl]
   generalize K[k]=c at hd
   have e2:K.length-(i+1)=k:=by omega
   rw [hk] at hI ⊢
   have hs:(bs (K.take (k+1))).size=k+1:=by rw [bs_size,List.length_take];omega
   have C1:0<((bs (K.take (k+1))).size:Int):=by omega
   have W:InI (((bs (K.take (k+1))).size:Int)-1):=⟨by omega,by omega⟩
   have E3:(bs (K.take (k+1)))[(bs (K.take (k+1))).size-1]?=some c:=by
    rw [hs,bs_at,hd,Nat.add_sub_cancel,List.getElem?_append_right (by rw [List.length_take];omega),List.length_take]
    rw [show k-min k K.length=0 by omega];rfl
   by_cases hc:bl c=true
   ·refine .inl ⟨(),?_,?_⟩
    ·rw [e2]
     refine ftr_r3_1 C1 W E3 (by omega) ((bl_nat c).1 hc) ⟨by omega,by omega,by omega⟩ ?_
     rw [hs,bs_to,Nat.add_sub_cancel,List.take_take,Nat.min_eq_left (by omega)]
    ·rw [e2,hI,hd,trR_snoc,if_pos hc]
   ·refine .inr ⟨_,_,by simp,ftr_x3_1 C1 W E3 (by omega) (fun h=>hc ((bl_nat c).2 h)),rfl,?_⟩
    rw [hI,hd,trR_snoc,if_neg hc])
  (fun b hI=>⟨_,_,by simp,ftr_x3_2 (by rw [bs_size,Nat.sub_self];simp),rfl,by
   rw [hI,Nat.sub_self];rfl⟩)
 rw [Nat.sub_zero,List.take_length] at h2
 exact ftr_f1 h1 h2
end
end
section
open Go.RowKit
structure Tparser where
 s:ByteArray
 at_:Int
end
section
open Go.RowKit
noncomputable def lbk_C0:Code:=(loopsOf (bodyOf Tryz.f175)).getD 0 .skip
def lbk_h0(a0:Tparser)(i_0:Int):St:=
 ⟨[(0,.ptr 0 0)],
  [(0,some (.box 201 [.lit (.string a0.s),.lit (.int .i64 i_0)] false))],1⟩
def lbk_o0a(a0:Tparser)(i_0:Int):St:=
 ⟨[],
  [(0,some (.box 201 [.lit (.string a0.s),.lit (.int .i64 i_0)] false))],1⟩
section
variable {b3 : UInt8} {a0 : Tparser} {n : Nat} {i_0 : Int}
theorem lbk_r0_1(C1:i_0<(a0.s.size:Int))(E2:a0.s[i_0.toNat]?=some b3)(Z2:0≤i_0)(C3:(b3.toNat:Int)=32)(W4:InI (i_0+1)):
  Cont 1 (exec Tryz.prog (tab n) 1 31 (livesOf 175) big lbk_C0) (livesOf 175 0) (lbk_h0 a0 i_0) (lbk_h0 a0 (i_0+1)):=by
 have C3_:((b3.toNat:Int)==32)=true:=by rw [C3];simp
 have C3_n:((b3.toNat:Int) !=32)=false:=by rw [C3];simp
 have W4_:IntKind.i64.wrap (i_0+1)=i_0+1:=wr64 W4.1 W4.2
 have EG2:∀h,(a0.s)[i_0.toNat]'h=b3:=fun h=>Option.some.inj ((getElem?_pos (a0.s) (i_0.toNat) h).symm.trans E2)
 unfold Cont
 simp+decide [EG2,lbk_h0,loopsOf, Tryz.f175,lbk_C0,C1,E2,Z2,C3_,C3_n,W4_]
theorem lbk_x0_1(C1:i_0<(a0.s.size:Int))(E2:a0.s[i_0.toNat]?=some b3)(Z2:0≤i_0)(C3:¬(b3.toNat:Int)=32):
  Leave 1 (exec Tryz.prog (tab n) 1 31 (livesOf 175) big lbk_C0) (livesOf 175 (outOf 0)) (lbk_h0 a0 i_0) (.exit 0) (lbk_o0a a0 i_0):=by
 have C3_:((b3.toNat:Int)==32)=false:=by simpa using C3
 have C3_n:((b3.toNat:Int) !=32)=true:=by simpa using C3
 have EG2:∀h,(a0.s)[i_0.toNat]'h=b3:=fun h=>Option.some.inj ((getElem?_pos (a0.s) (i_0.toNat) h).symm.trans E2)
 unfold Leave
 simp+decide [EG2,lbk_h0,loopsOf, Tryz.f175,lbk_o0a,lbk_C0,C1,E2,Z2,C3_,C3_n]
theorem lbk_x0_2(C1:¬i_0<(a0.s.size:Int)):
  Leave 1 (exec Tryz.prog (tab n) 1 31 (livesOf 175) big lbk_C0) (livesOf 175 (outOf 0)) (lbk_h0 a0 i_0) (.exit 0) (lbk_o0a a0 i_0):=by
 unfold Leave
 simp+decide [lbk_h0,loopsOf, Tryz.f175,lbk_o0a,lbk_C0,C1]
theorem lbk_f1(L1:loopG Tryz.prog (tab n) 1 31 (livesOf 175) 0 lbk_C0 (lbk_h0 a0 a0.at_)=some (.exit 0,lbk_o0a a0 i_0)):
  runL n 175 [.ptr 0 0] [.box 201 [.lit (.string a0.s),.lit (.int .i64 (a0.at_))] false]=some (.tup [],[(0,.box 201 [.lit (.string a0.s),.lit (.int .i64 i_0)] false)]):=by
 unfold runL fnL
 simp+decide [Tryz.f175]
 rw [loopX_G (C':=lbk_C0) (e:=(lbk_h0 a0 a0.at_)) ?_ ?_,L1]
 rotate_left
 ·kernel_rfl
 ·simp+decide [lbk_h0]
 simp+decide [lbk_o0a]
end
end
section
open Go.RowKit
section
variable {r : Int} {a1 : ByteArray} {b : UInt8} {n : Nat} {a0 : Tparser}
theorem lis_f1(C1:a0.at_<(a0.s.size:Int))(E2:a0.s[a0.at_.toNat]?=some b)(Z2:0≤a0.at_)(K3:(oIB) [.lit (.string a1),.lit (.int .u8 (b.toNat:Int))]=some (.lit (.int .i64 r))):
  runL (n+3) 176 [.ptr 0 0,.lit (.string a1)] [.box 201 [.lit (.string a0.s),.lit (.int .i64 (a0.at_))] false]=some (.lit (.bool (decide (0≤r))),[(0,.box 201 [.lit (.string a0.s),.lit (.int .i64 (a0.at_))] false)]):=by
 have EG2:∀h,(a0.s)[a0.at_.toNat]'h=b:=fun h=>Option.some.inj ((getElem?_pos (a0.s) (a0.at_.toNat) h).symm.trans E2)
 unfold runL fnL
 simp+decide [EG2, Tryz.f176,C1,E2,Z2,K3]
theorem lis_f2(C1:¬a0.at_<(a0.s.size:Int)):
  runL (n+3) 176 [.ptr 0 0,.lit (.string a1)] [.box 201 [.lit (.string a0.s),.lit (.int .i64 (a0.at_))] false]=some (.lit (.bool false),[(0,.box 201 [.lit (.string a0.s),.lit (.int .i64 (a0.at_))] false)]):=by
 unfold runL fnL
 simp+decide [Tryz.f176,C1]
end
end
section
open Go.RowKit
noncomputable def lnb_C7:Code:=(loopsOf (bodyOf Tryz.f221)).getD 0 .skip
def lnb_h7(a0:Tparser)(a1:Int)(i_7:Int):St:=
 ⟨[(0,.ptr 0 0),(1,.lit (.int .i64 a1)),(8,.lit (.int .i64 (a0.at_)))],
  [(0,some (.box 201 [.lit (.string a0.s),.lit (.int .i64 i_7)] false))],1⟩
def lnb_o7a(a0:Tparser)(z6:Int):St:=
 ⟨[(0,.ptr 0 0),(8,.lit (.int .i64 (a0.at_)))],
  [(0,some (.box 201 [.lit (.string a0.s),.lit (.int .i64 z6)] false))],1⟩
section
variable {a1 : Int} {z6 : Int} {n : Nat} {i_7 : Int} {a0 : Tparser} {r6 : Bool} {r : Bool} {a2 : Bool} {z : Int} {r2 : Bool} {z2 : Int} {r3 : Bool} {z3 : Int} {sub : ByteArray} {z7 : Int} {r7 : Bool} {sub2 : ByteArray}
section
variable(K1:runL (n+3) 176 [.ptr 0 0,.lit (.string (⟨#[48,49,50,51,52,53,54,55,56,57]⟩:ByteArray))] [.box 201 [.lit (.string a0.s),.lit (.int .i64 i_7)] false]=some (.lit (.bool r6),[(0,.box 201 [.lit (.string a0.s),.lit (.int .i64 z6)] false)]))
include K1
theorem lnb_r7_1(C2:r6=true)(W3:InI (z6-a0.at_))(C4:z6-a0.at_<a1)(W5:InI (z6+1)):
  Cont 1 (exec Tryz.prog (tab (n+4)) 1 62 (livesOf 221) big lnb_C7) (livesOf 221 7) (lnb_h7 a0 a1 i_7) (lnb_h7 a0 a1 (z6+1)):=by
 have W3_:IntKind.i64.wrap (z6-a0.at_)=z6-a0.at_:=wr64 W3.1 W3.2
 have W5_:IntKind.i64.wrap (z6+1)=z6+1:=wr64 W5.1 W5.2
 rw [C2] at K1
 unfold Cont
 simp+decide [lnb_h7,loopsOf, Tryz.f221,lnb_C7,K1,C2,W3_,C4,W5_]
theorem lnb_x7_1(C2:r6=true)(W3:InI (z6-a0.at_))(C4:¬z6-a0.at_<a1):
  Leave 1 (exec Tryz.prog (tab (n+4)) 1 62 (livesOf 221) big lnb_C7) (livesOf 221 (outOf 7)) (lnb_h7 a0 a1 i_7) (.exit 0) (lnb_o7a a0 z6):=by
 have W3_:IntKind.i64.wrap (z6-a0.at_)=z6-a0.at_:=wr64 W3.1 W3.2
 rw [C2] at K1
 unfold Leave
 simp+decide [lnb_h7,loopsOf, Tryz.f221,lnb_o7a,lnb_C7,K1,C2,W3_,C4]
theorem lnb_x7_2(C2:r6=false):
  Leave 1 (exec Tryz.prog (tab (n+4)) 1 62 (livesOf 221) big lnb_C7) (livesOf 221 (outOf 7)) (lnb_h7 a0 a1 i_7) (.exit 0) (lnb_o7a a0 z6):=by
 rw [C2] at K1
 unfold Leave
 simp+decide [lnb_h7,loopsOf, Tryz.f221,lnb_o7a,lnb_C7,K1,C2]
end
section
variable(K1:runL (n+3) 176 [.ptr 0 0,.lit (.string (⟨#[48,49,50,51,52,53,54,55,56,57]⟩:ByteArray))] [.box 201 [.lit (.string a0.s),.lit (.int .i64 (a0.at_))] false]=some (.lit (.bool r),[(0,.box 201 [.lit (.string a0.s),.lit (.int .i64 z)] false)]))
include K1
theorem lnb_f1(C2:r=false):
  runL (n+4) 221 [.ptr 0 0,.lit (.int .i64 a1),.lit (.bool a2)] [.box 201 [.lit (.string a0.s),.lit (.int .i64 (a0.at_))] false]=some (.tup [.lit (.string (⟨#[]⟩:ByteArray)),.lit (.bool false)],[(0,.box 201 [.lit (.string a0.s),.lit (.int .i64 z)] false)]):=by
 rw [C2] at K1
 unfold runL fnL
 simp+decide [Tryz.f221,K1,C2]
theorem lnb_f2(C2:r=true)(C3:a2=false)(K4:runL (n+3) 176 [.ptr 0 0,.lit (.string (⟨#[48]⟩:ByteArray))] [.box 201 [.lit (.string a0.s),.lit (.int .i64 z)] false]=some (.lit (.bool r2),[(0,.box 201 [.lit (.string a0.s),.lit (.int .i64 z2)] false)]))(C5:r2=true):
  runL (n+4) 221 [.ptr 0 0,.lit (.int .i64 a1),.lit (.bool a2)] [.box 201 [.lit (.string a0.s),.lit (.int .i64 (a0.at_))] false]=some (.tup [.lit (.string (⟨#[]⟩:ByteArray)),.lit (.bool false)],[(0,.box 201 [.lit (.string a0.s),.lit (.int .i64 z2)] false)]):=by
 rw [C2] at K1
 rw [C5] at K4
 unfold runL fnL
 simp+decide [Tryz.f221,K1,C2,C3,K4,C5]
theorem lnb_f4(C2:r=true)(C3:a2=false)(K4:runL (n+3) 176 [.ptr 0 0,.lit (.string (⟨#[48]⟩:ByteArray))] [.box 201 [.lit (.string a0.s),.lit (.int .i64 z)] false]=some (.lit (.bool r2),[(0,.box 201 [.lit (.string a0.s),.lit (.int .i64 z2)] false)]))(C5:r2=false)(K6:runL (n+3) 176 [.ptr 0 0,.lit (.string (⟨#[48]⟩:ByteArray))] [.box 201 [.lit (.string a0.s),.lit (.int .i64 z2)] false]=some (.lit (.bool r3),[(0,.box 201 [.lit (.string a0.s),.lit (.int .i64 z3)] false)]))(C7:r3=false)(L8:loopG Tryz.prog (tab (n+4)) 1 62 (livesOf 221) 7 lnb_C7 (lnb_h7 a0 a1 z3)=some (.exit 0,lnb_o7a a0 z6))(U9:0≤a0.at_∧a0.at_≤z6∧z6≤(a0.s.size:Int))(D9:sub=a0.s.extract a0.at_.toNat z6.toNat):
  runL (n+4) 221 [.ptr 0 0,.lit (.int .i64 a1),.lit (.bool a2)] [.box 201 [.lit (.string a0.s),.lit (.int .i64 (a0.at_))] false]=some (.tup [.lit (.string sub),.lit (.bool true)],[(0,.box 201 [.lit (.string a0.s),.lit (.int .i64 z6)] false)]):=by
 have D9_:=D9.symm
 rw [C2] at K1
 rw [C5] at K4
 rw [C7] at K6
 unfold runL fnL
 simp+decide [Tryz.f221,K1,C2,C3,K4,C5,K6,C7,U9,D9_]
 rw [loopX_G (C':=lnb_C7) (e:=(lnb_h7 a0 a1 z3)) ?_ ?_,L8]
 rotate_left
 ·kernel_rfl
 ·simp+decide [lnb_h7,K1,C2,C3,K4,C5,K6,C7,U9,D9_]
 simp+decide [lnb_o7a,K1,C2,C3,K4,C5,K6,C7,U9,D9_]
section
variable(C2:r=true)(C3:a2=true)(K4:runL (n+3) 176 [.ptr 0 0,.lit (.string (⟨#[48]⟩:ByteArray))] [.box 201 [.lit (.string a0.s),.lit (.int .i64 z)] false]=some (.lit (.bool r7),[(0,.box 201 [.lit (.string a0.s),.lit (.int .i64 z7)] false)]))
include C2 C3 K4
theorem lnb_f5(C5:r7=true)(W6:InI (z7+1)):
  runL (n+4) 221 [.ptr 0 0,.lit (.int .i64 a1),.lit (.bool a2)] [.box 201 [.lit (.string a0.s),.lit (.int .i64 (a0.at_))] false]=some (.tup [.lit (.string (⟨#[48]⟩:ByteArray)),.lit (.bool true)],[(0,.box 201 [.lit (.string a0.s),.lit (.int .i64 (z7+1))] false)]):=by
 have W6_:IntKind.i64.wrap (z7+1)=z7+1:=wr64 W6.1 W6.2
 rw [C2] at K1
 rw [C5] at K4
 unfold runL fnL
 simp+decide [Tryz.f221,K1,C2,C3,K4,C5,W6_]
theorem lnb_f6(C5:r7=false)(L6:loopG Tryz.prog (tab (n+4)) 1 62 (livesOf 221) 7 lnb_C7 (lnb_h7 a0 a1 z7)=some (.exit 0,lnb_o7a a0 z6))(U7:0≤a0.at_∧a0.at_≤z6∧z6≤(a0.s.size:Int))(D7:sub2=a0.s.extract a0.at_.toNat z6.toNat):
  runL (n+4) 221 [.ptr 0 0,.lit (.int .i64 a1),.lit (.bool a2)] [.box 201 [.lit (.string a0.s),.lit (.int .i64 (a0.at_))] false]=some (.tup [.lit (.string sub2),.lit (.bool true)],[(0,.box 201 [.lit (.string a0.s),.lit (.int .i64 z6)] false)]):=by
 have D7_:=D7.symm
 rw [C2] at K1
 rw [C5] at K4
 unfold runL fnL
 simp+decide [Tryz.f221,K1,C2,C3,K4,C5,U7,D7_]
 rw [loopX_G (C':=lnb_C7) (e:=(lnb_h7 a0 a1 z7)) ?_ ?_,L6]
 rotate_left
 ·kernel_rfl
 ·simp+decide [lnb_h7,K1,C2,C3,K4,C5,U7,D7_]
 simp+decide [lnb_o7a,K1,C2,C3,K4,C5,U7,D7_]
end
end
end
end
section
open Go.RowKit
noncomputable def lno_C4:Code:=(loopsOf (bodyOf Tryz.f222)).getD 0 .skip
def lno_h4(a0:ByteArray)(nat_4:List Nat)(r:List Nat)(i_4:Nat):St:=
 ⟨[(3,natA nat_4),(4,natA r),(9,.sl 1 ((byL a0).map intU8C)),(10,.lit (.int .i64 (((byL a0).length:Int)))),(11,.lit (.int .i64 (i_4:Int)))],
  [],0⟩
def lno_o4a(nat_4:List Nat):St:=
 ⟨[(3,natA nat_4)],
  [],0⟩
section
variable {r9 : List Nat} {r : List Nat} {r10 : List Nat} {nat_4 : List Nat} {n : Nat} {r8 : List Nat} {a0 : ByteArray} {x3 : Int} {i_4 : Nat}
theorem lno_r4_1(C1:(i_4:Int)<((byL a0).length:Int))(E2:(byL a0)[i_4]?=some x3)(K3:(oN2 fun x y=>natA (lmb (val x*val y))) [natA nat_4,natA r]=some (natA r8))(W4:IntKind.u8.wrap (x3-48)=x3-48)(W5:IntKind.u64.wrap (x3-48)=x3-48)(K6:(oU fun k=>natA (lmb k)) [.lit (.int .u64 (x3-48))]=some (natA r9))(K7:(oN2 fun x y=>natA (lmb (val x+val y))) [natA r8,natA r9]=some (natA r10))(W8:InI ((i_4:Int)+1)):
  Cont 0 (exec Tryz.prog (tab (n+2)) 0 25 (livesOf 222) big lno_C4) (livesOf 222 4) (lno_h4 a0 nat_4 r i_4) (lno_h4 a0 r10 r (i_4+1)):=by
 have C1_:i_4<(byL a0).length:=by omega
 obtain ⟨EL2,EG2⟩:=List.getElem?_eq_some_iff.1 E2
 have W8_:IntKind.i64.wrap ((i_4:Int)+1)=(i_4:Int)+1:=wr64 W8.1 W8.2
 unfold Cont
 simp+decide [lno_h4,loopsOf, Tryz.f222,lno_C4,C1,C1_,EL2,EG2,E2,K3,W4,W5,K6,K7,W8_]
theorem lno_x4_1(C1:¬(i_4:Int)<((byL a0).length:Int)):
  Leave 0 (exec Tryz.prog (tab (n+2)) 0 25 (livesOf 222) big lno_C4) (livesOf 222 (outOf 4)) (lno_h4 a0 nat_4 r i_4) (.exit 0) (lno_o4a nat_4):=by
 have C1_:¬i_4<(byL a0).length:=by omega
 unfold Leave
 simp+decide [lno_h4,loopsOf, Tryz.f222,lno_o4a,lno_C4,C1,C1_]
theorem lno_f1(K1:(oU fun k=>natA (lmb k)) [.lit (.int .u64 10)]=some (natA r))(L3:loopG Tryz.prog (tab (n+2)) 0 25 (livesOf 222) 4 lno_C4 (lno_h4 a0 [] r 0)=some (.exit 0,lno_o4a nat_4)):
  run (n+2) 222 [.lit (.string a0)]=some (natA nat_4):=by
 unfold run fnP
 simp+decide [Tryz.f222,K1,strEls_by]
 rw [loopX_G (C':=lno_C4) (e:=(lno_h4 a0 [] r 0)) ?_ ?_,L3]
 rotate_left
 ·kernel_rfl
 ·simp+decide [lno_h4,K1,strEls_by] <;>rfl
 simp+decide [lno_o4a,K1,strEls_by]
end
end
section
open Go.RowKit
open Lib (decDigits)
attribute [local irreducible] run runL loopG exec
theorem ba_get(L:List UInt8)(i:Nat):(bs L)[i]?=L[i]?:=by
 have hs:=bs_size L
 by_cases h:i<L.length
 ·rw [getElem?_pos (bs L) i (by omega),List.getElem?_eq_getElem h];rfl
 ·rw [getElem?_neg (bs L) i (by omega),List.getElem?_eq_none (by omega)]
def po(L l:List UInt8):Int:=((L.length-l.length:Nat):Int)
theorem po_get{L l:List UInt8}(h:l <:+L):(bs L)[(po L l).toNat]?=l.head?:=by
 obtain ⟨p,rfl⟩:=h
 unfold po
 rw [Int.toNat_natCast,ba_get,List.length_append,show p.length+l.length-l.length=p.length from by omega,List.getElem?_append_right (Nat.le_refl _),Nat.sub_self]
 cases l <;>rfl
theorem po_nil(L:List UInt8):po L []=L.length:=by unfold po;simp
theorem po_self(L:List UInt8):po L L=0:=by unfold po;simp
theorem po_rg(L l:List UInt8):0≤po L l∧po L l≤L.length:=by unfold po;omega
theorem po_lt{L l:List UInt8}{c:UInt8}(h:c::l <:+L):po L (c::l)<L.length∧po L (c::l)+1=po L l:=by
 have:=h.length_le
 unfold po
 simp only [List.length_cons] at this ⊢
 omega
theorem suf_tl{L l:List UInt8}{c:UInt8}(h:c::l <:+L):l <:+L:=(List.suffix_cons c l).trans h
theorem u8n{c d:UInt8}:c=d↔c.toNat=d.toNat:=UInt8.toNat_inj.symm
theorem skL_suf:∀l:List UInt8,skL l <:+l
 | []=>List.suffix_refl _
 | c::l=>by
   rw [skL]
   split
   ·exact (skL_suf l).trans (List.suffix_cons c l)
   ·exact List.suffix_refl _
def isIn(set:List UInt8):List UInt8→Bool
 | []=>false
 | c::_=>set.contains c
def D10:List UInt8:=[48,49,50,51,52,53,54,55,56,57]
theorem d10(c:UInt8):D10.contains c=isD c:=by
 rw [Bool.eq_iff_iff]
 unfold D10 isD
 simp only [List.contains_eq_mem,List.mem_cons,List.not_mem_nil,or_false,decide_eq_true_eq,u8n]
 have e:∀k:Nat,k<256→(UInt8.ofNat k).toNat=k:=fun k hk=>by rw [UInt8.toNat_ofNat'];omega
 have e0:(48:UInt8).toNat=48∧(49:UInt8).toNat=49∧(50:UInt8).toNat=50∧(51:UInt8).toNat=51∧(52:UInt8).toNat=52∧(53:UInt8).toNat=53∧(54:UInt8).toNat=54∧(55:UInt8).toNat=55∧(56:UInt8).toNat=56∧(57:UInt8).toNat=57:=⟨rfl,rfl,rfl,rfl,rfl,rfl,rfl,rfl,rfl,rfl⟩
 omega
def dgP:Nat→List UInt8→List UInt8 × List UInt8
 | 0,l=>([],l)
 | _+1,[]=>([],[])
 | k+1,c::l=>if isD c=true then (c::(dgP k l).1,(dgP k l).2) else ([],c::l)
theorem dgP_app:∀(k:Nat) (l:List UInt8),l=(dgP k l).1++(dgP k l).2
 | 0,l=>rfl
 | _+1,[]=>rfl
 | k+1,c::l=>by
   rw [dgP]
   split
   ·show c::l=c::((dgP k l).1++(dgP k l).2)
    rw [←dgP_app k l]
   ·rfl
theorem dgP_d:∀(k:Nat) (l:List UInt8),(∀c∈(dgP k l).1,isD c=true)∧(dgP k l).1.length≤k
 | 0,l=>⟨fun c hc=>(by cases hc),by simp [dgP]⟩
 | _+1,[]=>⟨fun c hc=>(by cases hc),by simp [dgP]⟩
 | k+1,c::l=>by
   obtain ⟨a,b⟩:=dgP_d k l
   rw [dgP]
   split
   ·rename_i h
    refine ⟨fun x hx=>?_,by show (c::(dgP k l).1).length≤k+1;simp;exact b⟩
    rcases List.mem_cons.1 hx with rfl|hx
    ·exact h
    ·exact a x hx
   ·exact ⟨fun c hc=>(by cases hc),by simp⟩
theorem dgP_L:∀(k:Nat) (l:List UInt8) (n:Nat),dgL k l n=(dgV (dgP k l).1 n,(dgP k l).2)
 | 0,l,n=>by rw [dgL,dgP];rfl
 | _+1,[],n=>rfl
 | k+1,c::l,n=>by
   rw [dgL,dgP]
   by_cases h:isD c=true
   ·rw [if_pos h,if_pos h,dgP_L k l];rfl
   ·rw [if_neg h,if_neg h];rfl
def nmP(zero:Bool)(most:Nat):List UInt8→Option (List UInt8 × List UInt8)
 | []=>none
 | c::l=>if isD c=true then (if c=48 then (if zero=true then some ([48],l) else none) else some (dgP most (c::l))) else none
theorem nm_P(zero:Bool)(most:Nat)(l:List UInt8):nmL zero most l=(nmP zero most l).map fun p=>(dgV p.1 0,p.2):=by
 cases l with
 | nil=>rfl
 | cons c l=>
   rw [nmL,nmP]
   by_cases h:isD c=true
   ·rw [if_pos h,if_pos h]
    by_cases h2:c=48
    ·rw [if_pos h2,if_pos h2]
     cases zero <;>rfl
    ·rw [if_neg h2,if_neg h2,dgP_L];rfl
   ·rw [if_neg h,if_neg h];rfl
theorem nmP_ok{zero:Bool}{most:Nat}{l d r:List UInt8}(h:nmP zero most l=some (d,r))(hm:0<most):l=d++r∧(∀c∈d,isD c=true)∧d.length≤most∧d≠[]:=by
 cases l with
 | nil=>cases h
 | cons c l=>
   rw [nmP] at h
   split at h
   ·rename_i hd
    split at h
    ·rename_i h2
     split at h
     ·cases h
      refine ⟨by rw [h2];rfl,fun x hx=>by rw [List.mem_singleton.1 hx];decide,by simp;omega,by simp⟩
     ·cases h
    ·have e:=Option.some.inj h
     have a:=dgP_app most (c::l)
     have b:=dgP_d most (c::l)
     rw [e] at a b
     refine ⟨a,b.1,b.2,fun e2=>?_⟩
     obtain ⟨m,rfl⟩:∃m,most=m+1:=⟨most-1,by omega⟩
     rw [dgP,if_pos hd] at e
     rw [e2] at e
     cases e
   ·cases h
theorem dgV_lt:∀(d:List UInt8) (n k:Nat),(∀c∈d,isD c=true)→n<10 ^ k→dgV d n<10 ^ (k+d.length)
 | [],n,k,_,h=>h
 | c::d,n,k,hd,h=>by
   have hc:c.toNat≤57:=by
    have:=hd c (by simp)
    unfold isD at this
    exact (of_decide_eq_true this).2
   have e:10 ^ (k+1)=10 ^ k*10:=Nat.pow_succ 10 _
   have:=dgV_lt d (n*10+(c.toNat-48)) (k+1) (fun x hx=>hd x (by simp [hx])) (by omega)
   rw [List.length_cons,show k+(d.length+1)=k+1+d.length from by omega]
   exact this
theorem ext_suf{L l d r:List UInt8}(h:l <:+L)(e:l=d++r):bs d=(bs L).extract (po L l).toNat (po L r).toNat:=by
 apply ba_ext
 rw [Lib.extract_data,bs_data,bs_data]
 obtain ⟨p,rfl⟩:=h
 subst e
 unfold po
 rw [Int.toNat_natCast,Int.toNat_natCast]
 simp only [List.length_append]
 rw [show p.length+(d.length+r.length)-(d.length+r.length)=p.length from by omega,show p.length+(d.length+r.length)-r.length-p.length=d.length from by omega,List.drop_left,List.take_left]
def pB(L l:List UInt8):AB:=.box 201 [.lit (.string (bs L)),.lit (.int .i64 (po L l))] false
section
variable {n : Nat} {L l : List UInt8}
theorem blank_c(hL:L.length≤1000)(h:l <:+L):runL n 175 [.ptr 0 0] [pB L l]=some (.tup [],[(0,pB L (skL l))]):=by
 have hs:=bs_size L
 obtain ⟨ex,t,h1,h2⟩:=loopG_Q (β:=List UInt8) (P:= Tryz.prog) (O:=tab n) (m:=1) (N:=31) (lives:=livesOf 175) (r:=0) (C:=lbk_C0) (M:=l.length) (enc:=fun _ b=>lbk_h0 ⟨bs L,po L l⟩ (po L b))
  (fun k b=>b <:+L∧skL b=skL l∧k+b.length=l.length) (fun ex t=>ex=.exit 0∧t=lbk_o0a ⟨bs L,po L l⟩ (po L (skL l))) l ⟨h,rfl,by omega⟩ (by have:=h.length_le;omega)
  (fun k b hk hI=>by
   obtain ⟨i1,i2,i3⟩:=hI
   cases b with
   | nil=>simp at i3;omega
   | cons c b=>
     obtain ⟨p1,p2⟩:=po_lt i1
     have p3:=po_rg L (c::b)
     by_cases hc:c=32
     ·have R:=lbk_r0_1 (n:=n) (a0:=⟨bs L,po L l⟩) (i_0:=po L (c::b)) (b3:=c) (by show _<((bs L).size:Int);omega) (po_get i1) (by omega) (by rw [hc];rfl) ⟨by omega,by omega⟩
      rw [p2] at R
      refine .inl ⟨b,R,suf_tl i1,?_,by simp at i3;omega⟩
      rw [←i2,hc,skL_b]
     ·refine .inr ⟨_,_,by simp,lbk_x0_1 (n:=n) (a0:=⟨bs L,po L l⟩) (i_0:=po L (c::b)) (b3:=c) (by show _<((bs L).size:Int);omega) (po_get i1) (by omega) (fun e=>hc (u8n.2 (by have e2:(32:UInt8).toNat=32:=rfl;omega))),rfl,?_⟩
      rw [←i2,skL_ne hc])
  (fun b hI=>by
   obtain ⟨i1,i2,i3⟩:=hI
   have:b=[]:=List.eq_nil_of_length_eq_zero (by omega)
   subst this
   refine ⟨_,_,by simp,lbk_x0_2 (n:=n) (a0:=⟨bs L,po L l⟩) (i_0:=po L []) (by show ¬po L []<((bs L).size:Int);rw [po_nil];omega),rfl,?_⟩
   rw [←i2];rfl)
 obtain ⟨rfl,rfl⟩:=h2
 exact lbk_f1 (a0:=⟨bs L,po L l⟩) h1
theorem is_c(hL:L.length≤1000)(h:l <:+L)(set:List UInt8):runL (n+3) 176 [.ptr 0 0,.lit (.string (bs set))] [pB L l]=some (.lit (.bool (isIn set l)),[(0,pB L l)]):=by
 have hs:=bs_size L
 cases l with
 | nil=>exact lis_f2 (a0:=⟨bs L,po L []⟩) (by show ¬po L []<((bs L).size:Int);rw [po_nil];omega)
 | cons c r=>
   obtain ⟨p1,p2⟩:=po_lt h
   have p3:=po_rg L (c::r)
   have hc:=c.toNat_lt
   have K:(oIB) [.lit (.string (bs set)),.lit (.int .u8 (c.toNat:Int))]=some (.lit (.int .i64 (Lib.indexByte set c))):=by
    unfold oIB
    show (if 0≤(c.toNat:Int)∧(c.toNat:Int)<256 then some (AV.lit (.int .i64 (Lib.indexByte (bs set).data.toList (c.toNat:Int).toNat.toUInt8))) else none)=_
    rw [if_pos ⟨by omega,by omega⟩,bs_data,Int.toNat_natCast]
    have e:c.toNat.toUInt8=c:=u8n.2 (by show (UInt8.ofNat c.toNat).toNat=_;rw [UInt8.toNat_ofNat'];omega)
    rw [e]
   have R:=lis_f1 (n:=n) (a0:=⟨bs L,po L (c::r)⟩) (a1:=bs set) (b:=c) (by show po L (c::r)<((bs L).size:Int);omega) (po_get h) (by show 0≤po L (c::r);omega) K
   rw [←Lib.contains_iff_indexByte] at R
   exact R
theorem isIn_D(l:List UInt8):isIn D10 l=true↔∃c r,l=c::r∧isD c=true:=by
 cases l with
 | nil=>exact ⟨fun h=>(by cases h),fun ⟨c,r,h,_⟩=>(by cases h)⟩
 | cons c r=>
   rw [isIn,d10]
   exact ⟨fun h=>⟨c,r,rfl,h⟩,fun ⟨c',r',e,h⟩=>by cases e;exact h⟩
theorem isIn_1{c d:UInt8}{r:List UInt8}:isIn [d] (c::r)=decide (c=d):=by
 rw [isIn,Bool.eq_iff_iff]
 simp
theorem number_l(hL:L.length≤1000)(h:l <:+L)(most:Nat)(hm:most≤1000):
  loopG Tryz.prog (tab (n+4)) 1 62 (livesOf 221) 7 lnb_C7 (lnb_h7 ⟨bs L,po L l⟩ (most:Int) (po L l))=some (.exit 0,lnb_o7a ⟨bs L,po L l⟩ (po L (dgP most l).2)):=by
 obtain ⟨ex,t,h1,h2⟩:=loopG_Q (β:=List UInt8) (P:= Tryz.prog) (O:=tab (n+4)) (m:=1) (N:=62) (lives:=livesOf 221) (r:=7) (C:=lnb_C7) (M:=most) (enc:=fun _ b=>lnb_h7 ⟨bs L,po L l⟩ (most:Int) (po L b))
  (fun k b=>b <:+L∧(dgP (most-k) b).2=(dgP most l).2∧k+b.length=l.length∧k≤most) (fun ex t=>ex=.exit 0∧t=lnb_o7a ⟨bs L,po L l⟩ (po L (dgP most l).2)) l ⟨h,by rw [Nat.sub_zero],by omega,by omega⟩ (by omega)
  (fun k b hk hI=>by
   obtain ⟨i1,i2,i3,i4⟩:=hI
   have K:=is_c (n:=n) hL i1 D10
   have hl:=h.length_le
   have hpo:po L b-po L l=k:=by have:=i1.length_le;unfold po;omega
   have p3:=po_rg L b
   by_cases c:isIn D10 b=true
   ·obtain ⟨d,r,rfl,hd⟩:=(isIn_D b).1 c
    rw [c] at K
    obtain ⟨p1,p2⟩:=po_lt i1
    have R:=lnb_r7_1 (n:=n) (a0:=⟨bs L,po L l⟩) (a1:=(most:Int)) (i_7:=po L (d::r)) K rfl ⟨by show _≤po L (d::r)-po L l;omega,by show po L (d::r)-po L l≤_;omega⟩ (by show po L (d::r)-po L l<_;omega) ⟨by omega,by omega⟩
    rw [p2] at R
    refine .inl ⟨r,R,suf_tl i1,?_,by simp at i3;omega,by omega⟩
    rw [←i2,show most-k=(most-(k+1))+1 from by omega,dgP,if_pos hd]
   ·rw [Bool.eq_false_iff.2 c] at K
    refine .inr ⟨_,_,by simp,lnb_x7_2 (n:=n) (a0:=⟨bs L,po L l⟩) (a1:=(most:Int)) (i_7:=po L b) K rfl,rfl,?_⟩
    rw [←i2,show most-k=(most-(k+1))+1 from by omega]
    cases b with
    | nil=>rfl
    | cons d r=>
      have hd:¬isD d=true:=fun e=>c ((isIn_D _).2 ⟨d,r,rfl,e⟩)
      rw [dgP,if_neg hd])
  (fun b hI=>by
   obtain ⟨i1,i2,i3,i4⟩:=hI
   have K:=is_c (n:=n) hL i1 D10
   have hl:=h.length_le
   have hpo:po L b-po L l=most:=by have:=i1.length_le;unfold po;omega
   rw [Nat.sub_self] at i2
   have e:b=(dgP most l).2:=i2
   by_cases c:isIn D10 b=true
   ·rw [c] at K
    exact ⟨_,_,by simp,lnb_x7_1 (n:=n) (a0:=⟨bs L,po L l⟩) (a1:=(most:Int)) (i_7:=po L b) K rfl ⟨by show _≤po L b-po L l;omega,by show po L b-po L l≤_;omega⟩ (by show ¬po L b-po L l<_;omega),rfl,by rw [←e]⟩
   ·rw [Bool.eq_false_iff.2 c] at K
    exact ⟨_,_,by simp,lnb_x7_2 (n:=n) (a0:=⟨bs L,po L l⟩) (a1:=(most:Int)) (i_7:=po L b) K rfl,rfl,by rw [←e]⟩)
 obtain ⟨rfl,rfl⟩:=h2
 exact h1
theorem number_n(hL:L.length≤1000)(h:l <:+L){most:Nat}{zero:Bool}(hm:most≤1000)(hn:nmP zero most l=none):
  runL (n+4) 221 [.ptr 0 0,.lit (.int .i64 (most:Int)),.lit (.bool zero)] [pB L l]=some (.tup [.lit (.string (bs [])),.lit (.bool false)],[(0,pB L l)]):=by
 have K:=is_c (n:=n) hL h D10
 by_cases c:isIn D10 l=true
 ·obtain ⟨d,r,rfl,hd⟩:=(isIn_D l).1 c
  rw [c] at K
  rw [nmP,if_pos hd] at hn
  by_cases h2:d=48
  ·rw [if_pos h2] at hn
   cases zero with
   | true=>cases hn
   | false=>
     have K2:=is_c (n:=n) hL h [48]
     rw [isIn_1,decide_eq_true h2] at K2
     exact lnb_f2 (a0:=⟨bs L,po L (d::r)⟩) K rfl rfl K2 rfl
  ·rw [if_neg h2] at hn
   cases hn
 ·rw [Bool.eq_false_iff.2 c] at K
  exact lnb_f1 (a0:=⟨bs L,po L l⟩) K rfl
theorem number_s(hL:L.length≤1000)(h:l <:+L){most:Nat}{zero:Bool}{d r:List UInt8}(hm:most≤1000)(h0:0<most)(hn:nmP zero most l=some (d,r)):
  runL (n+4) 221 [.ptr 0 0,.lit (.int .i64 (most:Int)),.lit (.bool zero)] [pB L l]=some (.tup [.lit (.string (bs d)),.lit (.bool true)],[(0,pB L r)]):=by
 have K:=is_c (n:=n) hL h D10
 have K2:=is_c (n:=n) hL h [48]
 have hs:=bs_size L
 obtain ⟨e1,e2,e3,e4⟩:=nmP_ok hn h0
 cases l with
 | nil=>cases hn
 | cons c l=>
   rw [nmP] at hn
   have hd:isD c=true:=by
    false_or_by_contra
    rename_i hd
    rw [if_neg hd] at hn
    cases hn
   rw [if_pos hd] at hn
   rw [(isIn_D _).2 ⟨c,l,rfl,hd⟩] at K
   obtain ⟨p1,p2⟩:=po_lt h
   have p3:=po_rg L (c::l)
   have p4:=po_rg L r
   rw [isIn_1] at K2
   by_cases hc:c=48
   ·rw [if_pos hc] at hn
    rw [decide_eq_true hc] at K2
    cases zero with
    | false=>cases hn
    | true=>
      obtain ⟨h1,h2⟩:=Prod.mk.inj (Option.some.inj hn)
      rw [←h1,←h2]
      have R:=lnb_f5 (n:=n) (a0:=⟨bs L,po L (c::l)⟩) (a1:=(most:Int)) (a2:=true) K rfl rfl K2 rfl ⟨by omega,by omega⟩
      rw [p2] at R
      exact R
   ·rw [if_neg hc] at hn
    rw [decide_eq_false hc] at K2
    have hn2:=Option.some.inj hn
    have G:=number_l (n:=n) hL h most hm
    rw [hn2] at G
    have hr:po L (c::l)≤po L r:=by
     have:=congrArg List.length e1
     rw [List.length_append] at this
     unfold po
     omega
    have X:=ext_suf h e1
    cases zero with
    | false=>exact lnb_f4 (n:=n) (a0:=⟨bs L,po L (c::l)⟩) (a1:=(most:Int)) (a2:=false) K rfl rfl K2 rfl K2 rfl G ⟨by show 0≤po L _;omega,hr,by show _≤((bs L).size:Int);omega⟩ X
    | true=>exact lnb_f6 (n:=n) (a0:=⟨bs L,po L (c::l)⟩) (a1:=(most:Int)) (a2:=true) K rfl rfl K2 rfl G ⟨by show 0≤po L _;omega,hr,by show _≤((bs L).size:Int);omega⟩ X
theorem oU_k{z:Int}{k:Nat}(hz:z=k)(h:k<18446744073709551616):(oU fun k=>natA (lmb k)) [.lit (.int .u64 z)]=some (natA (lmb k)):=by
 subst hz
 unfold oU
 show (if 0≤(k:Int)∧(k:Int)<18446744073709551616 then some (natA (lmb (k:Int).toNat)) else none)=_
 rw [if_pos ⟨by omega,by omega⟩,Int.toNat_natCast]
theorem lmb_few{k m:Nat}(h:k<10 ^ m)(hm:m≤400):(lmb k).length≤100:=by
 have h2:k<4294967296 ^ 100:=Nat.lt_of_lt_of_le h (Nat.le_trans (Nat.pow_le_pow_right (by omega) hm) (by decide+kernel))
 exact lmb_len_le h2
theorem few_l{k:Nat}(h:(lmb k).length≤1000):fewN (lmb k)=true:=Nat.ble_eq_true_of_le (by omega)
theorem k_mul{a b:Nat}(ha:(lmb a).length≤1000)(hb:(lmb b).length≤1000):(oN2 fun x y=>natA (lmb (val x*val y))) [natA (lmb a),natA (lmb b)]=some (natA (lmb (a*b))):=by
 rw [oN2_raw (lim_lmb a) (lim_lmb b) (few_l ha) (few_l hb),val_lmb,val_lmb]
theorem k_add{a b:Nat}(ha:(lmb a).length≤1000)(hb:(lmb b).length≤1000):(oN2 fun x y=>natA (lmb (val x+val y))) [natA (lmb a),natA (lmb b)]=some (natA (lmb (a+b))):=by
 rw [oN2_raw (lim_lmb a) (lim_lmb b) (few_l ha) (few_l hb),val_lmb,val_lmb]
theorem foldI_l{α β:Type}(f:β→α→β):∀(R:List α) (i:Nat) (o:β),foldI (fun _ o x=>f o x) i o R=R.foldl f o
 | [],_,_=>rfl
 | x::R,i,o=>by rw [foldI,foldI_l f R];rfl
theorem isD_n{c:UInt8}(h:isD c=true):48≤c.toNat∧c.toNat≤57:=of_decide_eq_true h
theorem natOf_c{d:List UInt8}(hd:∀c∈d,isD c=true)(hl:d.length≤300):run (n+2) 222 [.lit (.string (bs d))]=some (natA (lmb (dgV d 0))):=by
 have hb:byL (bs d)=d.map fun c=>(c.toNat:Int):=by unfold byL;rw [bs_data]
 have K1:(oU fun k=>natA (lmb k)) [.lit (.int .u64 10)]=some (natA (lmb 10)):=oU_k (by omega) (by omega)
 have h10:(lmb 10).length≤1000:=by decide+kernel
 have L1:=(loopG_I (O:=tab (n+2)) (P:= Tryz.prog) (m:=0) (N:=25) (lives:=livesOf 222) (r:=4) (C:=lno_C4) (L:=d) (f:=fun _ (b:Nat) (c:UInt8)=>b*10+(c.toNat-48)) (enc:=fun i b=>lno_h4 (bs d) (lmb b) (lmb 10) i) (exN:=.exit 0) (out:=fun b=>lno_o4a (lmb b)) (Inv:=fun i b=>b<10 ^ i) 0 (by simp) (by omega) (by simp)
  (fun i c b hi hI=>by
   have hlt:=(List.getElem?_eq_some_iff.1 hi).1
   obtain ⟨c0,c1⟩:=isD_n (hd c (List.mem_of_getElem? hi))
   have f1:=lmb_few hI (by omega)
   have e:10 ^ (i+1)=10 ^ i*10:=Nat.pow_succ 10 _
   have f2:=lmb_few (k:=b*10) (m:=i+1) (by omega) (by omega)
   have f3:=lmb_few (k:=c.toNat-48) (m:=2) (by omega) (by omega)
   have w1:IntKind.u8.wrap ((c.toNat:Int)-48)=(c.toNat:Int)-48:=by simp [IntKind.wrap,IntKind.signed,IntKind.bits];omega
   have w2:IntKind.u64.wrap ((c.toNat:Int)-48)=(c.toNat:Int)-48:=by rw [wrapU64];omega
   have K6:(oU fun k=>natA (lmb k)) [.lit (.int .u64 ((c.toNat:Int)-48))]=some (natA (lmb (c.toNat-48))):=oU_k (by omega) (by omega)
   exact ⟨lno_r4_1 (n:=n) (by rw [hb,List.length_map];omega) (by rw [hb,List.getElem?_map,hi];rfl) (k_mul (by omega) h10) w1 w2 K6 (k_add (by omega) (by omega)) ⟨by omega,by omega⟩,by omega⟩)
  (fun b hI=>lno_x4_1 (by rw [hb,List.length_map];omega))).1
 rw [foldI_l (fun (b:Nat) (c:UInt8)=>b*10+(c.toNat-48))] at L1
 exact lno_f1 K1 L1
theorem decF:∀(d:List UInt8) (a:Nat),(∀c∈d,isD c=true)→Lib.decFrom a d=some (dgV d a)
 | [],_,_=>rfl
 | c::d,a,h=>by
   have hc:=isD_n (h c (by simp))
   have e:Lib.digitVal c=some (c.toNat-48):=if_pos hc
   rw [Lib.decFrom,e]
   exact decF d _ fun x hx=>h x (by simp [hx])
theorem atoi_d{d:List UInt8}(h:∀c∈d,isD c=true)(h0:d≠[]):Lib.atoi d=some (dgV d 0:Nat):=by
 cases d with
 | nil=>exact absurd rfl h0
 | cons c d=>
   have hc:=h c (by simp)
   have e1:(c==45)=false:=by rw [beq_eq_false_iff_ne];exact isD_ne hc (by decide)
   have e2:(c==43)=false:=by rw [beq_eq_false_iff_ne];exact isD_ne hc (by decide)
   rw [Lib.atoi,e1,e2]
   have e3:Lib.decNat (c::d)=some (dgV (c::d) 0):=by
    unfold Lib.decNat
    exact decF (c::d) 0 h
   simp [e3]
end
end
section
open Go.RowKit Go.Lib
attribute [local irreducible] run runL loopG exec
def dgC:List UInt8:=[48,49,50,51,52,53,54,55,56,57]
theorem dgC_d(c:UInt8):dgC.contains c=isD c:=by
 have h:∀n:Fin 256,dgC.contains (UInt8.ofNat n.1)=isD (UInt8.ofNat n.1):=by decide+kernel
 have e:UInt8.ofNat c.toNat=c:=UInt8.ofNat_toNat
 have:=h ⟨c.toNat,c.toNat_lt⟩
 rwa [e] at this
theorem dw_all{p:UInt8→Bool}{L:List UInt8}(h:L.dropWhile p=[]):∀c∈L,p c=true:=by
 have h1:L.takeWhile p=L:=by
  have:=List.takeWhile_append_dropWhile (p:=p) (l:=L)
  rw [h,List.append_nil] at this
  exact this
 intro c hc
 rw [←h1] at hc
 exact mem_tw hc
theorem dw_head{p:UInt8→Bool}{L:List UInt8}{c:UInt8}{M:List UInt8}(h:L.dropWhile p=c::M):p c=false:=by
 have h1:(L.dropWhile p).head?=some c:=by rw [h];rfl
 have h2:=List.head?_dropWhile_not p L
 rw [h1] at h2
 simpa using h2
theorem trim_dg(D:List UInt8):trimS D dgC=[]↔∀c∈D,isD c=true:=by
 have e:(fun c:UInt8=>dgC.contains c)=isD:=by funext c;exact dgC_d c
 unfold trimS trimLeftS trimRightS
 rw [e]
 constructor
 ·intro h
  have h2:=dw_all h
  cases hr:D.reverse.dropWhile isD with
  | nil=>exact fun c hc=>dw_all hr c (List.mem_reverse.2 hc)
  | cons c M=>
    have h3:=dw_head hr
    have h4:=h2 c (by rw [hr];simp)
    rw [h3] at h4;cases h4
 ·intro h
  rw [dw_nil (p:=isD) (L:=D.reverse) (fun c hc=>h c (List.mem_reverse.1 hc))]
  rfl
def tgR:Option Nat→AV
 | some v=>.tup [.lit (.int .i64 (v:Int)),.lit (.bool true)]
 | none=>.tup [.lit (.int .i64 0),.lit (.bool false)]
theorem tgP_no{X:List UInt8}(h:¬(X.head?=some 32∧trB X≠[]∧(trB X).length≤9∧¬((trB X).head?=some 48∧1<(trB X).length)∧∀c∈trB X,isD c=true)):tgR (tgP X)=.tup [.lit (.int .i64 0),.lit (.bool false)]:=by
 unfold tgP;rw [if_neg h];rfl
theorem tgP_yes{X:List UInt8}(h:X.head?=some 32∧trB X≠[]∧(trB X).length≤9∧¬((trB X).head?=some 48∧1<(trB X).length)∧∀c∈trB X,isD c=true):tgR (tgP X)=.tup [.lit (.int .i64 (dgV (trB X) 0:Nat)),.lit (.bool true)]:=by
 unfold tgP;rw [if_pos h];rfl
theorem bs_e{L:List UInt8}:bs L=(⟨#[]⟩:ByteArray)↔L=[]:=⟨fun h=>bs_inj (l:=L) (m:=[]) h,fun h=>by rw [h];rfl⟩
section
variable {n : Nat} {L : List UInt8}
theorem trL_len(L:List UInt8):(trL L).length≤L.length:=(List.dropWhile_suffix _).length_le
theorem trR_len(L:List UInt8):(trR L).length≤L.length:=(trR_pre L).length_le
theorem trimLeft_c(hL:L.length≤100000):oTrimLeft [.lit (.string (bs L)),.lit (.string (⟨#[32]⟩:ByteArray))]=some (.lit (.string (bs (trL L)))):=by
 unfold oTrimLeft
 dsimp only
 rw [if_pos ⟨by rw [bs_size];omega,by decide,by decide⟩,bs_data]
 have e:trimLeftS L (⟨#[32]⟩:ByteArray).data.toList=trL L:=left_bl L
 rw [e];rfl
theorem trimB_c(hL:L.length≤100000):oTrim [.lit (.string (bs L)),.lit (.string (⟨#[32]⟩:ByteArray))]=some (.lit (.string (bs (trB L)))):=by
 unfold oTrim
 dsimp only
 rw [if_pos ⟨by rw [bs_size];omega,by decide,by decide⟩,bs_data]
 have e:trimS L (⟨#[32]⟩:ByteArray).data.toList=trB L:=(trim_bl L).trans (trLR L)
 rw [e];rfl
theorem trimD_c(hL:L.length≤100000):oTrim [.lit (.string (bs L)),.lit (.string (⟨#[48,49,50,51,52,53,54,55,56,57]⟩:ByteArray))]=some (.lit (.string (bs (trimS L dgC)))):=by
 unfold oTrim
 dsimp only
 rw [if_pos ⟨by rw [bs_size];omega,by decide,by decide⟩,bs_data]
 rfl
theorem pre_c{t:List UInt8}:oHasPrefix [.lit (.string (bs L)),.lit (.string (bs t))]=some (.lit (.bool (hasPrefix L t))):=by
 unfold oHasPrefix
 dsimp only
 rw [bs_data,bs_data]
theorem cutT_c(h:hasPrefix L topW=true):oTrimPrefix [.lit (.string (bs L)),.lit (.string (⟨#[116,111,112]⟩:ByteArray))]=some (.lit (.string (bs (L.drop 3)))):=by
 unfold oTrimPrefix
 dsimp only
 rw [bs_data]
 have e:trimPrefix L (⟨#[116,111,112]⟩:ByteArray).data.toList=L.drop 3:=by
  unfold trimPrefix
  exact if_pos h
 rw [e];rfl
theorem pre32(X:List UInt8):hasPrefix X [32]=true↔X.head?=some 32:=by
 unfold hasPrefix
 cases X with
 | nil=>constructor <;>intro h <;>cases h
 | cons c M=>
   have e3:List.isPrefixOf ([]:List UInt8) M=true:=by cases M <;>rfl
   show ((32:UInt8)==c && List.isPrefixOf [] M)=true↔some c=some 32
   rw [e3,Bool.and_true,beq_iff_eq]
   exact ⟨fun h=>by rw [h],fun h=>(Option.some.inj h).symm⟩
theorem atoi_c(hd:∀c∈L,isD c=true)(h0:L≠[])(hl:L.length≤9):oAtoi [.lit (.string (bs L))]=some (.tup [.lit (.int .i64 (dgV L 0:Nat)),.lit .nilIface]):=by
 unfold oAtoi
 dsimp only
 rw [bs_data,if_pos (by rw [bs_size];omega),atoi_d hd h0]
 rfl
theorem target_c(hL:L.length≤100000)(ht:hasPrefix (trL L) topW=true):run (n+9) 59 [.lit (.string (bs L))]=some (tgR (tgP ((trL L).drop 3))):=by
 have hl:=trL_len L
 have K1:=trimLeft_c (L:=L) (by omega)
 have K2:=cutT_c ht
 have hX:((trL L).drop 3).length≤100000:=by rw [List.length_drop];omega
 generalize (trL L).drop 3=X at K2 hX ⊢
 have K3:=trimB_c (L:=X) (by omega)
 have K4:oHasPrefix [.lit (.string (bs X)),.lit (.string (⟨#[32]⟩:ByteArray))]=some (.lit (.bool (hasPrefix X [32]))):=pre_c (t:=[32])
 cases hp:hasPrefix X [32] with
 | false=>
   rw [tgP_no (fun h=>by rw [(pre32 X).2 h.1] at hp;cases hp)]
   exact ctg_f1 K1 K2 K3 K4 hp
 | true=>
 have hh:=(pre32 X).1 hp
 have hD:(trB X).length≤100000:=by have:=trR_len (trL X);have:=trL_len X;show (trR (trL X)).length≤100000;omega
 have hs:(bs (trB X)).size=(trB X).length:=bs_size _
 by_cases h0:trB X=[]
 ·rw [tgP_no (fun h=>h.2.1 h0)]
  exact ctg_f2 K1 K2 K3 K4 hp (bs_e.2 h0)
 have h0':¬bs (trB X)=(⟨#[]⟩:ByteArray):=fun h=>h0 (bs_e.1 h)
 by_cases h9:9<(trB X).length
 ·rw [tgP_no (fun h=>by have:=h.2.2.1;omega)]
  exact ctg_f3 K1 K2 K3 K4 hp h0' (by omega)
 have h9':¬9<((bs (trB X)).size:Int):=by omega
 have K11:=trimD_c (L:=trB X) (by omega)
 obtain ⟨b,M,hb⟩:∃b M,trB X=b::M:=by
  cases hc:trB X with
  | nil=>exact absurd hc h0
  | cons b M=>exact ⟨b,M,rfl⟩
 have E8:(bs (trB X))[0]?=some b:=by rw [bs_at,hb];rfl
 have hhd:(trB X).head?=some b:=by rw [hb];rfl
 have b48:(b.toNat:Int)=48↔b=48:=⟨fun h=>UInt8.toNat_inj.1 (by show b.toNat=48;omega),fun h=>by rw [h];rfl⟩
 by_cases c9:b=48
 ·by_cases c10:1<(trB X).length
  ·rw [tgP_no (fun h=>h.2.2.2.1 ⟨by rw [hhd,c9],c10⟩)]
   exact ctg_f4 K1 K2 K3 K4 hp h0' h9' E8 (b48.2 c9) (by omega)
  ·by_cases hd:∀c∈trB X,isD c=true
   ·rw [tgP_yes ⟨hh,h0,by omega,fun h=>c10 h.2,hd⟩]
    exact ctg_f6 K1 K2 K3 K4 hp h0' h9' E8 (b48.2 c9) (by omega) K11 (bs_e.2 ((trim_dg _).2 hd)) (atoi_c hd h0 (by omega)) rfl
   ·rw [tgP_no (fun h=>hd h.2.2.2.2)]
    exact ctg_f5 K1 K2 K3 K4 hp h0' h9' E8 (b48.2 c9) (by omega) K11 (fun h=>hd ((trim_dg _).1 (bs_e.1 h)))
 ·by_cases hd:∀c∈trB X,isD c=true
  ·rw [tgP_yes ⟨hh,h0,by omega,fun h=>c9 (by have:=h.1;rw [hhd] at this;cases this;rfl),hd⟩]
   exact ctg_f8 K1 K2 K3 K4 hp h0' h9' E8 (fun h=>c9 (b48.1 h)) K11 (bs_e.2 ((trim_dg _).2 hd)) (atoi_c hd h0 (by omega)) rfl
  ·rw [tgP_no (fun h=>hd h.2.2.2.2)]
   exact ctg_f7 K1 K2 K3 K4 hp h0' h9' E8 (fun h=>c9 (b48.1 h)) K11 (fun h=>hd ((trim_dg _).1 (bs_e.1 h)))
end
end
section
open Go.RowKit
attribute [local irreducible] run runL loopG exec
theorem wr8{z:Int}(h0:0≤z)(h1:z≤255):IntKind.u8.wrap z=z:=by
 have:IntKind.u8.wrap z=z % 256:=rfl
 rw [this];omega
theorem isD_iff(c:UInt8):isD c=true↔48≤c.toNat∧c.toNat≤57:=by unfold isD;exact decide_eq_true_iff
section
variable {n : Nat} {D X : List UInt8}
theorem ftg_loop(hl:D.length≤9):(∃z,loopG Tryz.prog (tab (n+1)) 0 59 (livesOf 65) 8 ftg_C8 (ftg_h8 (bs D) 0 0)=some (.ret,ftg_o8a z)∧¬∀c∈D,isD c=true)∨
  (loopG Tryz.prog (tab (n+1)) 0 59 (livesOf 65) 8 ftg_C8 (ftg_h8 (bs D) 0 0)=some (.exit 0,ftg_o8b (dgV D 0:Nat))∧∀c∈D,isD c=true):=by
 obtain ⟨ex,t,h1,h2⟩:=loopG_Q (β:=Int) (P:= Tryz.prog) (O:=tab (n+1)) (m:=0) (N:=59) (lives:=livesOf 65) (r:=8) (C:=ftg_C8) (M:=D.length) (enc:=fun i z=>ftg_h8 (bs D) z i)
  (fun i z=>(∀c∈D.take i,isD c=true)∧z=(dgV (D.take i) 0:Nat)) (fun ex t=>(ex=.ret∧(∃z,t=ftg_o8a z)∧¬∀c∈D,isD c=true)∨(ex=.exit 0∧t=ftg_o8b (dgV D 0:Nat)∧∀c∈D,isD c=true)) 0 ⟨fun c h=>by simp at h,rfl⟩ (by omega)
  (fun i z hi hI=>by
   obtain ⟨hI,rfl⟩:=hI
   have hx:D[i]?=some D[i]:=List.getElem?_eq_getElem hi
   have ht:D.take (i+1)=D.take i++[D[i]]:=List.take_succ_eq_append_getElem hi
   have hm:D[i]∈D:=List.getElem_mem hi
   generalize D[i]=x at hx ht hm
   have E2:(bs D)[i]?=some x:=by rw [bs_at];exact hx
   have C1:(i:Int)<((bs D).size:Int):=by rw [bs_size];omega
   have hb:dgV (D.take i) 0<10 ^ (0+(D.take i).length):=dgV_lt (D.take i) 0 0 hI (by decide)
   have hb2:10 ^ (0+(D.take i).length)≤10 ^ 9:=Nat.pow_le_pow_right (by decide) (by rw [List.length_take];omega)
   have hb3:(10:Nat) ^ 9=1000000000:=by decide
   have hx8:=x.toNat_lt
   by_cases hd:isD x=true
   ·have hd2:=(isD_iff x).1 hd
    refine .inl ⟨_,ftg_r8_1 C1 E2 (by omega) (by omega) ⟨by omega,by omega⟩ (wr8 (by omega) (by omega)) ⟨by omega,by omega⟩ ⟨by omega,by omega⟩,fun c hc=>?_,?_⟩
    ·rw [ht] at hc
     rcases List.mem_append.1 hc with h|h
     ·exact hI c h
     ·rw [List.mem_singleton.1 h];exact hd
    ·have e:dgV (D.take (i+1)) 0=dgV (D.take i) 0*10+(x.toNat-48):=by
      rw [ht];unfold dgV;rw [List.foldl_append];rfl
     rw [e];omega
   ·have hd2:¬(48≤x.toNat∧x.toNat≤57):=fun h=>hd ((isD_iff x).2 h)
    have hno:¬∀c∈D,isD c=true:=fun h=>hd (h x hm)
    by_cases h48:(x.toNat:Int)<48
    ·exact .inr ⟨_,_,by simp,ftg_x8_1 C1 E2 h48,.inl ⟨rfl,⟨_,rfl⟩,hno⟩⟩
    ·exact .inr ⟨_,_,by simp,ftg_x8_2 C1 E2 h48 (by omega),.inl ⟨rfl,⟨_,rfl⟩,hno⟩⟩)
  (fun z hI=>by
   obtain ⟨hI,rfl⟩:=hI
   rw [List.take_length] at hI ⊢
   exact ⟨_,_,by simp,ftg_x8_3 (by rw [bs_size];omega),.inr ⟨rfl,rfl,hI⟩⟩)
 rcases h2 with ⟨rfl,⟨z,rfl⟩,h3⟩|⟨rfl,rfl,h3⟩
 ·exact .inl ⟨z,h1,h3⟩
 ·exact .inr ⟨h1,h3⟩
theorem ftarget_c(hX:X.length≤900):run (n+1) 65 [.lit (.string (bs (trR X)))]=some (tgR (tgP X)):=by
 have hlY:=trR_len X
 have eD:=trB_R X
 have hp:=trR_pre X
 generalize trR X=Y at hlY eD hp ⊢
 have hs:(bs Y).size=Y.length:=bs_size _
 cases Y with
 | nil=>
   rw [tgP_no (fun h=>h.2.1 eD.symm)]
   exact ftg_f1 (by rw [hs];rfl)
 | cons c M=>
 have n0:¬((bs (c::M)).size:Int)=0:=by rw [hs,List.length_cons];omega
 have E2:(bs (c::M))[0]?=some c:=by rw [bs_at];rfl
 have hh:X.head?=some c:=by
  obtain ⟨R,hR⟩:=hp
  rw [←hR];rfl
 have c32:(c.toNat:Int)=32↔c=32:=⟨fun h=>UInt8.toNat_inj.1 (by show c.toNat=32;omega),fun h=>by rw [h];rfl⟩
 by_cases hc:c=32
 rotate_left
 ·rw [tgP_no (fun h=>hc (by have:=h.1;rw [hh] at this;cases this;rfl))]
  exact ftg_f2 n0 E2 (fun h=>hc (c32.1 h))
 have hh2:X.head?=some 32:=by rw [hh,hc]
 have K4:=ftrim_c (n:=n) (L:=c::M) (by omega)
 rw [eD] at K4
 have hD:(trB X).length≤900:=by have:=trR_len (trL X);have:=trL_len X;show (trR (trL X)).length≤900;omega
 have hsD:(bs (trB X)).size=(trB X).length:=bs_size _
 have C3:=c32.2 hc
 by_cases h0:trB X=[]
 ·rw [tgP_no (fun h=>h.2.1 h0)]
  exact ftg_f3 n0 E2 C3 K4 (by rw [hsD,h0];rfl)
 obtain ⟨b,N,hb⟩:∃b N,trB X=b::N:=by
  cases hc:trB X with
  | nil=>exact absurd hc h0
  | cons b N=>exact ⟨b,N,rfl⟩
 have n1:¬((bs (trB X)).size:Int)=0:=by rw [hsD,hb,List.length_cons];omega
 by_cases h9:9<(trB X).length
 ·rw [tgP_no (fun h=>by have:=h.2.2.1;omega)]
  exact ftg_f4 n0 E2 C3 K4 n1 (by omega)
 have h9':¬9<((bs (trB X)).size:Int):=by omega
 have E7:(bs (trB X))[0]?=some b:=by rw [bs_at,hb];rfl
 have hhd:(trB X).head?=some b:=by rw [hb];rfl
 have b48:(b.toNat:Int)=48↔b=48:=⟨fun h=>UInt8.toNat_inj.1 (by show b.toNat=48;omega),fun h=>by rw [h];rfl⟩
 by_cases c9:b=48
 ·by_cases c10:1<(trB X).length
  ·rw [tgP_no (fun h=>h.2.2.2.1 ⟨by rw [hhd,c9],c10⟩)]
   exact ftg_f5 n0 E2 C3 K4 n1 h9' E7 (b48.2 c9) (by omega)
  ·rcases ftg_loop (n:=n) (D:=trB X) (by omega) with ⟨z,L,hd⟩|⟨L,hd⟩
   ·rw [tgP_no (fun h=>hd h.2.2.2.2)]
    exact ftg_f6 n0 E2 C3 K4 n1 h9' E7 (b48.2 c9) (by omega) L
   ·rw [tgP_yes ⟨hh2,h0,by omega,fun h=>c10 h.2,hd⟩]
    exact ftg_f7 n0 E2 C3 K4 n1 h9' E7 (b48.2 c9) (by omega) L
 ·rcases ftg_loop (n:=n) (D:=trB X) (by omega) with ⟨z,L,hd⟩|⟨L,hd⟩
  ·rw [tgP_no (fun h=>hd h.2.2.2.2)]
   exact ftg_f8 n0 E2 C3 K4 n1 h9' E7 (fun h=>c9 (b48.1 h)) L
  ·rw [tgP_yes ⟨hh2,h0,by omega,fun h=>c9 (by have:=h.1;rw [hhd] at this;cases this;rfl),hd⟩]
   exact ftg_f9 n0 E2 C3 K4 n1 h9' E7 (fun h=>c9 (b48.1 h)) L
end
end
end Go.Proofs.YtnegdhjdienjlaaGreatDoor
