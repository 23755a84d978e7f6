import Derived.Test.YtnegdhjdienjlaaGreatDoorGQ31
import Derived.Test.YtnegdhjdienjlaaGreatDoorGQ32
import Derived.Test.YtnegdhjdienjlaaGreatDoorGQ33
import Derived.Test.YtnegdhjdienjlaaGreatDoorGQ34
import Derived.Test.YtnegdhjdienjlaaGreatDoorGQ35
import Derived.Test.YtnegdhjdienjlaaGreatDoorGQ36
import Derived.Test.YtnegdhjdienjlaaGreatDoorGQ20
import Derived.Test.YtnegdhjdienjlaaGreatDoorGQ12
import Derived.Test.YtnegdhjdienjlaaGreatDoorGQ21
set_option linter.all false
set_option maxHeartbeats 6400000
set_option maxRecDepth 100000
namespace Go.Proofs.YtnegdhjdienjlaaGreatDoor
section
open Go.RowKit
open Lib (decDigits)
attribute [local irreducible] run runL loopG exec
theorem pcw_snoc:∀(M:List UInt8) (ws:List (List UInt8)) (w:List UInt8),pcw M=ws++[w]→pcw (M++[32])=(ws++[w])++[[]]∧∀c,c≠32→pcw (M++[c])=ws++[w++[c]]
 | [],ws,w,h=>by
   have h2:[([]:List UInt8)]=ws++[w]:=h
   have:ws=[]∧w=[]:=by
    cases ws with
    | nil=>simp at h2;exact ⟨rfl,h2⟩
    | cons a ws=>simp at h2
   obtain ⟨rfl,rfl⟩:=this
   refine ⟨rfl,fun c hc=>?_⟩
   show pcw [c]=[[c]]
   unfold pcw
   rw [if_neg hc]
   rfl
 | a::M,ws,w,h=>by
   obtain ⟨p,ps,hp⟩:=pcw_ne M
   by_cases ha:a=32
   ·subst ha
    have e:∀X,pcw (32::X)=[]::pcw X:=fun X=>by
     conv=>lhs;unfold pcw
     rw [if_pos rfl]
    rw [e] at h
    cases ws with
    | nil=>
      rw [hp] at h
      simp at h
    | cons b ws=>
      rw [List.cons_append,List.cons.injEq] at h
      obtain ⟨rfl,h⟩:=h
      obtain ⟨i1,i2⟩:=pcw_snoc M ws w h
      refine ⟨?_,fun c hc=>?_⟩
      ·rw [List.cons_append,e,i1];rfl
      ·rw [List.cons_append,e,i2 c hc];rfl
   ·have e:∀X q qs,pcw X=q::qs→pcw (a::X)=(a::q)::qs:=fun X q qs hX=>by
     conv=>lhs;unfold pcw
     rw [if_neg ha,hX]
    rw [e M p ps hp] at h
    cases ws with
    | nil=>
      have h2:(a::p)=w∧ps=[]:=by simpa using h
      obtain ⟨rfl,rfl⟩:=h2
      obtain ⟨i1,i2⟩:=pcw_snoc M [] p hp
      refine ⟨?_,fun c hc=>?_⟩
      ·rw [List.cons_append,e _ p [[]] i1];rfl
      ·rw [List.cons_append,e _ (p++[c]) [] (i2 c hc)];rfl
    | cons b ws=>
      rw [List.cons_append,List.cons.injEq] at h
      obtain ⟨rfl,h⟩:=h
      obtain ⟨i1,i2⟩:=pcw_snoc M (p::ws) w (by rw [hp,h];rfl)
      refine ⟨?_,fun c hc=>?_⟩
      ·rw [List.cons_append,e _ p (ws++[w]++[[]]) i1];rfl
      ·rw [List.cons_append,e _ p (ws++[w++[c]]) (i2 c hc)];rfl
def ixF(w:List UInt8):Int:=w.foldl (fun z c=>10*z+(c.toNat:Int)-48) 0
theorem ixF_snoc(w:List UInt8)(c:UInt8):ixF (w++[c])=10*ixF w+(c.toNat:Int)-48:=by unfold ixF;rw [List.foldl_append];rfl
theorem ixF_bd:∀(k:Nat) (w:List UInt8),w.length=k→-(255*(11 ^ k:Nat):Int)≤ixF w∧ixF w≤255*(11 ^ k:Nat)
 | 0,w,h=>by
   rw [List.eq_nil_of_length_eq_zero h]
   exact ⟨by decide,by decide⟩
 | k+1,w,h=>by
   rcases List.eq_nil_or_concat w with h0|⟨v,c,h0⟩
   ·rw [h0] at h;simp at h
   ·rw [List.concat_eq_append] at h0
    subst h0
    obtain ⟨i1,i2⟩:=ixF_bd k v (by simpa using h)
    have h8:=c.toNat_lt
    have hp:0<11 ^ k:=Nat.pow_pos (by decide)
    rw [ixF_snoc,Nat.pow_succ]
    generalize 11 ^ k=p at i1 i2 hp ⊢
    exact ⟨by omega,by omega⟩
def kdF(w:List UInt8):Int:=if w=[111,110] then 1 else if w=[111,102,102] then 2 else if w=[62,61] then 3 else if w=[60,61] then 4 else 0
def plG(L:List UInt8):Option TDecision:=
 match pcw L with
 | w0::w1::ws=>if w0.length<2∨6<w0.length then none else (match ws with
   | []=>some ⟨kdF w1,ixF (w0.drop 1),0⟩
   | w2::_=>(match dpF w2 with
     | none=>none
     | some q=>some ⟨kdF w1,ixF (w0.drop 1),q⟩))
 | _=>none
section
variable {n : Nat} {L : List UInt8}
theorem oneB_b(c:UInt8):oneB (c.toNat:Int)=bs [c]:=by
 unfold oneB bs
 rw [Int.toNat_natCast,UInt8.ofNat_toNat]
theorem fwords(hL:L.length≤200):∃(ws:List (List UInt8)) (w:List UInt8),pcw L=ws++[w]∧ws.length≤L.length∧
  loopG Tryz.prog (tab (n+43)) 0 118 (livesOf 14) 4 fps4_C4 (fps4_h4 (bs L) [] (⟨#[]⟩:ByteArray) 0)=some (.exit 0,fps4_o4a (bs L) (ws.map bs) (bs w)):=by
 have hs:(bs L).size=L.length:=bs_size _
 obtain ⟨b,h1,hb,hw,hl,_⟩:=loopG_R (β:=List (List UInt8) × List UInt8) (O:=tab (n+43)) (P:= Tryz.prog) (m:=0) (N:=118) (lives:=livesOf 14) (r:=4) (C:=fps4_C4) (M:=L.length) (enc:=fun i b=>fps4_h4 (bs L) (b.1.map bs) (bs b.2) i) (exN:=.exit 0) (out:=fun b=>fps4_o4a (bs L) (b.1.map bs) (bs b.2))
  (fun i b=>pcw (L.take i)=b.1++[b.2]∧b.2.length≤i∧b.1.length≤i∧i≤L.length) ([],[]) ⟨rfl,by simp,by simp,by omega⟩ (by omega) (fun h=>by cases h)
  (fun i b hi hI=>by
   obtain ⟨ws,w⟩:=b
   obtain ⟨i1,i2,i3,_⟩:=hI
   dsimp only at i1 i2 i3 ⊢
   have hx:L[i]?=some L[i]:=List.getElem?_eq_getElem hi
   have ht:L.take (i+1)=L.take i++[L[i]]:=List.take_succ_eq_append_getElem hi
   generalize L[i]=x at hx ht
   have E2:(bs L)[i]?=some x:=by rw [bs_at];exact hx
   have h8:=x.toNat_lt
   have hm:(ws.map bs).length=ws.length:=List.length_map ..
   obtain ⟨s1,s2⟩:=pcw_snoc _ _ _ i1
   by_cases hc:x=32
   ·have R:=fps4_r4_1 (n:=n) (a0:=bs L) (out_4:=ws.map bs) (str_4:=bs w) (by omega) E2 (by rw [hc];rfl) (by rw [hm];omega) ⟨by omega,by omega⟩
    refine ⟨(ws++[w],[]),?_,by rw [ht,hc];exact s1,by simp,by simp;omega,by omega⟩
    have e:(ws.map bs)++[bs w]=(ws++[w]).map bs:=by rw [List.map_append];rfl
    rw [e] at R
    exact R
   ·have R:=fps4_r4_2 (n:=n) (a0:=bs L) (out_4:=ws.map bs) (str_4:=bs w) (by omega) E2 (fun h=>hc (UInt8.toNat_inj.1 (by show x.toNat=32;omega))) ⟨by omega,by omega⟩ (by rw [oneB_b,bs_size,bs_size,List.length_singleton];omega) (by rw [oneB_b,bs_app]) ⟨by omega,by omega⟩
    exact ⟨(ws,w++[x]),R,by rw [ht];exact s2 x hc,by simp;omega,by show ws.length≤_;omega,by omega⟩)
  (fun b hI=>fps4_x4_1 (by omega))
 rw [List.take_length] at hb
 exact ⟨b.1,b.2,hb,hl,h1⟩
theorem findex{W:List ByteArray}{w:List UInt8}(hg:0<W.length)(h0:W[0]?=some (bs w))(h2:2≤w.length)(h6:w.length≤6):
  loopG Tryz.prog (tab (n+43)) 0 118 (livesOf 14) 15 fps4_C15 (fps4_h15 (bs L) W 1 0)=some (.exit 2,fps4_o15a (bs L) W (ixF (w.drop 1))):=by
 have hs:(bs w).size=w.length:=bs_size _
 obtain ⟨b,h1,hb,_⟩:=loopG_R (β:=Int) (O:=tab (n+43)) (P:= Tryz.prog) (m:=0) (N:=118) (lives:=livesOf 14) (r:=15) (C:=fps4_C15) (M:=w.length-1) (enc:=fun i b=>fps4_h15 (bs L) W (i+1) b) (exN:=.exit 2) (out:=fun b=>fps4_o15a (bs L) W b)
  (fun i b=>b=ixF ((w.drop 1).take i)∧i≤w.length-1) 0 ⟨rfl,by omega⟩ (by omega) (fun h=>by cases h)
  (fun i b hi hI=>by
   obtain ⟨rfl,_⟩:=hI
   have hl:i<(w.drop 1).length:=by rw [List.length_drop];omega
   have hx:(w.drop 1)[i]?=some (w.drop 1)[i]:=List.getElem?_eq_getElem hl
   have ht:(w.drop 1).take (i+1)=(w.drop 1).take i++[(w.drop 1)[i]]:=List.take_succ_eq_append_getElem hl
   generalize (w.drop 1)[i]=x at hx ht
   have E6:(bs w)[i+1]?=some x:=by rw [bs_at,←hx,List.getElem?_drop];congr 1;omega
   obtain ⟨b1,b2⟩:=ixF_bd _ ((w.drop 1).take i) rfl
   have hle:11 ^ ((w.drop 1).take i).length≤11 ^ 6:=Nat.pow_le_pow_right (by decide) (by rw [List.length_take,List.length_drop];omega)
   have h11:(11:Nat) ^ 6=1771561:=by decide
   have h8:=x.toNat_lt
   have e:ixF ((w.drop 1).take (i+1))=((10*ixF ((w.drop 1).take i))+(x.toNat:Int))-48:=by rw [ht,ixF_snoc]
   refine ⟨_,?_,rfl,by omega⟩
   rw [e]
   exact fps4_r15_1 hg h0 (by omega) ⟨by omega,by omega⟩ E6 ⟨by omega,by omega⟩ ⟨by omega,by omega⟩ ⟨by omega,by omega⟩ ⟨by omega,by omega⟩)
  (fun b hI=>fps4_x15_1 hg h0 (by omega))
 rw [hb,List.take_of_length_le (by rw [List.length_drop];omega)] at h1
 exact h1
theorem finF{d:TDecision}(hH:H d.At≤1000):run (n+3+42) 12 [decisionV d]=some (.lit (.bool (tv (DVal d))))∧(DVal d→run (n+3+42) 10 [decisionV d]=some (.lit (.string (bs (dtxt d))))):=by
 have V:=fva4_c (n:=n+3+42) (d:=rwD d) (rawB_q (by show H d.At≤_;omega))
 rw [tvI (dvr_dval d)] at V
 exact ⟨V,fun h=>ftx4_c h hH (by omega)⟩
theorem fps_2(hL:L.length≤200){out W:List ByteArray}{str:ByteArray}(hWW:out++[str]=W){w0 w1:List UInt8}(L1:loopG Tryz.prog (tab (n+3+43)) 0 118 (livesOf 14) 4 fps4_C4 (fps4_h4 (bs L) [] (⟨#[]⟩:ByteArray) 0)=some (.exit 0,fps4_o4a (bs L) out str))(M2:W.length≤100000000)(C3:¬(W.length:Int)<2)(E5:W[0]?=some (bs w0))(C6:¬((bs w0).size:Int)<2)(C8:¬6<((bs w0).size:Int))(E11:W[1]?=some (bs w1))(C13:¬2<(W.length:Int)):run (n+3+43) 14 [.lit (.string (bs L))]=some (ppV (ppR (some ⟨kdF w1,ixF (w0.drop 1),0⟩) L)):=by
 have hs:(bs w0).size=w0.length:=bs_size _
 have L9:=findex (n:=n+3) (L:=L) (by omega) E5 (by omega) (by omega)
 by_cases n0:w1=[111,110]
 ·have c0:bs w1=(⟨#[111,110]⟩:ByteArray):=by rw [n0];rfl
  have kd:kdF w1=1:=by rw [n0];decide
  obtain ⟨V,X⟩:=finF (n:=n) (d:=⟨1,ixF (w0.drop 1),0⟩) (by show H 0≤_;have:=H0';omega)
  rw [dec0] at V X
  rw [kd]
  by_cases hd:DVal ⟨1,ixF (w0.drop 1),0⟩
  ·rw [tv_t hd] at V
   have XT:=X hd
   by_cases ht:dtxt ⟨1,ixF (w0.drop 1),0⟩=L
   ·have R:=fps4_f10 (n:=n+3) hWW L1 M2 C3 (by omega) E5 C6 C8 L9 (by omega) E11 c0 C13 V rfl XT (by rw [ht])
    rw [R,ppR_yes ⟨hd,ht⟩]
    simp [ppV]
   ·rw [ppR_no (fun h=>ht h.2)]
    exact fps4_f9 (n:=n+3) hWW L1 M2 C3 (by omega) E5 C6 C8 L9 (by omega) E11 c0 C13 V rfl XT (fun h=>ht (bs_inj h))
  ·rw [tv_f hd] at V
   rw [ppR_no (fun h=>hd h.1)]
   exact fps4_f8 (n:=n+3) hWW L1 M2 C3 (by omega) E5 C6 C8 L9 (by omega) E11 c0 C13 V rfl
 by_cases n1:w1=[111,102,102]
 ·have c1:bs w1=(⟨#[111,102,102]⟩:ByteArray):=by rw [n1];rfl
  have kd:kdF w1=2:=by rw [n1];decide
  obtain ⟨V,X⟩:=finF (n:=n) (d:=⟨2,ixF (w0.drop 1),0⟩) (by show H 0≤_;have:=H0';omega)
  rw [dec0] at V X
  rw [kd]
  by_cases hd:DVal ⟨2,ixF (w0.drop 1),0⟩
  ·rw [tv_t hd] at V
   have XT:=X hd
   by_cases ht:dtxt ⟨2,ixF (w0.drop 1),0⟩=L
   ·have R:=fps4_f17 (n:=n+3) hWW L1 M2 C3 (by omega) E5 C6 C8 L9 (by omega) E11 (fun h=>n0 (bs_inj (m:=[111,110]) h)) c1 C13 V rfl XT (by rw [ht])
    rw [R,ppR_yes ⟨hd,ht⟩]
    simp [ppV]
   ·rw [ppR_no (fun h=>ht h.2)]
    exact fps4_f16 (n:=n+3) hWW L1 M2 C3 (by omega) E5 C6 C8 L9 (by omega) E11 (fun h=>n0 (bs_inj (m:=[111,110]) h)) c1 C13 V rfl XT (fun h=>ht (bs_inj h))
  ·rw [tv_f hd] at V
   rw [ppR_no (fun h=>hd h.1)]
   exact fps4_f15 (n:=n+3) hWW L1 M2 C3 (by omega) E5 C6 C8 L9 (by omega) E11 (fun h=>n0 (bs_inj (m:=[111,110]) h)) c1 C13 V rfl
 by_cases n2:w1=[62,61]
 ·have c2:bs w1=(⟨#[62,61]⟩:ByteArray):=by rw [n2];rfl
  have kd:kdF w1=3:=by rw [n2];decide
  obtain ⟨V,X⟩:=finF (n:=n) (d:=⟨3,ixF (w0.drop 1),0⟩) (by show H 0≤_;have:=H0';omega)
  rw [dec0] at V X
  rw [kd]
  by_cases hd:DVal ⟨3,ixF (w0.drop 1),0⟩
  ·rw [tv_t hd] at V
   have XT:=X hd
   by_cases ht:dtxt ⟨3,ixF (w0.drop 1),0⟩=L
   ·have R:=fps4_f24 (n:=n+3) hWW L1 M2 C3 (by omega) E5 C6 C8 L9 (by omega) E11 (fun h=>n0 (bs_inj (m:=[111,110]) h)) (fun h=>n1 (bs_inj (m:=[111,102,102]) h)) c2 C13 V rfl XT (by rw [ht])
    rw [R,ppR_yes ⟨hd,ht⟩]
    simp [ppV]
   ·rw [ppR_no (fun h=>ht h.2)]
    exact fps4_f23 (n:=n+3) hWW L1 M2 C3 (by omega) E5 C6 C8 L9 (by omega) E11 (fun h=>n0 (bs_inj (m:=[111,110]) h)) (fun h=>n1 (bs_inj (m:=[111,102,102]) h)) c2 C13 V rfl XT (fun h=>ht (bs_inj h))
  ·rw [tv_f hd] at V
   rw [ppR_no (fun h=>hd h.1)]
   exact fps4_f22 (n:=n+3) hWW L1 M2 C3 (by omega) E5 C6 C8 L9 (by omega) E11 (fun h=>n0 (bs_inj (m:=[111,110]) h)) (fun h=>n1 (bs_inj (m:=[111,102,102]) h)) c2 C13 V rfl
 by_cases n3:w1=[60,61]
 ·have c3:bs w1=(⟨#[60,61]⟩:ByteArray):=by rw [n3];rfl
  have kd:kdF w1=4:=by rw [n3];decide
  obtain ⟨V,X⟩:=finF (n:=n) (d:=⟨4,ixF (w0.drop 1),0⟩) (by show H 0≤_;have:=H0';omega)
  rw [dec0] at V X
  rw [kd]
  by_cases hd:DVal ⟨4,ixF (w0.drop 1),0⟩
  ·rw [tv_t hd] at V
   have XT:=X hd
   by_cases ht:dtxt ⟨4,ixF (w0.drop 1),0⟩=L
   ·have R:=fps4_f31 (n:=n+3) hWW L1 M2 C3 (by omega) E5 C6 C8 L9 (by omega) E11 (fun h=>n0 (bs_inj (m:=[111,110]) h)) (fun h=>n1 (bs_inj (m:=[111,102,102]) h)) (fun h=>n2 (bs_inj (m:=[62,61]) h)) c3 C13 V rfl XT (by rw [ht])
    rw [R,ppR_yes ⟨hd,ht⟩]
    simp [ppV]
   ·rw [ppR_no (fun h=>ht h.2)]
    exact fps4_f30 (n:=n+3) hWW L1 M2 C3 (by omega) E5 C6 C8 L9 (by omega) E11 (fun h=>n0 (bs_inj (m:=[111,110]) h)) (fun h=>n1 (bs_inj (m:=[111,102,102]) h)) (fun h=>n2 (bs_inj (m:=[62,61]) h)) c3 C13 V rfl XT (fun h=>ht (bs_inj h))
  ·rw [tv_f hd] at V
   rw [ppR_no (fun h=>hd h.1)]
   exact fps4_f29 (n:=n+3) hWW L1 M2 C3 (by omega) E5 C6 C8 L9 (by omega) E11 (fun h=>n0 (bs_inj (m:=[111,110]) h)) (fun h=>n1 (bs_inj (m:=[111,102,102]) h)) (fun h=>n2 (bs_inj (m:=[62,61]) h)) c3 C13 V rfl
 ·have kd:kdF w1=0:=by unfold kdF;rw [if_neg n0,if_neg n1,if_neg n2,if_neg n3]
  obtain ⟨V,X⟩:=finF (n:=n) (d:=⟨0,ixF (w0.drop 1),0⟩) (by show H 0≤_;have:=H0';omega)
  rw [dec0] at V X
  rw [kd]
  by_cases hd:DVal ⟨0,ixF (w0.drop 1),0⟩
  ·rw [tv_t hd] at V
   have XT:=X hd
   by_cases ht:dtxt ⟨0,ixF (w0.drop 1),0⟩=L
   ·have R:=fps4_f38 (n:=n+3) hWW L1 M2 C3 (by omega) E5 C6 C8 L9 (by omega) E11 (fun h=>n0 (bs_inj (m:=[111,110]) h)) (fun h=>n1 (bs_inj (m:=[111,102,102]) h)) (fun h=>n2 (bs_inj (m:=[62,61]) h)) (fun h=>n3 (bs_inj (m:=[60,61]) h)) C13 V rfl XT (by rw [ht])
    rw [R,ppR_yes ⟨hd,ht⟩]
    simp [ppV]
   ·rw [ppR_no (fun h=>ht h.2)]
    exact fps4_f37 (n:=n+3) hWW L1 M2 C3 (by omega) E5 C6 C8 L9 (by omega) E11 (fun h=>n0 (bs_inj (m:=[111,110]) h)) (fun h=>n1 (bs_inj (m:=[111,102,102]) h)) (fun h=>n2 (bs_inj (m:=[62,61]) h)) (fun h=>n3 (bs_inj (m:=[60,61]) h)) C13 V rfl XT (fun h=>ht (bs_inj h))
  ·rw [tv_f hd] at V
   rw [ppR_no (fun h=>hd h.1)]
   exact fps4_f36 (n:=n+3) hWW L1 M2 C3 (by omega) E5 C6 C8 L9 (by omega) E11 (fun h=>n0 (bs_inj (m:=[111,110]) h)) (fun h=>n1 (bs_inj (m:=[111,102,102]) h)) (fun h=>n2 (bs_inj (m:=[62,61]) h)) (fun h=>n3 (bs_inj (m:=[60,61]) h)) C13 V rfl
theorem fps_3(hL:L.length≤200){out W:List ByteArray}{str:ByteArray}(hWW:out++[str]=W){w0 w1:List UInt8}(L1:loopG Tryz.prog (tab (n+3+43)) 0 118 (livesOf 14) 4 fps4_C4 (fps4_h4 (bs L) [] (⟨#[]⟩:ByteArray) 0)=some (.exit 0,fps4_o4a (bs L) out str))(M2:W.length≤100000000)(C3:¬(W.length:Int)<2)(E5:W[0]?=some (bs w0))(C6:¬((bs w0).size:Int)<2)(C8:¬6<((bs w0).size:Int))(E11:W[1]?=some (bs w1)){w2:List UInt8}(hw2:w2.length≤200)(C13:2<(W.length:Int))(E15:W[2]?=some (bs w2)):run (n+3+43) 14 [.lit (.string (bs L))]=some (ppV (ppR (match dpF w2 with|none=>none|some q=>some ⟨kdF w1,ixF (w0.drop 1),q⟩) L)):=by
 have hs:(bs w0).size=w0.length:=bs_size _
 have L9:=findex (n:=n+3) (L:=L) (by omega) E5 (by omega) (by omega)
 obtain ⟨a,e,KP,he⟩:=fpar_c (n:=n+38) (L:=w2) (by omega)
 have hH:H ((dpF w2).getD 0)≤1000:=by
  cases hq:dpF w2 with
  | none=>show H 0≤_;have:=H0';omega
  | some q=>have:=dp_H hq;show H q≤_;omega
 by_cases n0:w1=[111,110]
 ·have c0:bs w1=(⟨#[111,110]⟩:ByteArray):=by rw [n0];rfl
  have kd:kdF w1=1:=by rw [n0];decide
  obtain ⟨V,X⟩:=finF (n:=n) (d:=⟨1,ixF (w0.drop 1),(dpF w2).getD 0⟩) hH
  cases hq:dpF w2 with
  | none=>
    rw [hq] at he
    exact fps4_f4 (n:=n+3) hWW L1 M2 C3 (by omega) E5 C6 C8 L9 (by omega) E11 c0 C13 (by omega) E15 KP (fun h=>by have:=he.1 h;cases this)
  | some q=>
    rw [hq] at he KP V X
    rw [Option.getD_some] at KP V X
    have e0:e=0:=he.2 rfl
    dsimp only
    rw [kd]
    by_cases hd:DVal ⟨1,ixF (w0.drop 1),q⟩
    ·rw [tv_t hd] at V
     have XT:=X hd
     by_cases ht:dtxt ⟨1,ixF (w0.drop 1),q⟩=L
     ·rw [ppR_yes ⟨hd,ht⟩]
      exact fps4_f7 (n:=n+3) hWW L1 M2 C3 (by omega) E5 C6 C8 L9 (by omega) E11 c0 C13 (by omega) E15 KP e0 V rfl XT (by rw [ht])
     ·rw [ppR_no (fun h=>ht h.2)]
      exact fps4_f6 (n:=n+3) hWW L1 M2 C3 (by omega) E5 C6 C8 L9 (by omega) E11 c0 C13 (by omega) E15 KP e0 V rfl XT (fun h=>ht (bs_inj h))
    ·rw [tv_f hd] at V
     rw [ppR_no (fun h=>hd h.1)]
     exact fps4_f5 (n:=n+3) hWW L1 M2 C3 (by omega) E5 C6 C8 L9 (by omega) E11 c0 C13 (by omega) E15 KP e0 V rfl
 by_cases n1:w1=[111,102,102]
 ·have c1:bs w1=(⟨#[111,102,102]⟩:ByteArray):=by rw [n1];rfl
  have kd:kdF w1=2:=by rw [n1];decide
  obtain ⟨V,X⟩:=finF (n:=n) (d:=⟨2,ixF (w0.drop 1),(dpF w2).getD 0⟩) hH
  cases hq:dpF w2 with
  | none=>
    rw [hq] at he
    exact fps4_f11 (n:=n+3) hWW L1 M2 C3 (by omega) E5 C6 C8 L9 (by omega) E11 (fun h=>n0 (bs_inj (m:=[111,110]) h)) c1 C13 (by omega) E15 KP (fun h=>by have:=he.1 h;cases this)
  | some q=>
    rw [hq] at he KP V X
    rw [Option.getD_some] at KP V X
    have e0:e=0:=he.2 rfl
    dsimp only
    rw [kd]
    by_cases hd:DVal ⟨2,ixF (w0.drop 1),q⟩
    ·rw [tv_t hd] at V
     have XT:=X hd
     by_cases ht:dtxt ⟨2,ixF (w0.drop 1),q⟩=L
     ·rw [ppR_yes ⟨hd,ht⟩]
      exact fps4_f14 (n:=n+3) hWW L1 M2 C3 (by omega) E5 C6 C8 L9 (by omega) E11 (fun h=>n0 (bs_inj (m:=[111,110]) h)) c1 C13 (by omega) E15 KP e0 V rfl XT (by rw [ht])
     ·rw [ppR_no (fun h=>ht h.2)]
      exact fps4_f13 (n:=n+3) hWW L1 M2 C3 (by omega) E5 C6 C8 L9 (by omega) E11 (fun h=>n0 (bs_inj (m:=[111,110]) h)) c1 C13 (by omega) E15 KP e0 V rfl XT (fun h=>ht (bs_inj h))
    ·rw [tv_f hd] at V
     rw [ppR_no (fun h=>hd h.1)]
     exact fps4_f12 (n:=n+3) hWW L1 M2 C3 (by omega) E5 C6 C8 L9 (by omega) E11 (fun h=>n0 (bs_inj (m:=[111,110]) h)) c1 C13 (by omega) E15 KP e0 V rfl
 by_cases n2:w1=[62,61]
 ·have c2:bs w1=(⟨#[62,61]⟩:ByteArray):=by rw [n2];rfl
  have kd:kdF w1=3:=by rw [n2];decide
  obtain ⟨V,X⟩:=finF (n:=n) (d:=⟨3,ixF (w0.drop 1),(dpF w2).getD 0⟩) hH
  cases hq:dpF w2 with
  | none=>
    rw [hq] at he
    exact fps4_f18 (n:=n+3) hWW L1 M2 C3 (by omega) E5 C6 C8 L9 (by omega) E11 (fun h=>n0 (bs_inj (m:=[111,110]) h)) (fun h=>n1 (bs_inj (m:=[111,102,102]) h)) c2 C13 (by omega) E15 KP (fun h=>by have:=he.1 h;cases this)
  | some q=>
    rw [hq] at he KP V X
    rw [Option.getD_some] at KP V X
    have e0:e=0:=he.2 rfl
    dsimp only
    rw [kd]
    by_cases hd:DVal ⟨3,ixF (w0.drop 1),q⟩
    ·rw [tv_t hd] at V
     have XT:=X hd
     by_cases ht:dtxt ⟨3,ixF (w0.drop 1),q⟩=L
     ·rw [ppR_yes ⟨hd,ht⟩]
      exact fps4_f21 (n:=n+3) hWW L1 M2 C3 (by omega) E5 C6 C8 L9 (by omega) E11 (fun h=>n0 (bs_inj (m:=[111,110]) h)) (fun h=>n1 (bs_inj (m:=[111,102,102]) h)) c2 C13 (by omega) E15 KP e0 V rfl XT (by rw [ht])
     ·rw [ppR_no (fun h=>ht h.2)]
      exact fps4_f20 (n:=n+3) hWW L1 M2 C3 (by omega) E5 C6 C8 L9 (by omega) E11 (fun h=>n0 (bs_inj (m:=[111,110]) h)) (fun h=>n1 (bs_inj (m:=[111,102,102]) h)) c2 C13 (by omega) E15 KP e0 V rfl XT (fun h=>ht (bs_inj h))
    ·rw [tv_f hd] at V
     rw [ppR_no (fun h=>hd h.1)]
     exact fps4_f19 (n:=n+3) hWW L1 M2 C3 (by omega) E5 C6 C8 L9 (by omega) E11 (fun h=>n0 (bs_inj (m:=[111,110]) h)) (fun h=>n1 (bs_inj (m:=[111,102,102]) h)) c2 C13 (by omega) E15 KP e0 V rfl
 by_cases n3:w1=[60,61]
 ·have c3:bs w1=(⟨#[60,61]⟩:ByteArray):=by rw [n3];rfl
  have kd:kdF w1=4:=by rw [n3];decide
  obtain ⟨V,X⟩:=finF (n:=n) (d:=⟨4,ixF (w0.drop 1),(dpF w2).getD 0⟩) hH
  cases hq:dpF w2 with
  | none=>
    rw [hq] at he
    exact fps4_f25 (n:=n+3) hWW L1 M2 C3 (by omega) E5 C6 C8 L9 (by omega) E11 (fun h=>n0 (bs_inj (m:=[111,110]) h)) (fun h=>n1 (bs_inj (m:=[111,102,102]) h)) (fun h=>n2 (bs_inj (m:=[62,61]) h)) c3 C13 (by omega) E15 KP (fun h=>by have:=he.1 h;cases this)
  | some q=>
    rw [hq] at he KP V X
    rw [Option.getD_some] at KP V X
    have e0:e=0:=he.2 rfl
    dsimp only
    rw [kd]
    by_cases hd:DVal ⟨4,ixF (w0.drop 1),q⟩
    ·rw [tv_t hd] at V
     have XT:=X hd
     by_cases ht:dtxt ⟨4,ixF (w0.drop 1),q⟩=L
     ·rw [ppR_yes ⟨hd,ht⟩]
      exact fps4_f28 (n:=n+3) hWW L1 M2 C3 (by omega) E5 C6 C8 L9 (by omega) E11 (fun h=>n0 (bs_inj (m:=[111,110]) h)) (fun h=>n1 (bs_inj (m:=[111,102,102]) h)) (fun h=>n2 (bs_inj (m:=[62,61]) h)) c3 C13 (by omega) E15 KP e0 V rfl XT (by rw [ht])
     ·rw [ppR_no (fun h=>ht h.2)]
      exact fps4_f27 (n:=n+3) hWW L1 M2 C3 (by omega) E5 C6 C8 L9 (by omega) E11 (fun h=>n0 (bs_inj (m:=[111,110]) h)) (fun h=>n1 (bs_inj (m:=[111,102,102]) h)) (fun h=>n2 (bs_inj (m:=[62,61]) h)) c3 C13 (by omega) E15 KP e0 V rfl XT (fun h=>ht (bs_inj h))
    ·rw [tv_f hd] at V
     rw [ppR_no (fun h=>hd h.1)]
     exact fps4_f26 (n:=n+3) hWW L1 M2 C3 (by omega) E5 C6 C8 L9 (by omega) E11 (fun h=>n0 (bs_inj (m:=[111,110]) h)) (fun h=>n1 (bs_inj (m:=[111,102,102]) h)) (fun h=>n2 (bs_inj (m:=[62,61]) h)) c3 C13 (by omega) E15 KP e0 V rfl
 ·have kd:kdF w1=0:=by unfold kdF;rw [if_neg n0,if_neg n1,if_neg n2,if_neg n3]
  obtain ⟨V,X⟩:=finF (n:=n) (d:=⟨0,ixF (w0.drop 1),(dpF w2).getD 0⟩) hH
  cases hq:dpF w2 with
  | none=>
    rw [hq] at he
    exact fps4_f32 (n:=n+3) hWW L1 M2 C3 (by omega) E5 C6 C8 L9 (by omega) E11 (fun h=>n0 (bs_inj (m:=[111,110]) h)) (fun h=>n1 (bs_inj (m:=[111,102,102]) h)) (fun h=>n2 (bs_inj (m:=[62,61]) h)) (fun h=>n3 (bs_inj (m:=[60,61]) h)) C13 (by omega) E15 KP (fun h=>by have:=he.1 h;cases this)
  | some q=>
    rw [hq] at he KP V X
    rw [Option.getD_some] at KP V X
    have e0:e=0:=he.2 rfl
    dsimp only
    rw [kd]
    by_cases hd:DVal ⟨0,ixF (w0.drop 1),q⟩
    ·rw [tv_t hd] at V
     have XT:=X hd
     by_cases ht:dtxt ⟨0,ixF (w0.drop 1),q⟩=L
     ·rw [ppR_yes ⟨hd,ht⟩]
      exact fps4_f35 (n:=n+3) hWW L1 M2 C3 (by omega) E5 C6 C8 L9 (by omega) E11 (fun h=>n0 (bs_inj (m:=[111,110]) h)) (fun h=>n1 (bs_inj (m:=[111,102,102]) h)) (fun h=>n2 (bs_inj (m:=[62,61]) h)) (fun h=>n3 (bs_inj (m:=[60,61]) h)) C13 (by omega) E15 KP e0 V rfl XT (by rw [ht])
     ·rw [ppR_no (fun h=>ht h.2)]
      exact fps4_f34 (n:=n+3) hWW L1 M2 C3 (by omega) E5 C6 C8 L9 (by omega) E11 (fun h=>n0 (bs_inj (m:=[111,110]) h)) (fun h=>n1 (bs_inj (m:=[111,102,102]) h)) (fun h=>n2 (bs_inj (m:=[62,61]) h)) (fun h=>n3 (bs_inj (m:=[60,61]) h)) C13 (by omega) E15 KP e0 V rfl XT (fun h=>ht (bs_inj h))
    ·rw [tv_f hd] at V
     rw [ppR_no (fun h=>hd h.1)]
     exact fps4_f33 (n:=n+3) hWW L1 M2 C3 (by omega) E5 C6 C8 L9 (by omega) E11 (fun h=>n0 (bs_inj (m:=[111,110]) h)) (fun h=>n1 (bs_inj (m:=[111,102,102]) h)) (fun h=>n2 (bs_inj (m:=[62,61]) h)) (fun h=>n3 (bs_inj (m:=[60,61]) h)) C13 (by omega) E15 KP e0 V rfl
theorem fps_c(hL:L.length≤200):run (n+3+43) 14 [.lit (.string (bs L))]=some (ppV (ppR (plG L) L)):=by
 obtain ⟨ws,w,hp,hl,L1⟩:=fwords (n:=n+3) hL
 have hlen:=pcw_len L
 have hWW:ws.map bs++[bs w]=(pcw L).map bs:=by rw [hp,List.map_append];rfl
 have hcl:(pcw L).length=ws.length+1:=by rw [hp];simp
 unfold plG
 match hW:pcw L with
 | []=>rw [hW] at hcl;simp at hcl
 | [w0]=>
   rw [hW] at hWW
   have R:=fps4_f1 (n:=n+3) hWW L1 (show 1≤100000000 by omega) (show (1:Int)<2 by omega)
   rw [R];rfl
 | w0::w1::wr=>
   rw [hW] at hWW hcl hlen
   simp only [List.length_cons] at hcl
   have hl0:((w0::w1::wr).map bs).length=wr.length+2:=by rw [List.length_map];rfl
   have E5:((w0::w1::wr).map bs)[0]?=some (bs w0):=rfl
   have E11:((w0::w1::wr).map bs)[1]?=some (bs w1):=rfl
   have hs:(bs w0).size=w0.length:=bs_size _
   have M2:((w0::w1::wr).map bs).length≤100000000:=by omega
   have C3:¬(((w0::w1::wr).map bs).length:Int)<2:=by omega
   dsimp only
   by_cases h2:w0.length<2
   ·rw [if_pos (.inl h2)]
    exact fps4_f2 (n:=n+3) hWW L1 M2 C3 (by omega) E5 (by omega)
   by_cases h6:6<w0.length
   ·rw [if_pos (.inr h6)]
    exact fps4_f3 (n:=n+3) hWW L1 M2 C3 (by omega) E5 (by omega) (by omega)
   rw [if_neg (fun h=>by rcases h with h|h;exact h2 h;exact h6 h)]
   match wr,hl0,E5,E11,M2,C3,hWW,hlen with
   | [],hl0,E5,E11,M2,C3,hWW,hlen=>exact fps_2 hL hWW L1 M2 C3 E5 (by omega) (by omega) E11 (show ¬(2:Int)<2 by omega)
   | w2::wt,hl0,E5,E11,M2,C3,hWW,hlen=>exact fps_3 hL hWW L1 M2 C3 E5 (by omega) (by omega) E11 (w2:=w2) (by have:=hlen w2 (by simp);omega) (by rw [List.length_cons] at hl0;omega) rfl
end
theorem ixF_dg:∀(D:List UInt8),(∀c∈D,isD c=true)→ixF D=(dgV D 0:Nat):=fun D hD=>by
 have key:∀(D:List UInt8) (k:Nat),(∀c∈D,isD c=true)→D.foldl (fun z c=>10*z+(c.toNat:Int)-48) (k:Int)=((dgV D k:Nat):Int):=fun D=>by
  induction D with
  | nil=>intro k _;rfl
  | cons c D ih=>
    intro k h
    have hd:=(isD_num c).1 (h c List.mem_cons_self)
    have e:10*(k:Int)+(c.toNat:Int)-48=((k*10+(c.toNat-48):Nat):Int):=by omega
    rw [List.foldl_cons,e]
    exact ih _ fun x hx=>h x (List.mem_cons_of_mem _ hx)
 exact key D 0 hD
theorem plG_d(d:TDecision)(hd:DVal d):plG (dtxt d)=some d:=by
 have hi:d.Index<1024:=by rcases hd.k with ⟨_,b,_⟩|⟨_,b⟩ <;>omega
 obtain ⟨d1,d2,_⟩:=dd_d d.Index.toNat d.Index.toNat (Nat.le_refl _)
 have ha:ixF (decDigits d.Index.toNat)=d.Index:=by
  rw [ixF_dg _ d1,d2]
  have:=hd.i
  omega
 have hp:1≤(decDigits d.Index.toNat).length:=dd_pos _
 have hq:=ix_len hd.i hi
 unfold plG
 rw [pcw_dtxt]
 unfold dwords
 obtain ⟨K,I,q⟩:=d
 dsimp only at ha hp hi hq ⊢
 have kk:K=1∧q=0∨K=2∧q=0∨K=3∨K=4:=by
  rcases hd.k with ⟨a,_,c⟩|⟨a,_⟩
  ·dsimp only at a c
   rcases a with rfl|rfl
   ·exact .inl ⟨rfl,c⟩
   ·exact .inr (.inl ⟨rfl,c⟩)
  ·dsimp only at a
   rcases a with rfl|rfl
   ·exact .inr (.inr (.inl rfl))
   ·exact .inr (.inr (.inr rfl))
 rcases kk with ⟨rfl,rfl⟩|⟨rfl,rfl⟩|rfl|rfl
 ·rw [if_pos rfl];dsimp only
  rw [if_neg (by rw [List.length_cons];omega),List.drop_succ_cons,List.drop_zero,ha]
  rfl
 ·rw [if_neg (by decide),if_pos rfl];dsimp only
  rw [if_neg (by rw [List.length_cons];omega),List.drop_succ_cons,List.drop_zero,ha]
  rfl
 ·rw [if_neg (by decide),if_neg (by decide),if_pos rfl];dsimp only
  rw [if_neg (by rw [List.length_cons];omega),List.drop_succ_cons,List.drop_zero,ha,dp_rtx]
  rfl
 ·rw [if_neg (by decide),if_neg (by decide),if_neg (by decide)];dsimp only
  rw [if_neg (by rw [List.length_cons];omega),List.drop_succ_cons,List.drop_zero,ha,dp_rtx]
  rfl
end
section
open Go.RowKit
def awG(args:List AV):Option AV:=match args with|[]=>some (.lit (.bool true))|_=>none
theorem con_awake:∀args r,awG args=some r→Con Tryz.prog 7 args r:=fun args r hr=>by
 unfold awG at hr
 split at hr
 ·cases hr
  intro w ok vs hg hv
  have hG:=(hg.1 0 _ rfl).1
  have hcell:w.cell? ⟨0,3,none⟩=some (.int .i64 4):=by
   cases hG with
   | mem hm hh=>
     have h1:=(hm 3 _ rfl).2
     have h2:=hh 3 _ rfl
     obtain ⟨u,hu⟩:=Option.isSome_iff_exists.1 h1
     rw [Nat.zero_add] at hu h2
     rw [hu] at h2
     cases h2
     exact hu
  have e:vs=#[]:=by
   have:=hv.1
   simpa using this
  subst e
  refine (awake_c w hcell (Nat.lt_of_le_of_lt (Nat.zero_le _) (cell_lt hcell))).mono ?_
  rintro e w' ⟨rfl,hb⟩
  exact ⟨_,rfl,.lit _,hb⟩
 ·cases hr
end
section
open Go.RowKit
noncomputable def ptlT(n:Nat):FuncId→Option Orc:=ext (tab (n+43)) 7 (.pure awG)
noncomputable def ptl(n:Nat)(args:List AV):Option AV:=fnP Tryz.prog (ptlT n) (livesOf 3) big (fnOf 3) args
noncomputable def pplT(n:Nat):FuncId→Option Orc:=ext (tab (n+44)) 7 (.pure awG)
theorem pplT_ok(n:Nat):OrcOk Tryz.prog (pplT n):=(tab_ok (n+44)).extP (by kernel_rfl) con_awake
noncomputable def ppl(n:Nat)(args:List AV):Option AV:=fnP Tryz.prog (pplT n) (livesOf 4) big (fnOf 4) args
theorem ppl_con{n:Nat}{args:List AV}{r:AV}(h:ppl n args=some r):Con Tryz.prog 4 args r:=
 con_of (pplT_ok n) mixed (plain_fn (by kernel_rfl)) (body_some (by kernel_rfl) (plain_fn (by kernel_rfl))) h
theorem ppl_aw(n:Nat):pplT n 7=some (.pure awG):=by unfold pplT ext;rw [if_pos rfl]
theorem ppl_l11(n:Nat):pplT n 11=some (.pure (run (n+43) 11)):=by unfold pplT ext;rw [if_neg (by decide)];exact tb_11 _
theorem ppl_l13(n:Nat):pplT n 13=some (.pure (run (n+43) 13)):=by unfold pplT ext;rw [if_neg (by decide)];exact tb_13 _
theorem ppl_l14(n:Nat):pplT n 14=some (.pure (run (n+43) 14)):=by unfold pplT ext;rw [if_neg (by decide)];exact tb_14 _
section
variable {n : Nat} {a0 : ByteArray} {r : TDecision} {r4 : Int} {r2 : Int} {r3 : TDecision} {r5 : Bool}
theorem ppl_f1(C1:200<(a0.size:Int)):
  ppl n [.lit (.string a0)]=some (.lit (.bool true)):=by
 have C1_:200<a0.size:=by omega
 unfold ppl fnP
 simp+decide [Tryz.f4,C1,C1_,ppl_aw,awG,ppl_l11,ppl_l13,ppl_l14]
theorem ppl_f2(C1:¬200<(a0.size:Int))(K2:run (n+43) 11 [.lit (.string a0)]=some (.tup [decisionV r,.lit (.int .i64 r2)]))(K3:run (n+43) 14 [.lit (.string a0)]=some (.tup [decisionV r3,.lit (.int .i64 r4)]))(C4:r2=r4)(K5:run (n+43) 13 [decisionV r,decisionV r3]=some (.lit (.bool r5))):
  ppl n [.lit (.string a0)]=some (.lit (.bool r5)):=by
 have C1_:¬200<a0.size:=by omega
 simp only [decisionV] at K2
 simp only [decisionV] at K3
 have C4_:(r2==r4)=true:=by rw [C4];simp
 have C4_n:(r2 !=r4)=false:=by rw [C4];simp
 simp only [decisionV] at K5
 unfold ppl fnP
 simp+decide [Tryz.f4,C1,C1_,K2,K3,C4_,C4_n,K5,ppl_aw,awG,ppl_l11,ppl_l13,ppl_l14]
end
end
section
open Go.RowKit
open Lib (decDigits)
attribute [local irreducible] run runL loopG exec ptl ppl
theorem same_dd{n:Nat}{d:TDecision}(h:H d.At≤1000):run n 13 [decisionV d,decisionV d]=some (.lit (.bool true)):=by
 have R:=fsm4_f1 (n:=n) (a0:=rwD d) (a1:=d) rfl rfl (rawB_q (by show H d.At≤_;omega)) (by omega)
 have e:decide ((rwD d).At=rawQ d.At)=true:=decide_eq_true rfl
 rw [e] at R
 exact R
end
section
open Go.RowKit
open Lib (decDigits)
attribute [local irreducible] run runL loopG exec ptl ppl
theorem pp_law(L:List UInt8):Con Tryz.prog 4 [.lit (.string (bs L))] (.lit (.bool true)):=by
 by_cases h:200<L.length
 ·exact ppl_con (n:=3) (ppl_f1 (by rw [bs_size];omega))
 have h':¬200<((bs L).size:Int):=by rw [bs_size];omega
 have K2:=pps_c (n:=37) (L:=L) (by omega)
 have K3:=fps_c (n:=0) (L:=L) (by omega)
 rw [←ppR_same plP_d plG_d L] at K3
 cases hp:ppR (plP L) L with
 | none=>
   rw [hp] at K2 K3
   have e0:ppV none=.tup [decisionV ⟨0,0,0⟩,.lit (.int .i64 4)]:=by rw [dec0];rfl
   rw [e0] at K2 K3
   exact ppl_con (n:=3) (ppl_f2 h' K2 K3 rfl (same_dd (by show H 0≤_;have:=H0';omega)))
 | some d=>
   rw [hp] at K2 K3
   have hH:H d.At≤1000:=by
    unfold ppR at hp
    cases hq:plP L with
    | none=>rw [hq] at hp;cases hp
    | some d'=>
      rw [hq] at hp
      dsimp only at hp
      split at hp
      ·cases hp
       unfold plP at hq
       have hlen:=pcw_len L
       split at hq
       ·cases hq
       ·rename_i w0 ws hW
        rw [hW] at hlen
        split at hq
        ·cases hq
        ·split at hq
         ·split at hq
          ·cases hq;show H 0≤_;have:=H0';omega
          ·rename_i w1 w2
           have hw:=hlen w2 (by simp)
           cases hz:dpF w2 with
           | none=>rw [hz] at hq;cases hq
           | some q=>
             rw [hz] at hq
             cases hq
             have:=dp_H hz
             show H q≤_
             omega
          ·cases hq;show H 0≤_;have:=H0';omega
         ·cases hq
      ·cases hp
   exact ppl_con (n:=3) (ppl_f2 h' K2 K3 rfl (same_dd hH))
end
end Go.Proofs.YtnegdhjdienjlaaGreatDoor
