import Derived.Test.YtnegdhjdienjlaaGreatDoorGB16
import Derived.Test.YtnegdhjdienjlaaGreatDoorGB17
import Derived.Test.YtnegdhjdienjlaaGreatDoorGB26
import Derived.Test.YtnegdhjdienjlaaGreatDoorGB19
import Derived.Test.YtnegdhjdienjlaaGreatDoorGB20
set_option linter.all false
set_option maxHeartbeats 6400000
set_option maxRecDepth 100000
namespace Go.Proofs.YtnegdhjdienjlaaGreatDoor
section
open Go.RowKit
end
section
open Go.RowKit
end
section
open Go.RowKit
attribute [local irreducible] run runL loopG exec
def OkKC(c:TClaim)(z:Int):Prop:=(c.Kind=1∧0≤c.Target∧c.Target<z∧c.Rows=[])∨(c.Kind=2∧c.Target=0∧1≤c.Rows.length∧c.Rows.length≤256∧∀f∈c.Rows,OkFm f z)
structure OkCl (c:TClaim) (z:Int):Prop where
 z0:1≤z
 z1:z≤256
 m0:¬sgR c.Margin<0
 k:OkKC c z
section
variable {n : Nat} {c : TClaim} {z : Int}
end
end
section
open Go.RowKit Go.Lib
attribute [local irreducible] run runL loopG exec
def wM:List UInt8:=[109,97,114,103,105,110]
theorem last_room{L:List UInt8}(h:0≤lastIndex L wM):lastIndex L wM+6≤L.length:=by
 unfold lastIndex at h ⊢
 have e:wM.length=6:=rfl
 rw [e] at h ⊢
 split
 ·rename_i h1
  rw [if_pos h1] at h
  rcases lastOcc_spec L wM (L.length-6+1) with ⟨h2,_⟩|⟨i,h2,h3,_⟩
  ·omega
  ·omega
 ·rename_i h1
  rw [if_neg h1] at h
  omega
theorem last_c{L:List UInt8}(hL:L.length≤100000):oLastIndex [.lit (.string (bs L)),.lit (.string (⟨#[109,97,114,103,105,110]⟩:ByteArray))]=some (.lit (.int .i64 (lastIndex L wM))):=by
 unfold oLastIndex
 dsimp only
 rw [if_pos (by rw [bs_size];omega),bs_data]
 rfl
def hdF(B:List UInt8):Except Nat (Int × Int × List Form):=
 if hasPrefix (trL B) topW=true then match tgP ((trL B).drop 3) with
  | some v=>.ok (1,(v:Int),[])
  | none=>.error 0
 else match rwsF 0 [] (pcs B) with
  | .ok fs=>.ok (2,0,fs)
  | .error e=>.error e
open Classical in
noncomputable def prG(r:Int)(B R:List UInt8):Except (Int × Int) TClaim:=
 match hdF B with
 | .error e=>.error ((e:Int),4)
 | .ok (k,t,fs)=>if (fmF R).2=false∨(121:UInt8)∈R then .error (r+6,4) else if OkCl ⟨k,t,(fmF R).1.2,fs⟩ 256 then .ok ⟨k,t,(fmF R).1.2,fs⟩ else .error (0,1)
noncomputable def prF(L:List UInt8):Except (Int × Int) TClaim:=
 if 0≤lastIndex L wM then prG (lastIndex L wM) (L.take (lastIndex L wM).toNat) (L.drop ((lastIndex L wM).toNat+6)) else prG (lastIndex L wM) L [48]
def prR:Except (Int × Int) TClaim→AV
 | .ok c=>.tup [claimV c,.lit (.int .i64 0),.lit (.int .i64 0)]
 | .error (a,e)=>.tup [.agg [.lit (.int .i64 0),.lit (.int .i64 0),.lit (.bool false),.sl 1 [],.sl 1 [],.sl 4 []],.lit (.int .i64 a),.lit (.int .i64 e)]
section
variable {r : Int} {B R : List UInt8} {e : Nat} {k t : Int} {fs : List Form}
theorem prG_1(h:hdF B=.error e):prG r B R=.error ((e:Int),4):=by unfold prG;rw [h]
theorem prG_2(h:hdF B=.ok (k,t,fs))(f:(fmF R).2=false∨(121:UInt8)∈R):prG r B R=.error (r+6,4):=by unfold prG;rw [h];exact if_pos f
theorem prG_3(h:hdF B=.ok (k,t,fs))(f1:(fmF R).2=true)(f2:¬(121:UInt8)∈R)(v:¬OkCl ⟨k,t,(fmF R).1.2,fs⟩ 256):prG r B R=.error (0,1):=by
 unfold prG;rw [h];dsimp only;rw [if_neg (fun h=>by rcases h with h|h;rw [f1] at h;cases h;exact f2 h),if_neg v]
theorem prG_4(h:hdF B=.ok (k,t,fs))(f1:(fmF R).2=true)(f2:¬(121:UInt8)∈R)(v:OkCl ⟨k,t,(fmF R).1.2,fs⟩ 256):prG r B R=.ok ⟨k,t,(fmF R).1.2,fs⟩:=by
 unfold prG;rw [h];dsimp only;rw [if_neg (fun h=>by rcases h with h|h;rw [f1] at h;cases h;exact f2 h),if_pos v]
end
structure PrOk (B R:List UInt8):Prop where
 b:B.length≤100000
 p:∀p∈pcs B,GoodP p
 r:R.length≤900
 k:H (fmF R).1.2≤8300
 v:∀(n:Nat) (k t:Int) (fs:List Form),hdF B=.ok (k,t,fs)→run (n+4) 44 [claimV ⟨k,t,(fmF R).1.2,fs⟩,.lit (.int .i64 256)]=some (.lit (.bool (tv (OkCl ⟨k,t,(fmF R).1.2,fs⟩ 256))))
def bodyF(L:List UInt8):List UInt8:=if 0≤lastIndex L wM then L.take (lastIndex L wM).toNat else L
def restF(L:List UInt8):List UInt8:=if 0≤lastIndex L wM then L.drop ((lastIndex L wM).toNat+6) else [48]
section
variable {n : Nat} {L : List UInt8}
theorem cparse_g(hL:L.length≤100000)(hP:PrOk (bodyF L) (restF L)):run (n+14) 21 [.lit (.string (bs L))]=some (prR (prF L)):=by
 have K1:=last_c (L:=L) (by omega)
 unfold prF
 unfold bodyF restF at hP
 by_cases hr:0≤lastIndex L wM
 ·rw [if_pos hr,if_pos hr] at hP
  rw [if_pos hr]
  have room:=last_room hr
  have hs:(bs L).size=L.length:=bs_size _
  have U3:0≤0∧0≤lastIndex L wM∧lastIndex L wM≤((bs L).size:Int):=⟨by omega,by omega,by omega⟩
  have D3:bs (L.take (lastIndex L wM).toNat)=(bs L).extract 0 (lastIndex L wM).toNat:=(bs_to L _).symm
  have W4:InI (lastIndex L wM+6):=⟨by omega,by omega⟩
  have U5:0≤lastIndex L wM+6∧lastIndex L wM+6≤((bs L).size:Int)∧((bs L).size:Int)≤((bs L).size:Int):=⟨by omega,by omega,by omega⟩
  have e6:(lastIndex L wM+6).toNat=(lastIndex L wM).toNat+6:=by omega
  have D5:bs (L.drop ((lastIndex L wM).toNat+6))=(bs L).extract (lastIndex L wM+6).toNat (bs L).size:=by rw [e6];exact (bs_from L _).symm
  generalize L.take (lastIndex L wM).toNat=B at D3 hP ⊢
  generalize L.drop ((lastIndex L wM).toNat+6)=R at D5 hP ⊢
  have hB:=hP.b
  have hR:=hP.r
  have K6:=trimLeft_c (L:=B) (by omega)
  have K7:oHasPrefix [.lit (.string (bs (trL B))),.lit (.string (⟨#[116,111,112]⟩:ByteArray))]=some (.lit (.bool (hasPrefix (trL B) topW))):=pre_c (t:=topW)
  have K11:=form_c (n:=n+1) (L:=R) (by omega)
  have K13:=contains_c (c:=121) (L:=R) (by omega)
  cases hp:hasPrefix (trL B) topW with
  | true=>
    have K9:=target_c (n:=n+4) (L:=B) (by omega) hp
    cases ht:tgP ((trL B).drop 3) with
    | none=>
      have hd:hdF B=.error 0:=by unfold hdF;rw [if_pos hp,ht]
      rw [ht] at K9
      rw [prG_1 hd]
      exact cpa_f1 K1 hr U3 D3 W4 U5 D5 K6 K7 hp K9 rfl
    | some v=>
      have hd:hdF B=.ok (1,(v:Int),[]):=by unfold hdF;rw [if_pos hp,ht]
      rw [ht] at K9
      cases f1:(fmF R).2 with
      | false=>rw [prG_2 hd (.inl f1)];exact cpa_f2 K1 hr U3 D3 W4 U5 D5 K6 K7 hp K9 rfl K11 f1
      | true=>
        by_cases f2:(121:UInt8)∈R
        ·rw [prG_2 hd (.inr f2)];exact cpa_f3 K1 hr U3 D3 W4 U5 D5 K6 K7 hp K9 rfl K11 f1 K13 (decide_eq_true f2)
        ·have V:=hP.v (n+9) _ _ _ hd
         by_cases ho:OkCl ⟨1,(v:Int),(fmF R).1.2,[]⟩ 256
         ·rw [tv_t ho] at V;rw [prG_4 hd f1 f2 ho];exact cpa_f5 K1 hr U3 D3 W4 U5 D5 K6 K7 hp K9 rfl K11 f1 K13 (decide_eq_false f2) V rfl
         ·rw [tv_f ho] at V;rw [prG_3 hd f1 f2 ho];exact cpa_f4 K1 hr U3 D3 W4 U5 D5 K6 K7 hp K9 rfl K11 f1 K13 (decide_eq_false f2) V rfl
  | false=>
    have K9:=crows_g (n:=n) (L:=B) hB hP.p
    cases ht:rwsF 0 [] (pcs B) with
    | error e=>
      have hd:hdF B=.error e:=by unfold hdF;rw [if_neg (by rw [hp];simp),ht]
      rw [ht] at K9
      rw [prG_1 hd]
      exact cpa_f6 (r6:=[]) K1 hr U3 D3 W4 U5 D5 K6 K7 hp K9 rfl
    | ok fs=>
      have hd:hdF B=.ok (2,0,fs):=by unfold hdF;rw [if_neg (by rw [hp];simp),ht]
      rw [ht] at K9
      cases f1:(fmF R).2 with
      | false=>rw [prG_2 hd (.inl f1)];exact cpa_f7 K1 hr U3 D3 W4 U5 D5 K6 K7 hp K9 rfl K11 f1
      | true=>
        by_cases f2:(121:UInt8)∈R
        ·rw [prG_2 hd (.inr f2)];exact cpa_f8 K1 hr U3 D3 W4 U5 D5 K6 K7 hp K9 rfl K11 f1 K13 (decide_eq_true f2)
        ·have V:=hP.v (n+9) _ _ _ hd
         by_cases ho:OkCl ⟨2,0,(fmF R).1.2,fs⟩ 256
         ·rw [tv_t ho] at V;rw [prG_4 hd f1 f2 ho];exact cpa_f10 K1 hr U3 D3 W4 U5 D5 K6 K7 hp K9 rfl K11 f1 K13 (decide_eq_false f2) V rfl
         ·rw [tv_f ho] at V;rw [prG_3 hd f1 f2 ho];exact cpa_f9 K1 hr U3 D3 W4 U5 D5 K6 K7 hp K9 rfl K11 f1 K13 (decide_eq_false f2) V rfl
 ·rw [if_neg hr,if_neg hr] at hP
  rw [if_neg hr]
  have K6:=trimLeft_c (L:=L) (by omega)
  have K7:oHasPrefix [.lit (.string (bs (trL L))),.lit (.string (⟨#[116,111,112]⟩:ByteArray))]=some (.lit (.bool (hasPrefix (trL L) topW))):=pre_c (t:=topW)
  have K11:run (n+13) 61 [.lit (.string (⟨#[48]⟩:ByteArray))]=some (.tup [formV (fmF [48]).1,.lit (.bool (fmF [48]).2)]):=form_c (n:=n+1) (L:=[48]) (by decide)
  have K13:oContains [.lit (.string (⟨#[48]⟩:ByteArray)),.lit (.string (⟨#[121]⟩:ByteArray))]=some (.lit (.bool (decide ((121:UInt8)∈([48]:List UInt8))))):=contains_c (c:=121) (L:=[48]) (by decide)
  have f2:¬(121:UInt8)∈([48]:List UInt8):=by decide
  have W:InI (lastIndex L wM+6):=by
   have h1:-1≤lastIndex L wM:=by
    unfold lastIndex
    split
    ·rcases lastOcc_spec L wM (L.length-wM.length+1) with ⟨h2,_⟩|⟨i,_,h3,_⟩ <;>omega
    ·omega
   exact ⟨by omega,by omega⟩
  cases hp:hasPrefix (trL L) topW with
  | true=>
    have K9:=target_c (n:=n+4) (L:=L) (by omega) hp
    cases ht:tgP ((trL L).drop 3) with
    | none=>
      have hd:hdF L=.error 0:=by unfold hdF;rw [if_pos hp,ht]
      rw [ht] at K9
      rw [prG_1 hd]
      exact cpa_f11 K1 hr K6 K7 hp K9 rfl
    | some v=>
      have hd:hdF L=.ok (1,(v:Int),[]):=by unfold hdF;rw [if_pos hp,ht]
      rw [ht] at K9
      cases f1:(fmF [48]).2 with
      | false=>rw [prG_2 hd (.inl f1)];exact cpa_f12 K1 hr K6 K7 hp K9 rfl K11 f1 W
      | true=>
        have V:=hP.v (n+9) _ _ _ hd
        by_cases ho:OkCl ⟨1,(v:Int),(fmF [48]).1.2,[]⟩ 256
        ·rw [tv_t ho] at V;rw [prG_4 hd f1 f2 ho];exact cpa_f15 K1 hr K6 K7 hp K9 rfl K11 f1 K13 (decide_eq_false f2) V rfl
        ·rw [tv_f ho] at V;rw [prG_3 hd f1 f2 ho];exact cpa_f14 K1 hr K6 K7 hp K9 rfl K11 f1 K13 (decide_eq_false f2) V rfl
  | false=>
    have K9:=crows_g (n:=n) (L:=L) hL hP.p
    cases ht:rwsF 0 [] (pcs L) with
    | error e=>
      have hd:hdF L=.error e:=by unfold hdF;rw [if_neg (by rw [hp];simp),ht]
      rw [ht] at K9
      rw [prG_1 hd]
      exact cpa_f16 (r21:=[]) K1 hr K6 K7 hp K9 rfl
    | ok fs=>
      have hd:hdF L=.ok (2,0,fs):=by unfold hdF;rw [if_neg (by rw [hp];simp),ht]
      rw [ht] at K9
      cases f1:(fmF [48]).2 with
      | false=>rw [prG_2 hd (.inl f1)];exact cpa_f17 K1 hr K6 K7 hp K9 rfl K11 f1 W
      | true=>
        have V:=hP.v (n+9) _ _ _ hd
        by_cases ho:OkCl ⟨2,0,(fmF [48]).1.2,fs⟩ 256
        ·rw [tv_t ho] at V;rw [prG_4 hd f1 f2 ho];exact cpa_f20 K1 hr K6 K7 hp K9 rfl K11 f1 K13 (decide_eq_false f2) V rfl
        ·rw [tv_f ho] at V;rw [prG_3 hd f1 f2 ho];exact cpa_f19 K1 hr K6 K7 hp K9 rfl K11 f1 K13 (decide_eq_false f2) V rfl
end
end
section
open Go.RowKit Go.Lib
attribute [local irreducible] run runL loopG exec
def swT(f:Form):List UInt8:=(txt f).map (swp 120 121)
def rowT(f:Form):List UInt8:=swT f++[32,62,61,32,48]
def joinT:List Form→List UInt8
 | []=>[]
 | [f]=>rowT f
 | f::g::fs=>rowT f++59::32::joinT (g::fs)
def topT(t:Int):List UInt8:=116::111::112::32::decDigits t.toNat
def mgT(q:Rat):List UInt8:=32::(wM++32::txt (numF q))
def ctT(c:TClaim):List UInt8:=(if c.Kind=2 then joinT c.Rows else topT c.Target)++(if c.Margin=0 then [] else mgT c.Margin)
def Fy(c:UInt8):Prop:=c≠120∧c≠59∧c≠61∧c≠109∧c≠116
theorem sw_fy(f:Form):∀c∈swT f,Fy c:=fun c hc=>by
 obtain ⟨x,hx,rfl⟩:=List.mem_map.1 hc
 have h:=txt_fx f x hx
 unfold swp
 by_cases h2:x=120
 ·rw [if_pos h2];exact ⟨by decide,by decide,by decide,by decide,by decide⟩
 ·rw [if_neg h2]
  exact ⟨h2,h.ne (by decide) (by decide),h.ne (by decide) (by decide),h.ne (by decide) (by decide),h.ne (by decide) (by decide)⟩
theorem sw_back(f:Form):(swT f).map (swp 121 120)=txt f:=by
 unfold swT
 rw [List.map_map]
 have:∀l:List UInt8,(∀c∈l,Fx c)→l.map (swp 121 120 ∘ swp 120 121)=l:=fun l=>by
  induction l with
  | nil=>intro _;rfl
  | cons x l ih=>
    intro h
    rw [List.map_cons,ih fun c hc=>h c (List.mem_cons_of_mem _ hc)]
    have hx:x≠121:=(h x List.mem_cons_self).ne (by decide) (by decide)
    have e:(swp 121 120 ∘ swp 120 121) x=x:=by
     show swp 121 120 (swp 120 121 x)=x
     unfold swp
     by_cases h2:x=120
     ·rw [if_pos h2,if_pos rfl,h2]
     ·rw [if_neg h2,if_neg hx]
    rw [e]
 exact this _ (txt_fx f)
structure RowOk (f:Form):Prop where
 s:Srt f.1
 t:∀t∈f.1,H t.2≤2∧0≤t.1∧t.1<256
 k:H f.2≤2
 l:f.1.length≤6
theorem RowOk.sb{f:Form}(h:RowOk f):SB 8300 81 f:=⟨h.s,fun t ht=>⟨h.s.2 t ht,by have:=(h.t t ht).1;omega⟩,by have:=h.k;omega,by have:=h.l;omega⟩
def Bl1(a:List UInt8):Prop:=a=[]∨a=[32]
theorem Bl1.sk{a:List UInt8}(h:Bl1 a):skL a=[]:=by rcases h with rfl|rfl <;>rfl
theorem Bl1.mem{a:List UInt8}(h:Bl1 a){c:UInt8}(hc:c∈a):c=32:=by
 rcases h with rfl|rfl
 ·cases hc
 ·exact List.mem_singleton.1 hc
theorem Bl1.map{a:List UInt8}(h:Bl1 a):a.map (swp 121 120)=a:=by rcases h with rfl|rfl <;>rfl
theorem Bl1.len{a:List UInt8}(h:Bl1 a):a.length≤1:=by rcases h with rfl|rfl <;>simp
theorem fm_row{f:Form}(h:RowOk f){a:List UInt8}(ha:Bl1 a):fmF (a++swT f++[32])=(f,true):=by
 have h0:¬(120:UInt8)∈a++swT f++[32]:=fun hc=>by
  rcases List.mem_append.1 hc with hc|hc
  ·rcases List.mem_append.1 hc with hc|hc
   ·exact absurd (ha.mem hc) (by decide)
   ·exact (sw_fy f _ hc).1 rfl
  ·exact absurd (List.mem_singleton.1 hc) (by decide)
 have e:(a++swT f++[32]).map (swp 121 120)=a++(txt f++[32]):=by
  rw [List.map_append,List.map_append,sw_back,ha.map,List.append_assoc];rfl
 unfold fmF
 rw [if_neg h0,e,psT_txtb h.s (fun t ht=>(prt_two (h.t t ht).1 (h.t t ht).2.1 (h.t t ht).2.2).2) (abs_two h.k).2 ha rfl]
theorem txt_0:txt (([],0):Form)=[48]:=by
 unfold txt
 rw [if_pos (.inr rfl)]
 have h1:ngT 0=false:=rfl
 have h2:absT 0=[48]:=by
  unfold absT
  have e:(0:Rat).den=1:=rfl
  have e2:(0:Rat).num.natAbs=0:=rfl
  rw [if_pos e,e2,dd_lt (by decide)];rfl
 show jn [] (ngT 0) (absT 0)=_
 rw [h1,h2];rfl
theorem H0:H 0≤1:=by decide
theorem fm_zero{e:List UInt8}(he:Bl1 e):fmF (32::48::e)=(([],0),true):=by
 have h0:¬(120:UInt8)∈32::48::e:=fun hc=>by
  rcases List.mem_cons.1 hc with hc|hc
  ·exact absurd hc (by decide)
  ·rcases List.mem_cons.1 hc with hc|hc
   ·exact absurd hc (by decide)
   ·exact absurd (he.mem hc) (by decide)
 have e1:(32::48::e).map (swp 121 120)=[32]++(txt (([],0):Form)++e):=by
  rw [List.map_cons,List.map_cons,he.map,txt_0];rfl
 unfold fmF
 rw [if_neg h0,e1,psT_txtb (f:=([],0)) Srt.nil (fun t ht=>by cases ht) (abs_two (by have:=H0;show H 0≤2;omega)).2 (.inr rfl) he.sk]
theorem sp_at{A e:List UInt8}(hA:∀c∈A,c≠61):spF (A++32::62::61::e)=((A.length+1:Nat):Int):=by
 have r:∀k,(A++32::62::61::e)[A.length+k]?=(32::62::61::e)[k]?:=fun k=>by
  rw [List.getElem?_append_right (by omega)]
  congr 1;omega
 refine sp_uniq ⟨?_,.inr ?_⟩ fun j hj h=>?_
 ·rw [Nat.add_assoc,r];rfl
 ·rw [r];rfl
 ·have h1:=h.1
  by_cases c1:j+1<A.length
  ·rw [List.getElem?_append_left c1] at h1
   exact hA _ (List.mem_of_getElem? h1) rfl
  ·by_cases c2:j+1=A.length
   ·rw [c2,show A.length=A.length+0 from rfl,r] at h1
    cases h1
   ·rw [show j+1=A.length+1 by omega,r] at h1
    cases h1
section
variable {f : Form} {a e : List UInt8}
theorem row_at(ha:Bl1 a):spF (a++(rowT f++e))=(((a++swT f).length+1:Nat):Int)∧(a++(rowT f++e)).take ((a++swT f).length+1)=a++swT f++[32]∧(a++(rowT f++e)).drop ((a++swT f).length+1+2)=32::48::e∧(a++(rowT f++e))[(a++swT f).length+1]?=some 62:=by
 have e1:a++(rowT f++e)=(a++swT f)++32::62::61::32::48::e:=by
  unfold rowT
  simp
 have hA:∀c∈a++swT f,c≠61:=fun c hc=>by
  rcases List.mem_append.1 hc with hc|hc
  ·rw [ha.mem hc];decide
  ·exact (sw_fy f c hc).2.2.1
 rw [e1]
 generalize a++swT f=A at hA ⊢
 refine ⟨sp_at hA,?_,?_,?_⟩
 ·have:A++32::62::61::32::48::e=(A++[32])++62::61::32::48::e:=by simp
  rw [this]
  exact List.take_left' (by simp)
 ·have:A++32::62::61::32::48::e=(A++[32,62,61])++32::48::e:=by simp
  rw [this]
  exact List.drop_left' (by simp)
 ·rw [List.getElem?_append_right (by omega),show A.length+1-A.length=1 by omega];rfl
theorem row_rd(h:RowOk f)(ha:Bl1 a)(he:Bl1 e):rwF (a++(rowT f++e))=.ok f:=by
 obtain ⟨h1,h2,h3,h4⟩:=row_at (f:=f) (e:=e) ha
 rw [rw_at h1,h2,h3,h4,fm_row h ha,fm_zero he]
 rw [if_neg (by simp),if_neg (by simp),if_neg (by decide)]
 show Except.ok (subF f ([],0))=_
 have e1:subF f ([],0)=(f.1,f.2-0):=rfl
 have e2:f.2-0=f.2:=by grind
 rw [e1,e2]
theorem row_good(h:RowOk f)(ha:Bl1 a)(he:Bl1 e):GoodP (a++(rowT f++e)):=by
 obtain ⟨h1,h2,h3,h4⟩:=row_at (f:=f) (e:=e) ha
 refine ⟨?_,fun k hk=>?_⟩
 ·have l1:=txt_two h.t h.k h.l
  have l2:=ha.len
  have l3:=he.len
  have l4:(swT f).length=(txt f).length:=List.length_map ..
  unfold rowT
  simp only [List.length_append,List.length_cons,List.length_nil]
  omega
 ·rw [h1] at hk
  have:k=(a++swT f).length+1:=by omega
  subst this
  rw [h2,h3,fm_row h ha,fm_zero he]
  exact ⟨h.sb,⟨Srt.nil,fun t ht=>(by cases ht),by have:=H0;show H 0≤_;omega,by simp⟩⟩
end
theorem pcs_no:∀{X:List UInt8},(∀c∈X,c≠59)→pcs X=[X]
 | [],_=>rfl
 | c::X,h=>by
   unfold pcs
   rw [if_neg (h c List.mem_cons_self),pcs_no fun d hd=>h d (List.mem_cons_of_mem _ hd)]
theorem pcs_at:∀{X:List UInt8} (Y:List UInt8),(∀c∈X,c≠59)→pcs (X++59::Y)=X::pcs Y
 | [],Y,_=>by
   show pcs (59::Y)=_
   conv=>lhs;unfold pcs
   rw [if_pos rfl]
 | c::X,Y,h=>by
   rw [List.cons_append]
   conv=>lhs;unfold pcs
   rw [if_neg (h c List.mem_cons_self),pcs_at Y fun d hd=>h d (List.mem_cons_of_mem _ hd)]
theorem row_59{f:Form}{a e:List UInt8}(ha:Bl1 a)(he:Bl1 e):∀c∈a++(rowT f++e),c≠59∧c≠109∧c≠116:=fun c hc=>by
 rcases List.mem_append.1 hc with hc|hc
 ·rw [ha.mem hc];decide
 ·rcases List.mem_append.1 hc with hc|hc
  ·unfold rowT at hc
   rcases List.mem_append.1 hc with hc|hc
   ·have:=sw_fy f c hc;exact ⟨this.2.1,this.2.2.2.1,this.2.2.2.2⟩
   ·have:∀c∈([32,62,61,32,48]:List UInt8),c≠59∧c≠109∧c≠116:=by decide
    exact this c hc
  ·rw [he.mem hc];decide
theorem rows_rd{e:List UInt8}(he:Bl1 e):∀(fs:List Form) (f:Form) (a:List UInt8) (n:Nat) (out:List Form),(∀g∈f::fs,RowOk g)→Bl1 a→
  rwsF n out (pcs (a++(joinT (f::fs)++e)))=.ok (out++f::fs)∧∀p∈pcs (a++(joinT (f::fs)++e)),GoodP p
 | [],f,a,n,out,h,ha=>by
   have hf:=h f List.mem_cons_self
   have e1:joinT [f]=rowT f:=rfl
   rw [e1,pcs_no fun c hc=>(row_59 ha he c hc).1,rwsF,row_rd hf ha he]
   refine ⟨rfl,fun p hp=>?_⟩
   rw [List.mem_singleton.1 hp]
   exact row_good hf ha he
 | g::fs,f,a,n,out,h,ha=>by
   have hf:=h f List.mem_cons_self
   have h0:Bl1 ([]:List UInt8):=.inl rfl
   have e1:a++(joinT (f::g::fs)++e)=(a++(rowT f++[]))++59::([32]++(joinT (g::fs)++e)):=by
    show a++((rowT f++59::32::joinT (g::fs))++e)=_
    simp
   obtain ⟨i1,i2⟩:=rows_rd he fs g [32] (n+(a++(rowT f++[])).length+1) (out++[f]) (fun x hx=>h x (List.mem_cons_of_mem _ hx)) (.inr rfl)
   rw [e1,pcs_at _ fun c hc=>(row_59 ha h0 c hc).1,rwsF,row_rd hf ha h0]
   refine ⟨by rw [show out++f::g::fs=out++[f]++g::fs by simp];exact i1,fun p hp=>?_⟩
   rcases List.mem_cons.1 hp with rfl|hp
   ·exact row_good hf ha h0
   ·exact i2 p hp
theorem join_ch:∀(fs:List Form) (c:UInt8),c∈joinT fs→c≠109∧c≠116
 | [],c,h=>by cases h
 | [f],c,h=>by
   have h2:c∈rowT f:=h
   have:=row_59 (f:=f) (a:=[]) (e:=[]) (.inl rfl) (.inl rfl) c (by simpa using h2)
   exact this.2
 | f::g::fs,c,h=>by
   have h2:c∈rowT f++59::32::joinT (g::fs):=h
   rcases List.mem_append.1 h2 with h2|h2
   ·have:=row_59 (f:=f) (a:=[]) (e:=[]) (.inl rfl) (.inl rfl) c (by simpa using h2)
    exact this.2
   ·rcases List.mem_cons.1 h2 with rfl|h2
    ·decide
    ·rcases List.mem_cons.1 h2 with rfl|h2
     ·decide
     ·exact join_ch (g::fs) c h2
theorem row_len{f:Form}(h:RowOk f):(rowT f).length≤343:=by
 have l1:=txt_two h.t h.k h.l
 have l4:(swT f).length=(txt f).length:=List.length_map ..
 unfold rowT
 simp only [List.length_append,List.length_cons,List.length_nil]
 omega
theorem join_len:∀(fs:List Form),(∀g∈fs,RowOk g)→(joinT fs).length≤345*fs.length
 | [],_=>by simp [joinT]
 | [f],h=>by
   have:=row_len (h f List.mem_cons_self)
   show (rowT f).length≤_
   simp;omega
 | f::g::fs,h=>by
   have h1:=row_len (h f List.mem_cons_self)
   have h2:=join_len (g::fs) fun x hx=>h x (List.mem_cons_of_mem _ hx)
   show (rowT f++59::32::joinT (g::fs)).length≤_
   simp only [List.length_append,List.length_cons] at h2 ⊢
   omega
def Fn(c:UInt8):Prop:=isD c=true∨c=47∨c=45
theorem num_fn(q:Rat):∀c∈txt (numF q),Fn c:=by
 have h1:∀c∈absT q,Fn c:=fun c hc=>by
  unfold absT at hc
  rcases List.mem_append.1 hc with h|h
  ·exact .inl ((dd_d _ _ (Nat.le_refl _)).1 c h)
  ·split at h
   ·cases h
   ·rcases List.mem_cons.1 h with rfl|h
    ·exact .inr (.inl rfl)
    ·exact .inl ((dd_d _ _ (Nat.le_refl _)).1 c h)
 have e:txt (numF q)=if ngT q=true then 45::absT q else absT q:=by
  unfold txt
  rw [if_pos (.inr rfl)]
  rfl
 rw [e]
 split
 ·intro c hc
  rcases List.mem_cons.1 hc with rfl|hc
  ·exact .inr (.inr rfl)
  ·exact h1 c hc
 ·exact h1
theorem Fn.ne{c d:UInt8}(h:Fn c)(hd:isD d=false)(h1:d≠47∧d≠45):c≠d:=fun e=>by
 subst e
 rcases h with h|h|h
 ·rw [hd] at h;cases h
 ·exact h1.1 h
 ·exact h1.2 h
theorem num_len{q:Rat}(h:H q≤8):(txt (numF q)).length≤162:=by
 have h1:=(abs_lm (by omega) h).1
 have e:txt (numF q)=if ngT q=true then 45::absT q else absT q:=by
  unfold txt
  rw [if_pos (.inr rfl)]
  rfl
 rw [e]
 split
 ·rw [List.length_cons];omega
 ·omega
theorem fm_num{q:Rat}(h:H q≤8):fmF (32::txt (numF q))=(numF q,true):=by
 have h0:¬(120:UInt8)∈32::txt (numF q):=fun hc=>by
  rcases List.mem_cons.1 hc with hc|hc
  ·exact absurd hc (by decide)
  ·exact (num_fn q _ hc).ne (by decide) (by decide) rfl
 have e1:(32::txt (numF q)).map (swp 121 120)=[32]++(txt (numF q)++[]):=by
  rw [List.append_nil]
  have:∀l:List UInt8,(∀c∈l,Fn c)→l.map (swp 121 120)=l:=fun l=>by
   induction l with
   | nil=>intro _;rfl
   | cons x l ih=>
     intro hl
     rw [List.map_cons,ih fun c hc=>hl c (List.mem_cons_of_mem _ hc)]
     have e:swp 121 120 x=x:=if_neg ((hl x List.mem_cons_self).ne (by decide) (by decide))
     rw [e]
  rw [List.map_cons,this _ (num_fn q)];rfl
 have h2:=(abs_lm (by omega) h).2
 unfold fmF
 rw [if_neg h0,e1,psT_txtb (f:=numF q) Srt.nil (fun t ht=>by cases ht) ⟨by show (decDigits q.num.natAbs).length≤200;omega,by show (decDigits q.den).length≤200;omega⟩ (.inr rfl) rfl]
theorem occ_m{L:List UInt8}{i:Nat}(h:occAt L wM i=true):L[i]?=some 109:=by
 unfold occAt at h
 obtain ⟨t,ht⟩:=List.isPrefixOf_iff_prefix.1 h
 have e0:(L.drop i)[0]?=L[i]?:=by rw [List.getElem?_drop];rfl
 rw [←e0,←ht];rfl
theorem last_no{L:List UInt8}(h:∀c∈L,c≠109):lastIndex L wM=-1:=by
 unfold lastIndex
 split
 ·rcases lastOcc_spec L wM (L.length-wM.length+1) with ⟨h2,_⟩|⟨i,_,_,h3,_⟩
  ·exact h2
  ·exact absurd rfl (h _ (List.mem_of_getElem? (occ_m h3)))
 ·rfl
theorem last_at{B R:List UInt8}(hB:∀c∈B,c≠109)(hR:∀c∈R,c≠109):lastIndex (B++(wM++R)) wM=(B.length:Int):=by
 have hw:wM.length=6:=rfl
 have here:occAt (B++(wM++R)) wM B.length=true:=by
  unfold occAt
  rw [List.drop_left' rfl]
  exact List.isPrefixOf_iff_prefix.2 ⟨R,rfl⟩
 have only:∀i,occAt (B++(wM++R)) wM i=true→i=B.length:=fun i hi=>by
  have h:=occ_m hi
  by_cases c1:i<B.length
  ·rw [List.getElem?_append_left c1] at h
   exact absurd rfl (hB _ (List.mem_of_getElem? h))
  ·rw [List.getElem?_append_right (by omega)] at h
   by_cases c2:i-B.length<6
   ·rw [List.getElem?_append_left (by omega)] at h
    have:∀k,k<6→wM[k]?=some 109→k=0:=by decide
    have:=this _ c2 h
    omega
   ·rw [List.getElem?_append_right (by omega)] at h
    exact absurd rfl (hR _ (List.mem_of_getElem? h))
 unfold lastIndex
 have hl:(B++(wM++R)).length=B.length+(6+R.length):=by rw [List.length_append,List.length_append,hw]
 rw [if_pos (by omega)]
 rcases lastOcc_spec (B++(wM++R)) wM ((B++(wM++R)).length-wM.length+1) with ⟨_,h2⟩|⟨i,_,h3,h4,_⟩
 ·have:=h2 B.length (by omega)
  rw [here] at this;cases this
 ·rw [h3,only i h4]
theorem top_rd{t:Int}(h0:0≤t)(h1:t<256){e:List UInt8}(he:Bl1 e):hdF (topT t++e)=.ok (1,t,[]):=by
 have e1:trL (topT t++e)=topT t++e:=rfl
 have hp:hasPrefix (trL (topT t++e)) topW=true:=by
  rw [e1]
  unfold hasPrefix
  exact List.isPrefixOf_iff_prefix.2 ⟨32::(decDigits t.toNat++e),rfl⟩
 have e2:(trL (topT t++e)).drop 3=32::(decDigits t.toNat++e):=rfl
 obtain ⟨d1,d2,d3⟩:=dd_d t.toNat t.toNat (Nat.le_refl _)
 have d4:=dd_ten 2 t.toNat (by omega)
 have d5:=dd_ne t.toNat
 have d6:t.toNat=0→decDigits t.toNat=[48]:=fun h=>by rw [h,dd_lt (by decide)];rfl
 have d7:¬((decDigits t.toNat).head?=some 48∧1<(decDigits t.toNat).length):=fun h=>by
  rcases Nat.eq_zero_or_pos t.toNat with hz|hz
  ·rw [d6 hz] at h
   exact absurd h.2 (by decide)
  ·obtain ⟨c,r,h4,h5⟩:=d3 hz
   rw [h4] at h
   exact h5 (Option.some.inj h.1)
 have hb:trB (32::(decDigits t.toNat++e))=decDigits t.toNat:=by
  have nb:∀c∈decDigits t.toNat,bl c=false:=fun c hc=>by
   have:=isD_ne (d:=32) (d1 c hc) (by decide)
   unfold bl;simpa using this
  generalize decDigits t.toNat=D at d5 nb
  have h3:trL (32::(D++e))=D++e:=by
   cases D with
   | nil=>exact absurd rfl d5
   | cons c D=>
     have:=nb c List.mem_cons_self
     show List.dropWhile bl (32::(c::D++e))=_
     rw [List.dropWhile_cons,if_pos (by decide),List.cons_append,List.dropWhile_cons,if_neg (by rw [this];simp)]
  unfold trB
  rw [h3]
  rcases List.eq_nil_or_concat D with h|⟨D',c,h⟩
  ·exact absurd h d5
  ·rw [List.concat_eq_append] at h
   subst h
   rw [List.append_assoc,List.singleton_append,trR_app (nb c (by simp)),trR_all fun x hx=>by rw [he.mem hx];rfl]
 have ht:tgP ((trL (topT t++e)).drop 3)=some t.toNat:=by
  rw [e2]
  unfold tgP
  rw [hb,if_pos ⟨rfl,d5,by omega,d7,d1⟩,d2]
 unfold hdF
 rw [if_pos hp,ht]
 dsimp only
 rw [show ((t.toNat:Nat):Int)=t by omega]
theorem top_ch{t:Int}{c:UInt8}(h:c∈topT t):c≠109∧c≠59:=by
 unfold topT at h
 have hd:=(dd_d t.toNat t.toNat (Nat.le_refl _)).1
 rcases List.mem_cons.1 h with rfl|h
 ·decide
 rcases List.mem_cons.1 h with rfl|h
 ·decide
 rcases List.mem_cons.1 h with rfl|h
 ·decide
 rcases List.mem_cons.1 h with rfl|h
 ·decide
 exact ⟨isD_ne (hd c h) (by decide),isD_ne (hd c h) (by decide)⟩
def SmC.row{c:TClaim}(h:SmC c 256):∀g∈c.Rows,RowOk g:=fun g hg=>by
 have k:=h.f g hg
 exact ⟨k.ok.srt.1,fun t ht=>⟨k.t t ht,k.ok.srt.2 t ht⟩,k.k,k.l⟩
def bdT(c:TClaim):List UInt8:=if c.Kind=2 then joinT c.Rows else topT c.Target
section
variable {c : TClaim} {e : List UInt8}
theorem bd_ok(h:SmC c 256)(he:Bl1 e):hdF (bdT c++e)=.ok (c.Kind,c.Target,c.Rows)∧(bdT c++e).length≤3000∧(∀p∈pcs (bdT c++e),GoodP p)∧∀x∈bdT c++e,x≠109:=by
 have hl:=he.len
 unfold bdT
 rcases h.k with ⟨k1,k2,k3,k4⟩|⟨k1,k2,k3⟩
 ·rw [if_neg (by omega)]
  have d4:=dd_ten 2 c.Target.toNat (by omega)
  have l1:(topT c.Target++e).length≤80:=by
   unfold topT
   simp only [List.length_append,List.length_cons]
   omega
  refine ⟨by rw [top_rd k2 k3 he,k1,k4],by omega,fun p hp=>?_,fun x hx=>?_⟩
  ·exact goodP_80 (Nat.le_trans ((pcs_len _).2 p hp) l1)
  ·rcases List.mem_append.1 hx with hx|hx
   ·exact (top_ch hx).1
   ·rw [he.mem hx];decide
 ·rw [if_pos k1]
  have hr:=h.row
  have l1:=join_len c.Rows hr
  have l2:=h.l
  have hch:∀x∈joinT c.Rows++e,x≠109∧x≠116:=fun x hx=>by
   rcases List.mem_append.1 hx with hx|hx
   ·exact join_ch _ x hx
   ·rw [he.mem hx];decide
  obtain ⟨g,fs,hg⟩:∃g fs,c.Rows=g::fs:=by
   cases hc:c.Rows with
   | nil=>rw [hc] at k3;simp at k3
   | cons g fs=>exact ⟨g,fs,rfl⟩
  obtain ⟨i1,i2⟩:=rows_rd he fs g [] 0 [] (by rw [←hg];exact hr) (.inl rfl)
  rw [←hg,List.nil_append] at i1 i2
  have hp:¬hasPrefix (trL (joinT c.Rows++e)) topW=true:=fun hp=>by
   have h1:=(top_cut hp).1
   have h2:(116:UInt8)∈trL (joinT c.Rows++e):=by rw [h1];simp [topW]
   have h3:=(List.dropWhile_suffix (l:=joinT c.Rows++e) bl).subset h2
   exact (hch _ h3).2 rfl
  refine ⟨?_,by rw [List.length_append];omega,i2,fun x hx=>(hch x hx).1⟩
  unfold hdF
  rw [if_neg hp,i1,k1,k2]
  rfl
theorem sg_ne(h:0≤c.Margin):¬sgR c.Margin<0:=by
 have h1:=Rat.num_nonneg.2 h
 unfold sgR
 rcases Int.lt_or_eq_of_le h1 with h|h
 ·rw [Int.sign_eq_one_of_pos h];decide
 ·rw [←h];decide
theorem OkCl_of(h:SmC c 256):OkCl c 256:=⟨by omega,by omega,sg_ne h.m0,by
 rcases h.k with ⟨k1,k2,k3,k4⟩|⟨k1,k2,k3⟩
 ·exact .inl ⟨k1,k2,k3,k4⟩
 ·exact .inr ⟨k1,k2,k3,by have:=h.l;omega,fun f hf=>(h.f f hf).ok⟩⟩
theorem ct_back(h:SmC c 256)(hV:∀n:Nat,run (n+4) 44 [claimV c,.lit (.int .i64 256)]=some (.lit (.bool true))):prF (ctT c)=.ok c∧PrOk (bodyF (ctT c)) (restF (ctT c))∧(ctT c).length≤4000:=by
 have ec:ctT c=bdT c++(if c.Margin=0 then [] else mgT c.Margin):=rfl
 by_cases hm:c.Margin=0
 ·obtain ⟨a1,a2,a3,a4⟩:=bd_ok (e:=[]) h (.inl rfl)
  rw [if_pos hm] at ec
  have hi:lastIndex (ctT c) wM=-1:=by rw [ec];exact last_no a4
  have hf:fmF [48]=(([],0),true):=by
   have h0:¬(120:UInt8)∈([48]:List UInt8):=by decide
   have e1:([48]:List UInt8).map (swp 121 120)=[]++(txt (([],0):Form)++[]):=by rw [txt_0];rfl
   unfold fmF
   rw [if_neg h0,e1,psT_txtb (f:=([],0)) Srt.nil (fun t ht=>by cases ht) (abs_two (by have:=H0;show H 0≤2;omega)).2 (.inl rfl) rfl]
  have cc:(⟨c.Kind,c.Target,(fmF [48]).1.2,c.Rows⟩:TClaim)=c:=by rw [hf];show (⟨c.Kind,c.Target,0,c.Rows⟩:TClaim)=c;rw [←hm]
  refine ⟨?_,?_,by rw [ec];omega⟩
  ·unfold prF
   rw [if_neg (by omega),ec,prG_4 a1 (by rw [hf]) (by decide) (by rw [cc];exact OkCl_of h),cc]
  ·unfold bodyF restF
   rw [if_neg (by omega),if_neg (by omega),ec]
   exact ⟨by omega,a3,by decide,by rw [hf];show H 0≤_;have:=H0;omega,fun n k t fs h9=>by rw [a1] at h9;cases h9;rw [cc,tv_t (OkCl_of h)];exact hV n⟩
 ·obtain ⟨a1,a2,a3,a4⟩:=bd_ok (e:=[32]) h (.inr rfl)
  rw [if_neg hm] at ec
  have e2:ctT c=(bdT c++[32])++(wM++32::txt (numF c.Margin)):=by rw [ec];unfold mgT;simp
  have hn:=num_fn c.Margin
  have hR:∀x∈32::txt (numF c.Margin),x≠109∧x≠121:=fun x hx=>by
   rcases List.mem_cons.1 hx with rfl|hx
   ·decide
   ·exact ⟨(hn x hx).ne (by decide) (by decide),(hn x hx).ne (by decide) (by decide)⟩
  have hi:lastIndex (ctT c) wM=((bdT c++[32]).length:Int):=by rw [e2];exact last_at a4 fun x hx=>(hR x hx).1
  have ht:(ctT c).take (lastIndex (ctT c) wM).toNat=bdT c++[32]:=by rw [hi,e2];exact List.take_left' rfl
  have hd:(ctT c).drop ((lastIndex (ctT c) wM).toNat+6)=32::txt (numF c.Margin):=by
   rw [hi]
   have e3:ctT c=((bdT c++[32])++wM)++32::txt (numF c.Margin):=by rw [e2];simp
   rw [e3]
   refine List.drop_left' ?_
   rw [List.length_append];rfl
  have hf:=fm_num h.m
  have hl:=num_len h.m
  have cc:(⟨c.Kind,c.Target,(fmF (32::txt (numF c.Margin))).1.2,c.Rows⟩:TClaim)=c:=by rw [hf];rfl
  refine ⟨?_,?_,?_⟩
  ·unfold prF
   rw [if_pos (by omega),ht,hd,prG_4 a1 (by rw [hf]) (fun hx=>(hR _ hx).2 rfl) (by rw [cc];exact OkCl_of h),cc]
  ·unfold bodyF restF
   rw [if_pos (by omega),if_pos (by omega),ht,hd]
   exact ⟨by omega,a3,by rw [List.length_cons];omega,by rw [hf];show H c.Margin≤_;have:=h.m;omega,fun n k t fs h9=>by rw [a1] at h9;cases h9;rw [cc,tv_t (OkCl_of h)];exact hV n⟩
  ·rw [e2]
   have:wM.length=6:=rfl
   simp only [List.length_append,List.length_cons,List.length_nil] at a2 ⊢
   omega
end
end
section
open Go.RowKit
noncomputable def ctx_C7:Code:=(loopsOf (bodyOf Tryz.f17)).getD 0 .skip
def ctx_h7(a0:TClaim)(out_7:List ByteArray)(i_7:Nat):St:=
 ⟨[(1,.ptr 0 0),(4,.own 1 out_7.length),(18,.sl 4 (a0.Rows.map formC)),(19,.lit (.int .i64 (a0.Rows.length:Int))),(20,.lit (.int .i64 (i_7:Int)))],
  [(0,some (.box 39 [.lit (.int .i64 (a0.Kind)),.lit (.int .i64 (a0.Target)),.lit (.bool (rawQ a0.Margin).s),natA (rawQ a0.Margin).l1,natA (rawQ a0.Margin).l2,.sl 4 (a0.Rows.map formC)] false)),
   (1,some (.row 9 1 (out_7.map strC) 0))],2⟩
def ctx_o7a(a0:TClaim)(out_7:List ByteArray):St:=
 ⟨[(1,.ptr 0 0),(4,.own 1 out_7.length)],
  [(0,some (.box 39 [.lit (.int .i64 (a0.Kind)),.lit (.int .i64 (a0.Target)),.lit (.bool (rawQ a0.Margin).s),natA (rawQ a0.Margin).l1,natA (rawQ a0.Margin).l2,.sl 4 (a0.Rows.map formC)] false)),
   (1,some (.row 9 1 (out_7.map strC) 0))],2⟩
section
variable{n:Nat}{q3:Rat}{r7:ByteArray}{out_7:List ByteArray}{a0:TClaim}{F3:List (Int × Rat)}{cat4:ByteArray}{r8:ByteArray}{i_7:Nat}{r2:ByteArray}{cat:ByteArray}{cat6:ByteArray}{cat5:ByteArray}{r:Bool}{r9:ByteArray}{r10:ByteArray}{cat8:ByteArray}{r11:ByteArray}{cat7:ByteArray}
theorem ctx_r7_1(C1:(i_7:Int)<(a0.Rows.length:Int))(E2:a0.Rows[i_7]?=some (F3,q3))(K3:run (n+7) 47 [formV (F3,q3)]=some (.lit (.string r7)))(K4:(oReplaceAll) [.lit (.string r7),.lit (.string (⟨#[120]⟩:ByteArray)),.lit (.string (⟨#[121]⟩:ByteArray))]=some (.lit (.string r8)))(S5:r8.size+(⟨#[32,62,61,32,48]⟩:ByteArray).size≤9000000000000000000)(D5:cat4=r8++(⟨#[32,62,61,32,48]⟩:ByteArray))(M6:out_7.length+1≤100000000)(W7:InI ((i_7:Int)+1)):
  Cont 0 (exec Tryz.prog (tab (n+8)) 0 46 (livesOf 17) big ctx_C7) (livesOf 17 7) (ctx_h7 a0 out_7 i_7) (ctx_h7 a0 (out_7++[cat4]) (i_7+1)):=by
 obtain ⟨ks0,hks0⟩:∃k:ByteArray,(⟨#[32,62,61,32,48]⟩:ByteArray)=k:=⟨_,rfl⟩
 rw [hks0] at S5 D5
 have C1_:i_7<a0.Rows.length:=by omega
 obtain ⟨EL2,EG2⟩:=List.getElem?_eq_some_iff.1 E2
 simp only [formV] at K3
 have S5_r:=cat_r S5 D5
 have S5_q:=cat_q S5 D5
 have M6_:∀b,b≤10000→roomy (out_7.length+1) b=true:=fun b hb=>roomy_s M6 hb
 have W7_:IntKind.i64.wrap ((i_7:Int)+1)=(i_7:Int)+1:=wr64 W7.1 W7.2
 unfold Cont
 simp+decide [ctx_h7,loopsOf, Tryz.f17,ctx_C7,C1,C1_,EL2,EG2,E2,K3,K4,↓S5_r,S5_q,M6_,W7_,hks0]
theorem ctx_x7_1(C1:¬(i_7:Int)<(a0.Rows.length:Int)):
  Leave 0 (exec Tryz.prog (tab (n+8)) 0 46 (livesOf 17) big ctx_C7) (livesOf 17 (outOf 7)) (ctx_h7 a0 out_7 i_7) (.exit 0) (ctx_o7a a0 out_7):=by
 have C1_:¬i_7<a0.Rows.length:=by omega
 unfold Leave
 simp+decide [ctx_h7,loopsOf, Tryz.f17,ctx_o7a,ctx_C7,C1,C1_]
section
variable(K1:run (n+7) 44 [claimV a0,.lit (.int .i64 256)]=some (.lit (.bool r)))(C2:r=true)(K3:(oItoa) [.lit (.int .i64 (a0.Target))]=some (.lit (.string r2)))(S4:(⟨#[116,111,112,32]⟩:ByteArray).size+r2.size≤9000000000000000000)(D4:cat=(⟨#[116,111,112,32]⟩:ByteArray)++r2)
include K1 C2 K3 S4 D4
section
variable(C5:a0.Kind=2)(L6:loopG Tryz.prog (tab (n+8)) 0 46 (livesOf 17) 7 ctx_C7 (ctx_h7 a0 [] 0)=some (.exit 0,ctx_o7a a0 out_7))(K7:(oJoin) [.sl 1 (out_7.map strC),.lit (.string (⟨#[59,32]⟩:ByteArray))]=some (.lit (.string r9)))(B8a:H a0.Margin≤17179869184)
include C5 L6 K7 B8a
theorem ctx_f2(C9:0<sgR a0.Margin)(K10:run (n+7) 47 [.agg [.sl 4 [],.lit (.bool (rawQ a0.Margin).s),natA (rawQ a0.Margin).l1,natA (rawQ a0.Margin).l2]]=some (.lit (.string r10)))(S11:(⟨#[32,109,97,114,103,105,110,32]⟩:ByteArray).size+r10.size≤9000000000000000000)(D11:cat5=(⟨#[32,109,97,114,103,105,110,32]⟩:ByteArray)++r10)(S12:r9.size+cat5.size≤9000000000000000000)(D12:cat6=r9++cat5):
  run (n+8) 17 [claimV a0]=some (.lit (.string cat6)):=by
 simp only [claimV] at K1
 have S4_r:=cat_r S4 D4
 have S4_q:=cat_q S4 D4
 have C5_:(a0.Kind==2)=true:=by rw [C5];simp
 have C5_n:(a0.Kind !=2)=false:=by rw [C5];simp
 have K8:=r_sign (p:=a0.Margin) B8a
 have S11_r:=cat_r S11 D11
 have S11_q:=cat_q S11 D11
 have S12_r:=cat_r S12 D12
 have S12_q:=cat_q S12 D12
 rw [C2] at K1
 unfold run fnP
 simp+decide [Tryz.f17,K1,C2,K3,↓S4_r,S4_q,C5_,C5_n,K7,K8,C9,K10,↓S11_r,S11_q,↓S12_r,S12_q]
 rw [loopX_G (C':=ctx_C7) (e:=(ctx_h7 a0 [] 0)) ?_ ?_,L6]
 rotate_left
 ·kernel_rfl
 ·simp+decide [ctx_h7,K1,C2,K3,↓S4_r,S4_q,C5_,C5_n,K7,K8,C9,K10,↓S11_r,S11_q,↓S12_r,S12_q]
 simp+decide [ctx_o7a,K1,C2,K3,↓S4_r,S4_q,C5_,C5_n,K7,K8,C9,K10,↓S11_r,S11_q,↓S12_r,S12_q]
theorem ctx_f3(C9:¬0<sgR a0.Margin):
  run (n+8) 17 [claimV a0]=some (.lit (.string r9)):=by
 simp only [claimV] at K1
 have S4_r:=cat_r S4 D4
 have S4_q:=cat_q S4 D4
 have C5_:(a0.Kind==2)=true:=by rw [C5];simp
 have C5_n:(a0.Kind !=2)=false:=by rw [C5];simp
 have K8:=r_sign (p:=a0.Margin) B8a
 rw [C2] at K1
 unfold run fnP
 simp+decide [Tryz.f17,K1,C2,K3,↓S4_r,S4_q,C5_,C5_n,K7,K8,C9]
 rw [loopX_G (C':=ctx_C7) (e:=(ctx_h7 a0 [] 0)) ?_ ?_,L6]
 rotate_left
 ·kernel_rfl
 ·simp+decide [ctx_h7,K1,C2,K3,↓S4_r,S4_q,C5_,C5_n,K7,K8,C9]
 simp+decide [ctx_o7a,K1,C2,K3,↓S4_r,S4_q,C5_,C5_n,K7,K8,C9]
end
theorem ctx_f4(C5:¬a0.Kind=2)(B6a:H a0.Margin≤17179869184)(C7:0<sgR a0.Margin)(K8:run (n+7) 47 [.agg [.sl 4 [],.lit (.bool (rawQ a0.Margin).s),natA (rawQ a0.Margin).l1,natA (rawQ a0.Margin).l2]]=some (.lit (.string r11)))(S9:(⟨#[32,109,97,114,103,105,110,32]⟩:ByteArray).size+r11.size≤9000000000000000000)(D9:cat7=(⟨#[32,109,97,114,103,105,110,32]⟩:ByteArray)++r11)(S10:cat.size+cat7.size≤9000000000000000000)(D10:cat8=cat++cat7):
  run (n+8) 17 [claimV a0]=some (.lit (.string cat8)):=by
 simp only [claimV] at K1
 have S4_r:=cat_r S4 D4
 have S4_q:=cat_q S4 D4
 have C5_:(a0.Kind==2)=false:=by simpa using C5
 have C5_n:(a0.Kind !=2)=true:=by simpa using C5
 have K6:=r_sign (p:=a0.Margin) B6a
 have S9_r:=cat_r S9 D9
 have S9_q:=cat_q S9 D9
 have S10_r:=cat_r S10 D10
 have S10_q:=cat_q S10 D10
 rw [C2] at K1
 unfold run fnP
 simp+decide [Tryz.f17,K1,C2,K3,↓S4_r,S4_q,C5_,C5_n,K6,C7,K8,↓S9_r,S9_q,↓S10_r,S10_q]
theorem ctx_f5(C5:¬a0.Kind=2)(B6a:H a0.Margin≤17179869184)(C7:¬0<sgR a0.Margin):
  run (n+8) 17 [claimV a0]=some (.lit (.string cat)):=by
 simp only [claimV] at K1
 have S4_r:=cat_r S4 D4
 have S4_q:=cat_q S4 D4
 have C5_:(a0.Kind==2)=false:=by simpa using C5
 have C5_n:(a0.Kind !=2)=true:=by simpa using C5
 have K6:=r_sign (p:=a0.Margin) B6a
 rw [C2] at K1
 unfold run fnP
 simp+decide [Tryz.f17,K1,C2,K3,↓S4_r,S4_q,C5_,C5_n,K6,C7]
end
end
noncomputable def ftx2_C7:Code:=(loopsOf (bodyOf Tryz.f19)).getD 0 .skip
def ftx2_h7(a0:TClaim)(str_7:ByteArray)(i_7:Nat):St:=
 ⟨[(1,.ptr 0 0),(3,.lit (.string str_7)),(4,.lit (.int .i64 (i_7:Int)))],
  [(0,some (.box 39 [.lit (.int .i64 (a0.Kind)),.lit (.int .i64 (a0.Target)),.lit (.bool (rawQ a0.Margin).s),natA (rawQ a0.Margin).l1,natA (rawQ a0.Margin).l2,.sl 4 (a0.Rows.map formC)] false))],1⟩
def ftx2_o7a(a0:TClaim)(str_7:ByteArray):St:=
 ⟨[(1,.ptr 0 0),(3,.lit (.string str_7))],
  [(0,some (.box 39 [.lit (.int .i64 (a0.Kind)),.lit (.int .i64 (a0.Target)),.lit (.bool (rawQ a0.Margin).s),natA (rawQ a0.Margin).l1,natA (rawQ a0.Margin).l2,.sl 4 (a0.Rows.map formC)] false))],1⟩
section
variable{cat9:ByteArray}{n:Nat}{cat10:ByteArray}{r11:ByteArray}{str_7:ByteArray}{cat11:ByteArray}{a0:TClaim}{q4:Rat}{r10:ByteArray}{F4:List (Int × Rat)}{i_7:Nat}{q5:Rat}{r12:ByteArray}{cat13:ByteArray}{r13:ByteArray}{cat12:ByteArray}{F5:List (Int × Rat)}{r14:Form}{r3:ByteArray}{r2:List Nat}{cat15:ByteArray}{cat:ByteArray}{cat14:ByteArray}{r:Bool}{r15:ByteArray}{r17:ByteArray}{r16:Form}{cat17:ByteArray}{cat16:ByteArray}
theorem ftx2_r7_1(C1:(i_7:Int)<(a0.Rows.length:Int))(C2:0<(i_7:Int))(S3:str_7.size+(⟨#[59,32]⟩:ByteArray).size≤9000000000000000000)(D3:cat9=str_7++(⟨#[59,32]⟩:ByteArray))(E4:a0.Rows[i_7]?=some (F4,q4))(K5:run (n+6) 43 [formV (F4,q4)]=some (.lit (.string r10)))(K6:(oSwap) [.lit (.string r10),.lit (.int .u8 120),.lit (.int .u8 121)]=some (.lit (.string r11)))(S7:r11.size+(⟨#[32,62,61,32,48]⟩:ByteArray).size≤9000000000000000000)(D7:cat10=r11++(⟨#[32,62,61,32,48]⟩:ByteArray))(S8:cat9.size+cat10.size≤9000000000000000000)(D8:cat11=cat9++cat10)(W9:InI ((i_7:Int)+1)):
  Cont 0 (exec Tryz.prog (tab (n+7)) 0 50 (livesOf 19) big ftx2_C7) (livesOf 19 7) (ftx2_h7 a0 str_7 i_7) (ftx2_h7 a0 cat11 (i_7+1)):=by
 obtain ⟨ks0,hks0⟩:∃k:ByteArray,(⟨#[59,32]⟩:ByteArray)=k:=⟨_,rfl⟩
 rw [hks0] at S3 D3
 obtain ⟨ks1,hks1⟩:∃k:ByteArray,(⟨#[32,62,61,32,48]⟩:ByteArray)=k:=⟨_,rfl⟩
 rw [hks1] at S7 D7
 have C1_:i_7<a0.Rows.length:=by omega
 have C2_:0<i_7:=by omega
 have C2_z:(i_7:Int)≠0:=by omega
 have C2_e:((i_7:Int)==0)=false:=by simpa using C2_z
 have C2_g:((i_7:Int) !=0)=true:=by simpa using C2_z
 have S3_r:=cat_r S3 D3
 have S3_q:=cat_q S3 D3
 obtain ⟨EL4,EG4⟩:=List.getElem?_eq_some_iff.1 E4
 simp only [formV] at K5
 have S7_r:=cat_r S7 D7
 have S7_q:=cat_q S7 D7
 have S8_r:=cat_r S8 D8
 have S8_q:=cat_q S8 D8
 have W9_:IntKind.i64.wrap ((i_7:Int)+1)=(i_7:Int)+1:=wr64 W9.1 W9.2
 unfold Cont
 simp+decide [ftx2_h7,loopsOf, Tryz.f19,ftx2_C7,C1,C1_,C2,C2_,C2_e,C2_g,↓S3_r,S3_q,EL4,EG4,E4,K5,K6,↓S7_r,S7_q,↓S8_r,S8_q,W9_,hks0,hks1]
theorem ftx2_r7_2(C1:(i_7:Int)<(a0.Rows.length:Int))(C2:¬0<(i_7:Int))(E3:a0.Rows[i_7]?=some (F5,q5))(K4:run (n+6) 43 [formV (F5,q5)]=some (.lit (.string r12)))(K5:(oSwap) [.lit (.string r12),.lit (.int .u8 120),.lit (.int .u8 121)]=some (.lit (.string r13)))(S6:r13.size+(⟨#[32,62,61,32,48]⟩:ByteArray).size≤9000000000000000000)(D6:cat12=r13++(⟨#[32,62,61,32,48]⟩:ByteArray))(S7:str_7.size+cat12.size≤9000000000000000000)(D7:cat13=str_7++cat12)(W8:InI ((i_7:Int)+1)):
  Cont 0 (exec Tryz.prog (tab (n+7)) 0 50 (livesOf 19) big ftx2_C7) (livesOf 19 7) (ftx2_h7 a0 str_7 i_7) (ftx2_h7 a0 cat13 (i_7+1)):=by
 obtain ⟨ks0,hks0⟩:∃k:ByteArray,(⟨#[32,62,61,32,48]⟩:ByteArray)=k:=⟨_,rfl⟩
 rw [hks0] at S6 D6
 have C1_:i_7<a0.Rows.length:=by omega
 have C2_:¬0<i_7:=by omega
 have C2_z:(i_7:Int)=0:=by omega
 have C2_e:((i_7:Int)==0)=true:=by rw [C2_z];simp
 have C2_g:((i_7:Int) !=0)=false:=by rw [C2_z];simp
 obtain ⟨EL3,EG3⟩:=List.getElem?_eq_some_iff.1 E3
 simp only [formV] at K4
 have S6_r:=cat_r S6 D6
 have S6_q:=cat_q S6 D6
 have S7_r:=cat_r S7 D7
 have S7_q:=cat_q S7 D7
 have W8_:IntKind.i64.wrap ((i_7:Int)+1)=(i_7:Int)+1:=wr64 W8.1 W8.2
 unfold Cont
 simp+decide [ftx2_h7,loopsOf, Tryz.f19,ftx2_C7,C1,C1_,C2,C2_,C2_e,C2_g,EL3,EG3,E3,K4,K5,↓S6_r,S6_q,↓S7_r,S7_q,W8_,hks0]
theorem ftx2_x7_1(C1:¬(i_7:Int)<(a0.Rows.length:Int)):
  Leave 0 (exec Tryz.prog (tab (n+7)) 0 50 (livesOf 19) big ftx2_C7) (livesOf 19 (outOf 7)) (ftx2_h7 a0 str_7 i_7) (.exit 0) (ftx2_o7a a0 str_7):=by
 have C1_:¬i_7<a0.Rows.length:=by omega
 unfold Leave
 simp+decide [ftx2_h7,loopsOf, Tryz.f19,ftx2_o7a,ftx2_C7,C1,C1_]
section
variable(K1:run (n+6) 20 [claimV a0,.lit (.int .i64 256)]=some (.lit (.bool r)))(C2:r=true)
include K1 C2
section
variable(C3:a0.Kind=1)(W4:IntKind.u64.wrap (a0.Target)=a0.Target)(K5:(oU fun k=>natA (lmb k)) [.lit (.int .u64 (a0.Target))]=some (natA r2))(K6:run (n+6) 50 [natA r2]=some (.lit (.string r3)))(S7:(⟨#[116,111,112,32]⟩:ByteArray).size+r3.size≤9000000000000000000)(D7:cat=(⟨#[116,111,112,32]⟩:ByteArray)++r3)(L8:loopG Tryz.prog (tab (n+7)) 0 50 (livesOf 19) 7 ftx2_C7 (ftx2_h7 a0 cat 0)=some (.exit 0,ftx2_o7a a0 str_7))(B9a:H a0.Margin≤17179869184)
include C3 W4 K5 K6 S7 D7 L8 B9a
theorem ftx2_f2(C10:¬sgR a0.Margin=0)(K11:run (n+6) 54 [ratV a0.Margin]=some (formV r14))(K12:run (n+6) 43 [formV r14]=some (.lit (.string r15)))(S13:(⟨#[32,109,97,114,103,105,110,32]⟩:ByteArray).size+r15.size≤9000000000000000000)(D13:cat14=(⟨#[32,109,97,114,103,105,110,32]⟩:ByteArray)++r15)(S14:str_7.size+cat14.size≤9000000000000000000)(D14:cat15=str_7++cat14):
  run (n+7) 19 [claimV a0]=some (.lit (.string cat15)):=by
 simp only [claimV] at K1
 have C3_:(a0.Kind==1)=true:=by rw [C3];simp
 have C3_n:(a0.Kind !=1)=false:=by rw [C3];simp
 have S7_r:=cat_r S7 D7
 have S7_q:=cat_q S7 D7
 have K9:=r_sign (p:=a0.Margin) B9a
 have C10_:(sgR a0.Margin==0)=false:=by simpa using C10
 have C10_n:(sgR a0.Margin !=0)=true:=by simpa using C10
 simp only [ratV,formV] at K11
 simp only [formV] at K12
 have S13_r:=cat_r S13 D13
 have S13_q:=cat_q S13 D13
 have S14_r:=cat_r S14 D14
 have S14_q:=cat_q S14 D14
 rw [C2] at K1
 unfold run fnP
 simp+decide [Tryz.f19,K1,C2,C3_,C3_n,W4,K5,K6,↓S7_r,S7_q,K9,C10_,C10_n,K11,K12,↓S13_r,S13_q,↓S14_r,S14_q]
 rw [loopX_G (C':=ftx2_C7) (e:=(ftx2_h7 a0 cat 0)) ?_ ?_,L8]
 rotate_left
 ·kernel_rfl
 ·simp+decide [ftx2_h7,K1,C2,C3_,C3_n,W4,K5,K6,↓S7_r,S7_q,K9,C10_,C10_n,K11,K12,↓S13_r,S13_q,↓S14_r,S14_q]
 simp+decide [ftx2_o7a,K1,C2,C3_,C3_n,W4,K5,K6,↓S7_r,S7_q,K9,C10_,C10_n,K11,K12,↓S13_r,S13_q,↓S14_r,S14_q]
theorem ftx2_f3(C10:sgR a0.Margin=0):
  run (n+7) 19 [claimV a0]=some (.lit (.string str_7)):=by
 simp only [claimV] at K1
 have C3_:(a0.Kind==1)=true:=by rw [C3];simp
 have C3_n:(a0.Kind !=1)=false:=by rw [C3];simp
 have S7_r:=cat_r S7 D7
 have S7_q:=cat_q S7 D7
 have K9:=r_sign (p:=a0.Margin) B9a
 have C10_:(sgR a0.Margin==0)=true:=by rw [C10];simp
 have C10_n:(sgR a0.Margin !=0)=false:=by rw [C10];simp
 rw [C2] at K1
 unfold run fnP
 simp+decide [Tryz.f19,K1,C2,C3_,C3_n,W4,K5,K6,↓S7_r,S7_q,K9,C10_,C10_n]
 rw [loopX_G (C':=ftx2_C7) (e:=(ftx2_h7 a0 cat 0)) ?_ ?_,L8]
 rotate_left
 ·kernel_rfl
 ·simp+decide [ftx2_h7,K1,C2,C3_,C3_n,W4,K5,K6,↓S7_r,S7_q,K9,C10_,C10_n]
 simp+decide [ftx2_o7a,K1,C2,C3_,C3_n,W4,K5,K6,↓S7_r,S7_q,K9,C10_,C10_n]
end
section
variable(C3:¬a0.Kind=1)(L4:loopG Tryz.prog (tab (n+7)) 0 50 (livesOf 19) 7 ftx2_C7 (ftx2_h7 a0 (⟨#[]⟩:ByteArray) 0)=some (.exit 0,ftx2_o7a a0 str_7))(B5a:H a0.Margin≤17179869184)
include C3 L4 B5a
theorem ftx2_f4(C6:¬sgR a0.Margin=0)(K7:run (n+6) 54 [ratV a0.Margin]=some (formV r16))(K8:run (n+6) 43 [formV r16]=some (.lit (.string r17)))(S9:(⟨#[32,109,97,114,103,105,110,32]⟩:ByteArray).size+r17.size≤9000000000000000000)(D9:cat16=(⟨#[32,109,97,114,103,105,110,32]⟩:ByteArray)++r17)(S10:str_7.size+cat16.size≤9000000000000000000)(D10:cat17=str_7++cat16):
  run (n+7) 19 [claimV a0]=some (.lit (.string cat17)):=by
 simp only [claimV] at K1
 have C3_:(a0.Kind==1)=false:=by simpa using C3
 have C3_n:(a0.Kind !=1)=true:=by simpa using C3
 have K5:=r_sign (p:=a0.Margin) B5a
 have C6_:(sgR a0.Margin==0)=false:=by simpa using C6
 have C6_n:(sgR a0.Margin !=0)=true:=by simpa using C6
 simp only [ratV,formV] at K7
 simp only [formV] at K8
 have S9_r:=cat_r S9 D9
 have S9_q:=cat_q S9 D9
 have S10_r:=cat_r S10 D10
 have S10_q:=cat_q S10 D10
 rw [C2] at K1
 unfold run fnP
 simp+decide [Tryz.f19,K1,C2,C3_,C3_n,K5,C6_,C6_n,K7,K8,↓S9_r,S9_q,↓S10_r,S10_q]
 rw [loopX_G (C':=ftx2_C7) (e:=(ftx2_h7 a0 (⟨#[]⟩:ByteArray) 0)) ?_ ?_,L4]
 rotate_left
 ·kernel_rfl
 ·simp+decide [ftx2_h7,K1,C2,C3_,C3_n,K5,C6_,C6_n,K7,K8,↓S9_r,S9_q,↓S10_r,S10_q]
 simp+decide [ftx2_o7a,K1,C2,C3_,C3_n,K5,C6_,C6_n,K7,K8,↓S9_r,S9_q,↓S10_r,S10_q]
theorem ftx2_f5(C6:sgR a0.Margin=0):
  run (n+7) 19 [claimV a0]=some (.lit (.string str_7)):=by
 simp only [claimV] at K1
 have C3_:(a0.Kind==1)=false:=by simpa using C3
 have C3_n:(a0.Kind !=1)=true:=by simpa using C3
 have K5:=r_sign (p:=a0.Margin) B5a
 have C6_:(sgR a0.Margin==0)=true:=by rw [C6];simp
 have C6_n:(sgR a0.Margin !=0)=false:=by rw [C6];simp
 rw [C2] at K1
 unfold run fnP
 simp+decide [Tryz.f19,K1,C2,C3_,C3_n,K5,C6_,C6_n]
 rw [loopX_G (C':=ftx2_C7) (e:=(ftx2_h7 a0 (⟨#[]⟩:ByteArray) 0)) ?_ ?_,L4]
 rotate_left
 ·kernel_rfl
 ·simp+decide [ftx2_h7,K1,C2,C3_,C3_n,K5,C6_,C6_n]
 simp+decide [ftx2_o7a,K1,C2,C3_,C3_n,K5,C6_,C6_n]
end
end
end
theorem fsm_f1{n:Nat}{a0:TClaim}{a1:TClaim}{r:Bool}(C1:a0.Kind=a1.Kind)(C2:a0.Target=a1.Target)(B3a:H a0.Margin≤17179869184)(B3b:H a1.Margin≤17179869184)(C4:a0.Margin=a1.Margin)(K5:run (n+1) 63 [.sl 4 (a0.Rows.map formC),.sl 4 (a1.Rows.map formC)]=some (.lit (.bool r))):
  run (n+2) 22 [claimV a0,claimV a1]=some (.lit (.bool r)):=by
 have C1_:(a0.Kind==a1.Kind)=true:=by rw [C1];simp
 have C1_n:(a0.Kind !=a1.Kind)=false:=by rw [C1];simp
 have C2_:(a0.Target==a1.Target)=true:=by rw [C2];simp
 have C2_n:(a0.Target !=a1.Target)=false:=by rw [C2];simp
 have K3:=r_same (p:=a0.Margin) (q:=a1.Margin) B3a B3b
 have C4_:decide (a0.Margin=a1.Margin)=true:=decide_eq_true C4
 unfold run fnP
 simp+decide [Tryz.f22,C1_,C1_n,C2_,C2_n,K3,C4_,K5]
end
end Go.Proofs.YtnegdhjdienjlaaGreatDoor
