import Derived.Test.YtdaonnnlgfhlaaaGreatDoorGF20
import Derived.Test.YtdaonnnlgfhlaaaGreatDoorGF16
import Derived.Lib.ItoaNum
import Derived.Lib.Repeat
import Derived.Lib.Join
set_option linter.all false
set_option maxHeartbeats 6400000
set_option maxRecDepth 100000
namespace Go.Proofs.YtdaonnnlgfhlaaaGreatDoor
section
open Go.RowKit
def Qo(X:List Rat)(f:Zf):Rat:=f.2+evS X f.1
def ZV(l:List Zf)(f:Zf):List Zf:=if (Zs f).1=[]∧0≤(Zs f).2 then l else if Zs f∈l then l else l++[Zs f]
def Yv(v:Int)(f g:Zf):Zf:=(X7 (Yf f.1 (-cof g.1 v)) (Yf g.1 (cof f.1 v)),f.2*(-cof g.1 v)+g.2*cof f.1 v)
def QM(v:Int)(rows:List Zf):List Zf:=rows.filter fun f=>decide (cof f.1 v=0)
def upL(v:Int)(rows:List Zf):List Zf:=rows.filter fun f=>decide (0<cof f.1 v)
def QP(v:Int)(rows:List Zf):List Zf:=rows.filter fun f=>decide (cof f.1 v<0)
def ZbS(v:Int)(rows:List Zf):List Zf:=QM v rows++(upL v rows).flatMap fun f=>(QP v rows).map (Yv v f)
def Y3(v:Int)(rows:List Zf):List Zf:=(ZbS v rows).foldl ZV []
def Za6(X:List Rat)(l:List Zf):Prop:=∀f∈l,InR X.length f.1∧0≤Qo X f
theorem ZrO{X:List Rat}{l:List Zf}{f:Zf}(h:∀t∈f.1,t.2≠0)(hi:InR X.length f.1):Za6 X (ZV l f)↔Za6 X l∧0≤Qo X f:=by
 have hn:=(ZeZ (k:=X.length) h).2 hi
 obtain ⟨_,hv⟩:=ZpN X f h
 have hv':0≤Qo X (Zs f)↔0≤Qo X f:=by
  unfold Qo
  constructor
  ·intro h1
   false_or_by_contra
   have:=hv.2 (by grind)
   grind
  ·intro h1
   false_or_by_contra
   have:=hv.1 (by grind)
   grind
 unfold ZV
 split
 ·rename_i hc
  have h0:0≤Qo X (Zs f):=by
   unfold Qo
   rw [hc.1]
   show 0≤(Zs f).2+0
   have:=hc.2
   grind
  exact ⟨fun s=>⟨s,hv'.1 h0⟩,fun s=>s.1⟩
 split
 ·rename_i hm
  exact ⟨fun s=>⟨s,hv'.1 (s _ hm).2⟩,fun s=>s.1⟩
 ·constructor
  ·intro s
   exact ⟨fun g hg=>s g (List.mem_append_left _ hg),hv'.1 (s _ (List.mem_append_right _ List.mem_cons_self)).2⟩
  ·rintro ⟨s,h0⟩ g hg
   rcases List.mem_append.1 hg with h1|h1
   ·exact s g h1
   ·rw [List.mem_singleton.1 h1]
    exact ⟨hn,hv'.2 h0⟩
theorem Zgg{X:List Rat}:∀(R l:List Zf),(∀f∈R,(∀t∈f.1,t.2≠0)∧InR X.length f.1)→(Za6 X (R.foldl ZV l)↔Za6 X l∧∀f∈R,0≤Qo X f)
 | [],l,_=>⟨fun s=>⟨s,fun f hf=>(by cases hf)⟩,fun s=>s.1⟩
 | f::R,l,h=>by
   have h1:=h f List.mem_cons_self
   rw [List.foldl_cons,Zgg R _ fun g hg=>h g (List.mem_cons_of_mem _ hg),ZrO h1.1 h1.2]
   constructor
   ·rintro ⟨⟨a,b⟩,c⟩
    exact ⟨a,fun g hg=>by
     rcases List.mem_cons.1 hg with rfl|hg
     ·exact b
     ·exact c g hg⟩
   ·rintro ⟨a,b⟩
    exact ⟨⟨a,b f List.mem_cons_self⟩,fun g hg=>b g (List.mem_cons_of_mem _ hg)⟩
theorem WM{v:Int}{f g:Zf}(hf:Srt f.1)(hg:Srt g.1):Srt (Yv v f g).1∧∀u,cof (Yv v f g).1 u=cof f.1 u*(-cof g.1 v)+cof g.1 u*cof f.1 v:=by
 obtain ⟨a1,a2⟩:=YH (c:=-cof g.1 v) hf
 obtain ⟨b1,b2⟩:=YH (c:=cof f.1 v) hg
 obtain ⟨c1,c2⟩:=Za3 a1 b1
 exact ⟨c1,fun u=>by
  have:=c2 u
  rw [a2,b2] at this
  exact this⟩
theorem ZgH{X:List Rat}{v:Int}{f g:Zf}(hf:Srt f.1)(hg:Srt g.1):Qo X (Yv v f g)=Qo X f*(-cof g.1 v)+Qo X g*cof f.1 v:=by
 unfold Qo Yv
 dsimp only
 rw [Zim (YH hf).1 (YH hg).1,ZbY,ZbY]
 grind
theorem Zjz{k:Nat}{v:Int}{f g:Zf}(hf:InR k f.1)(hg:InR k g.1):InR k (Yv v f g).1:=InR.add hf.scl hg.scl
theorem ZgV{X:List Rat}{v:Int}{rows:List Zf}(h:∀f∈rows,Srt f.1∧InR X.length f.1):
  Za6 X (Y3 v rows)↔(∀f∈rows,cof f.1 v=0→0≤Qo X f)∧∀f∈rows,∀g∈rows,0<cof f.1 v→cof g.1 v<0→0≤Qo X f*(-cof g.1 v)+Qo X g*cof f.1 v:=by
 unfold Y3
 rw [Zgg]
 ·constructor
  ·rintro ⟨_,a⟩
   refine ⟨fun f hf h0=>a f (List.mem_append_left _ (List.mem_filter.2 ⟨hf,decide_eq_true h0⟩)),fun f hf g hg h1 h2=>?_⟩
   rw [←ZgH (h f hf).1 (h g hg).1]
   exact a _ (List.mem_append_right _ (List.mem_flatMap.2 ⟨f,List.mem_filter.2 ⟨hf,decide_eq_true h1⟩,List.mem_map.2 ⟨g,List.mem_filter.2 ⟨hg,decide_eq_true h2⟩,rfl⟩⟩))
  ·rintro ⟨a,b⟩
   refine ⟨fun f hf=>(by cases hf),fun e he=>?_⟩
   rcases List.mem_append.1 he with h1|h1
   ·obtain ⟨h2,h3⟩:=List.mem_filter.1 h1
    exact a e h2 (of_decide_eq_true h3)
   ·obtain ⟨f,h2,h3⟩:=List.mem_flatMap.1 h1
    obtain ⟨g,h4,rfl⟩:=List.mem_map.1 h3
    obtain ⟨hf,hf1⟩:=List.mem_filter.1 h2
    obtain ⟨hg,hg1⟩:=List.mem_filter.1 h4
    rw [ZgH (h f hf).1 (h g hg).1]
    exact b f hf g hg (of_decide_eq_true hf1) (of_decide_eq_true hg1)
 ·intro e he
  rcases List.mem_append.1 he with h1|h1
  ·have h2:=h e (List.mem_filter.1 h1).1
   exact ⟨h2.1.2,h2.2⟩
  ·obtain ⟨f,h2,h3⟩:=List.mem_flatMap.1 h1
   obtain ⟨g,h4,rfl⟩:=List.mem_map.1 h3
   have hf:=h f (List.mem_filter.1 h2).1
   have hg:=h g (List.mem_filter.1 h4).1
   exact ⟨(WM hf.1 hg.1).1.2,Zjz hf.2 hg.2⟩
theorem ZiN{X:List Rat}{v:Nat}(hv:v<X.length):∀{F:List (Int × Rat)},Srt F→(∀t∈F,0≤t.1)→evS (X.set v 0) F=evS X F-cof F (v:Int)*X.getD v 0
 | [],_,_=>by rw [evS,evS,Qg];grind
 | t::F,h,h0=>by
   have ht:=h0 t List.mem_cons_self
   have ih:=ZiN hv h.tail fun u hu=>h0 u (List.mem_cons_of_mem _ hu)
   rw [evS,evS,ih]
   by_cases e:t.1=(v:Int)
   ·have hc:cof F (v:Int)=0:=Va fun u hu=>by
     have:=h.head u hu
     omega
    have e2:t.1.toNat=v:=by omega
    rw [Y7 e.symm,hc,e2]
    have e3:(X.set v 0).getD v 0=0:=by simp [List.getD,hv]
    rw [e3]
    grind
   ·rw [QH (fun x=>e x.symm)]
    have e3:(X.set v 0).getD t.1.toNat 0=X.getD t.1.toNat 0:=by
     simp only [List.getD]
     rw [List.getElem?_set_ne (by omega)]
    rw [e3]
    grind
end
section
open Go.RowKit
def Zcr(X:List Rat)(v:Nat)(f:Zf):Rat:=Qo (X.set v 0) f
def bdX(X:List Rat)(v:Nat)(f:Zf):Rat:=-Zcr X v f / cof f.1 (v:Int)
structure BdI (X:List Rat) (v:Nat) (P:List Zf) (ok low high:Bool) (lo hi:Rat):Prop where
 okI:ok=true↔∀f∈P,cof f.1 (v:Int)=0→0≤Zcr X v f
 lowI:low=true↔∃f∈P,0<cof f.1 (v:Int)
 highI:high=true↔∃f∈P,cof f.1 (v:Int)<0
 loI:low=true→(∃f∈P,0<cof f.1 (v:Int)∧lo=bdX X v f)∧∀f∈P,0<cof f.1 (v:Int)→bdX X v f≤lo
 hiI:high=true→(∃f∈P,cof f.1 (v:Int)<0∧hi=bdX X v f)∧∀f∈P,cof f.1 (v:Int)<0→hi≤bdX X v f
theorem BdI.nil(X:List Rat)(v:Nat)(lo hi:Rat):BdI X v [] true false false lo hi:=
 ⟨by simp,by simp,by simp,fun h=>(by cases h),fun h=>(by cases h)⟩
theorem ZJ{P:List Zf}{f g:Zf}:g∈P++[f]↔g∈P∨g=f:=by simp
theorem BdI.zero{X:List Rat}{v:Nat}{P:List Zf}{ok low high:Bool}{lo hi:Rat}{f:Zf}(I:BdI X v P ok low high lo hi)(h:cof f.1 (v:Int)=0):BdI X v (P++[f]) (ok && decide (0≤Zcr X v f)) low high lo hi where
 okI:=by
  rw [Bool.and_eq_true,I.okI,decide_eq_true_iff]
  constructor
  ·rintro ⟨a,b⟩ g hg h0
   rcases ZJ.1 hg with h1|rfl
   ·exact a g h1 h0
   ·exact b
  ·intro a
   exact ⟨fun g hg=>a g (ZJ.2 (.inl hg)),a f (ZJ.2 (.inr rfl)) h⟩
 lowI:=by
  rw [I.lowI]
  constructor
  ·rintro ⟨g,hg,h1⟩;exact ⟨g,ZJ.2 (.inl hg),h1⟩
  ·rintro ⟨g,hg,h1⟩
   rcases ZJ.1 hg with h2|rfl
   ·exact ⟨g,h2,h1⟩
   ·rw [h] at h1;exact absurd h1 (by decide)
 highI:=by
  rw [I.highI]
  constructor
  ·rintro ⟨g,hg,h1⟩;exact ⟨g,ZJ.2 (.inl hg),h1⟩
  ·rintro ⟨g,hg,h1⟩
   rcases ZJ.1 hg with h2|rfl
   ·exact ⟨g,h2,h1⟩
   ·rw [h] at h1;exact absurd h1 (by decide)
 loI:=fun hl=>by
  obtain ⟨⟨g,hg,h1⟩,a⟩:=I.loI hl
  refine ⟨⟨g,ZJ.2 (.inl hg),h1⟩,fun g hg h2=>?_⟩
  rcases ZJ.1 hg with h3|rfl
  ·exact a g h3 h2
  ·rw [h] at h2;exact absurd h2 (by decide)
 hiI:=fun hl=>by
  obtain ⟨⟨g,hg,h1⟩,a⟩:=I.hiI hl
  refine ⟨⟨g,ZJ.2 (.inl hg),h1⟩,fun g hg h2=>?_⟩
  rcases ZJ.1 hg with h3|rfl
  ·exact a g h3 h2
  ·rw [h] at h2;exact absurd h2 (by decide)
theorem BdI.up{X:List Rat}{v:Nat}{P:List Zf}{ok low high:Bool}{lo hi lo2:Rat}{f:Zf}(I:BdI X v P ok low high lo hi)(h:0<cof f.1 (v:Int))(h2:(low=false∨lo<bdX X v f)∧lo2=bdX X v f∨low=true∧bdX X v f≤lo∧lo2=lo):BdI X v (P++[f]) ok true high lo2 hi where
 okI:=by
  rw [I.okI]
  constructor
  ·intro a g hg h0
   rcases ZJ.1 hg with h1|rfl
   ·exact a g h1 h0
   ·rw [h0] at h;exact absurd h (by decide)
  ·intro a g hg
   exact a g (ZJ.2 (.inl hg))
 lowI:=⟨fun _=>⟨f,ZJ.2 (.inr rfl),h⟩,fun _=>rfl⟩
 highI:=by
  rw [I.highI]
  constructor
  ·rintro ⟨g,hg,h1⟩;exact ⟨g,ZJ.2 (.inl hg),h1⟩
  ·rintro ⟨g,hg,h1⟩
   rcases ZJ.1 hg with h3|rfl
   ·exact ⟨g,h3,h1⟩
   ·grind
 loI:=fun _=>by
  rcases h2 with ⟨h3,rfl⟩|⟨hl,h3,rfl⟩
  ·refine ⟨⟨f,ZJ.2 (.inr rfl),h,rfl⟩,fun g hg h4=>?_⟩
   rcases ZJ.1 hg with h5|rfl
   ·have hl:low=true:=I.lowI.2 ⟨g,h5,h4⟩
    have:=(I.loI hl).2 g h5 h4
    rcases h3 with h3|h3
    ·rw [hl] at h3;cases h3
    ·grind
   ·exact Rat.le_refl
  ·obtain ⟨⟨g,hg,h1⟩,a⟩:=I.loI hl
   refine ⟨⟨g,ZJ.2 (.inl hg),h1⟩,fun g hg h4=>?_⟩
   rcases ZJ.1 hg with h5|rfl
   ·exact a g h5 h4
   ·exact h3
 hiI:=fun hl=>by
  obtain ⟨⟨g,hg,h1⟩,a⟩:=I.hiI hl
  refine ⟨⟨g,ZJ.2 (.inl hg),h1⟩,fun g hg h4=>?_⟩
  rcases ZJ.1 hg with h5|rfl
  ·exact a g h5 h4
  ·grind
theorem BdI.down{X:List Rat}{v:Nat}{P:List Zf}{ok low high:Bool}{lo hi hi2:Rat}{f:Zf}(I:BdI X v P ok low high lo hi)(h:cof f.1 (v:Int)<0)(h2:(high=false∨bdX X v f<hi)∧hi2=bdX X v f∨high=true∧hi≤bdX X v f∧hi2=hi):BdI X v (P++[f]) ok low true lo hi2 where
 okI:=by
  rw [I.okI]
  constructor
  ·intro a g hg h0
   rcases ZJ.1 hg with h1|rfl
   ·exact a g h1 h0
   ·rw [h0] at h;exact absurd h (by decide)
  ·intro a g hg
   exact a g (ZJ.2 (.inl hg))
 highI:=⟨fun _=>⟨f,ZJ.2 (.inr rfl),h⟩,fun _=>rfl⟩
 lowI:=by
  rw [I.lowI]
  constructor
  ·rintro ⟨g,hg,h1⟩;exact ⟨g,ZJ.2 (.inl hg),h1⟩
  ·rintro ⟨g,hg,h1⟩
   rcases ZJ.1 hg with h3|rfl
   ·exact ⟨g,h3,h1⟩
   ·grind
 hiI:=fun _=>by
  rcases h2 with ⟨h3,rfl⟩|⟨hl,h3,rfl⟩
  ·refine ⟨⟨f,ZJ.2 (.inr rfl),h,rfl⟩,fun g hg h4=>?_⟩
   rcases ZJ.1 hg with h5|rfl
   ·have hl:high=true:=I.highI.2 ⟨g,h5,h4⟩
    have:=(I.hiI hl).2 g h5 h4
    rcases h3 with h3|h3
    ·rw [hl] at h3;cases h3
    ·grind
   ·exact Rat.le_refl
  ·obtain ⟨⟨g,hg,h1⟩,a⟩:=I.hiI hl
   refine ⟨⟨g,ZJ.2 (.inl hg),h1⟩,fun g hg h4=>?_⟩
   rcases ZJ.1 hg with h5|rfl
   ·exact a g h5 h4
   ·exact h3
 loI:=fun hl=>by
  obtain ⟨⟨g,hg,h1⟩,a⟩:=I.loI hl
  refine ⟨⟨g,ZJ.2 (.inl hg),h1⟩,fun g hg h4=>?_⟩
  rcases ZJ.1 hg with h5|rfl
  ·exact a g h5 h4
  ·grind
theorem ZsV{a b r s:Rat}(ha:0<a)(hb:b<0):(-r / a≤-s / b↔0≤r*(-b)+s*a):=by
 have h1:-r / a*a=-r:=Rat.div_mul_cancel (by grind)
 have h2:-s / b*b=-s:=Rat.div_mul_cancel (by grind)
 generalize -r / a=x at h1
 generalize -s / b=y at h2
 have e:r*(-b)+s*a=(y-x)*(a*(-b)):=by
  have hr:r=-(x*a):=by grind
  have hs:s=-(y*b):=by grind
  rw [hr,hs]
  grind
 have hp:0<a*(-b):=Rat.mul_pos ha (by grind)
 rw [e]
 constructor
 ·intro h
  exact Rat.mul_nonneg (by grind) (by grind)
 ·intro h
  false_or_by_contra
  have:=Rat.mul_pos (show 0<x-y by grind) hp
  grind
theorem Zg5{X:List Rat}{v:Nat}{f:Zf}(hv:v<X.length)(hs:Srt f.1)(hi:InR X.length f.1):Zcr X v f=Qo X f-cof f.1 (v:Int)*X.getD v 0:=by
 unfold Zcr Qo
 rw [ZiN hv hs fun t ht=>(hi t ht).1]
 grind
theorem ZmQ{X:List Rat}{v:Nat}{rows:List Zf}{ok low high:Bool}{lo hi:Rat}(hv:v<X.length)(h:∀f∈rows,Srt f.1∧InR X.length f.1)(I:BdI X v rows ok low high lo hi):
  Za6 X (Y3 (v:Int) rows)↔ok=true∧(low=false∨high=false∨lo≤hi):=by
 rw [ZgV h]
 have hr:∀f∈rows,Zcr X v f=Qo X f-cof f.1 (v:Int)*X.getD v 0:=fun f hf=>Zg5 hv (h f hf).1 (h f hf).2
 have hpair:∀f∈rows,∀g∈rows,0<cof f.1 (v:Int)→cof g.1 (v:Int)<0→(bdX X v f≤bdX X v g↔0≤Qo X f*(-cof g.1 (v:Int))+Qo X g*cof f.1 (v:Int)):=fun f hf g hg h1 h2=>by
  unfold bdX
  rw [ZsV h1 h2,hr f hf,hr g hg]
  have e:(Qo X f-cof f.1 (v:Int)*X.getD v 0)*(-cof g.1 (v:Int))+(Qo X g-cof g.1 (v:Int)*X.getD v 0)*cof f.1 (v:Int)=Qo X f*(-cof g.1 (v:Int))+Qo X g*cof f.1 (v:Int):=by grind
  rw [e]
 constructor
 ·rintro ⟨a,b⟩
  refine ⟨I.okI.2 fun f hf h0=>?_,?_⟩
  ·have:=a f hf h0
   rw [hr f hf,h0]
   grind
  ·cases hl:low with
   | false=>exact .inl rfl
   | true=>
     cases hh:high with
     | false=>exact .inr (.inl rfl)
     | true=>
       refine .inr (.inr ?_)
       obtain ⟨⟨f,hf,f1,rfl⟩,_⟩:=I.loI hl
       obtain ⟨⟨g,hg,g1,rfl⟩,_⟩:=I.hiI hh
       exact (hpair f hf g hg f1 g1).2 (b f hf g hg f1 g1)
 ·rintro ⟨a,b⟩
  refine ⟨fun f hf h0=>?_,fun f hf g hg h1 h2=>?_⟩
  ·have:=I.okI.1 a f hf h0
   rw [hr f hf,h0] at this
   grind
  ·have hl:low=true:=I.lowI.2 ⟨f,hf,h1⟩
   have hh:high=true:=I.highI.2 ⟨g,hg,h2⟩
   rcases b with b|b|b
   ·rw [hl] at b;cases b
   ·rw [hh] at b;cases b
   ·have c1:=(I.loI hl).2 f hf h1
    have c2:=(I.hiI hh).2 g hg h2
    exact (hpair f hf g hg h1 h2).1 (by grind)
end
section
open Go.RowKit
def WR{α:Type}[DecidableEq α](l:List α)(x:α):List α:=if x∈l then l else l++[x]
section
variable {α β : Type} [DecidableEq α] [DecidableEq β]
theorem Zp0{l:List α}{x y:α}:y∈WR l x↔y∈l∨y=x:=by
 unfold WR
 split
 ·rename_i h
  exact ⟨.inl,fun h2=>h2.elim id fun e=>e▸h⟩
 ·simp
theorem JZ:∀{E l:List α} {y:α},y∈E.foldl WR l↔y∈l∨y∈E
 | [],l,y=>by simp
 | x::E,l,y=>by
   rw [List.foldl_cons,JZ,Zp0,List.mem_cons]
   constructor
   ·rintro ((h|h)|h)
    ·exact .inl h
    ·exact .inr (.inl h)
    ·exact .inr (.inr h)
   ·rintro (h|h|h)
    ·exact .inl (.inl h)
    ·exact .inl (.inr h)
    ·exact .inr h
theorem Zgv:∀{E l:List α},(∀x∈E,x∈l)→E.foldl WR l=l
 | [],_,_=>rfl
 | x::E,l,h=>by
   have e:WR l x=l:=if_pos (h x List.mem_cons_self)
   rw [List.foldl_cons,e,Zgv fun y hy=>h y (List.mem_cons_of_mem _ hy)]
def ddF(E:List α):List α:=E.foldl WR []
theorem Zjv{E:List α}{y:α}:y∈ddF E↔y∈E:=by
 unfold ddF
 rw [JZ]
 simp
theorem Zdd(E:List α)(x:α):ddF (E++[x])=if x∈ddF E then ddF E else ddF E++[x]:=by
 unfold ddF
 rw [List.foldl_append]
 rfl
theorem Zes(k:α→List β)(l:List β)(E:List α):(E.flatMap k).foldl WR l=((ddF E).flatMap k).foldl WR l:=by
 have key:∀R:List α,(R.reverse.flatMap k).foldl WR l=((ddF R.reverse).flatMap k).foldl WR l:=fun R=>by
  induction R with
  | nil=>rfl
  | cons x R ih=>
    rw [List.reverse_cons,Zdd,List.flatMap_append,List.foldl_append,ih]
    split
    ·rename_i h
     refine Zgv fun y hy=>JZ.2 (.inr ?_)
     have e:[x].flatMap k=k x:=by simp
     rw [e] at hy
     exact List.mem_flatMap.2 ⟨x,h,hy⟩
    ·rw [List.flatMap_append,List.foldl_append]
 have:=key E.reverse
 rw [List.reverse_reverse] at this
 exact this
theorem ZcI(k h:α→List β)(hk:∀x l,(k x).foldl WR l=(h x).foldl WR l):∀(E:List α) (l:List β),(E.flatMap k).foldl WR l=(E.flatMap h).foldl WR l
 | [],_=>rfl
 | x::E,l=>by
   rw [List.flatMap_cons,List.flatMap_cons,List.foldl_append,List.foldl_append,hk,ZcI k h hk E]
end
def WW(n:Zf):Bool:=decide (n.1=[]∧0≤n.2)
theorem Zky(l:List Zf)(f:Zf):ZV l f=if WW (Zs f)=true then l else WR l (Zs f):=by
 unfold ZV WW WR
 by_cases h:(Zs f).1=[]∧0≤(Zs f).2
 ·rw [if_pos h,if_pos (decide_eq_true h)]
 ·rw [if_neg h,decide_eq_false h,if_neg Bool.false_ne_true]
  by_cases hm:Zs f∈l
  ·rw [if_pos hm,if_pos hm]
  ·rw [if_neg hm,if_neg hm]
def nrm(R:List Zf):List Zf:=(R.map Zs).filter fun n=>!WW n
theorem WI:∀(R l:List Zf),R.foldl ZV l=(nrm R).foldl WR l
 | [],_=>rfl
 | f::R,l=>by
   rw [List.foldl_cons,Zky,WI R]
   unfold nrm
   rw [List.map_cons]
   by_cases h:WW (Zs f)=true
   ·rw [if_pos h,List.filter_cons_of_neg (by simp [h])]
   ·rw [if_neg h,List.filter_cons_of_pos (by simpa using h)]
    rfl
theorem Zsz{q c:Rat}(hc:0<c):sgQ (q*c)=sgQ q:=by
 obtain ⟨a,b⟩:=Zet (x:=q) hc
 unfold sgQ
 by_cases h1:0<q
 ·rw [if_pos h1,if_pos (a.2 h1)]
 ·rw [if_neg h1,if_neg fun h=>h1 (a.1 h)]
  by_cases h2:q<0
  ·rw [if_pos h2,if_pos (b.2 h2)]
  ·rw [if_neg h2,if_neg fun h=>h2 (b.1 h)]
theorem ZmF{q c:Rat}(hc:0<c):Qt (q*c)=Qt q*c:=by
 obtain ⟨a,b⟩:=Zet (x:=q) hc
 unfold Qt
 by_cases h2:q<0
 ·rw [if_pos h2,if_pos (b.2 h2)];grind
 ·rw [if_neg h2,if_neg fun h=>h2 (b.1 h)]
def Za5(f:Zf)(c:Rat):Zf:=(Yf f.1 c,f.2*c)
theorem ZrJ{F:List (Int × Rat)}{c d:Rat}(h:Srt F):Yf (Yf F c) d=Yf F (c*d):=by
 obtain ⟨a1,a2⟩:=YH (c:=c) h
 obtain ⟨b1,b2⟩:=YH (c:=d) a1
 obtain ⟨c1,c2⟩:=YH (c:=c*d) h
 exact ZaG b1 c1 fun u=>by rw [b2,a2,c2];grind
theorem ZfY{f:Zf}{c:Rat}(hf:Srt f.1)(hc:0<c):Zs (Za5 f c)=Zs f:=by
 obtain ⟨F,q⟩:=f
 cases F with
 | nil=>
   show (([]:List (Int × Rat)),sgQ (q*c))=([],sgQ q)
   rw [Zsz hc]
 | cons t F=>
   have hne:=hf.2
   have h1:Yf (t::F) c=(t.1,t.2*c)::Yf F c:=by
    have e:Yf (t::F) c=Z4 t.1 (t.2*c)++Yf F c:=rfl
    rw [e,ZhR fun h0=>by
     rcases Rat.mul_eq_zero.1 h0 with h3|h3
     ·exact hne t List.mem_cons_self h3
     ·rw [h3] at hc;exact absurd hc (by decide)]
    rfl
   have e1:Zs (Za5 (t::F,q) c)=(Yf (Yf (t::F) c) (1 / Qt (t.2*c)),q*c*(1 / Qt (t.2*c))):=by
    unfold Za5 Zs
    rw [h1]
   have e2:Zs (t::F,q)=(Yf (t::F) (1 / Qt t.2),q*(1 / Qt t.2)):=rfl
   have ha:=WB (hne t List.mem_cons_self)
   have e3:c*(1 / Qt (t.2*c))=1 / Qt t.2:=by
    rw [ZmF hc]
    generalize Qt t.2=a at ha
    have k1:1 / (a*c)*(a*c)=1:=Rat.div_mul_cancel (by
     intro h0
     rcases Rat.mul_eq_zero.1 h0 with h3|h3 <;>grind)
    have k2:1 / a*a=1:=Rat.div_mul_cancel (by grind)
    generalize 1 / (a*c)=x at k1
    generalize 1 / a=y at k2
    grind
   rw [e1,e2,ZrJ hf,e3,Rat.mul_assoc,e3]
theorem KM{f:Zf}(hf:Srt f.1)(hn:f.1≠[]):∃c,0<c∧Zs f=Za5 f c:=by
 obtain ⟨F,q⟩:=f
 cases F with
 | nil=>exact absurd rfl hn
 | cons t F=>exact ⟨1 / Qt t.2,Zah (WB (hf.2 t List.mem_cons_self)),rfl⟩
theorem ZoC{v:Int}{f g:Zf}{c d:Rat}(hf:Srt f.1)(hg:Srt g.1):Yv v (Za5 f c) (Za5 g d)=Za5 (Yv v f g) (c*d):=by
 have f1:=YH (c:=c) hf
 have g1:=YH (c:=d) hg
 obtain ⟨a1,a2⟩:=WM (v:=v) (f:=Za5 f c) (g:=Za5 g d) f1.1 g1.1
 obtain ⟨b1,b2⟩:=WM (v:=v) hf hg
 obtain ⟨c1,c2⟩:=YH (c:=c*d) b1
 have e1:(Yv v (Za5 f c) (Za5 g d)).1=Yf (Yv v f g).1 (c*d):=ZaG a1 c1 fun u=>by
  rw [a2,c2,b2]
  show cof (Yf f.1 c) u*(-cof (Yf g.1 d) v)+cof (Yf g.1 d) u*cof (Yf f.1 c) v=_
  rw [f1.2,f1.2,g1.2,g1.2]
  grind
 have e2:(Yv v (Za5 f c) (Za5 g d)).2=(Yv v f g).2*(c*d):=by
  show f.2*c*(-cof (Yf g.1 d) v)+g.2*d*cof (Yf f.1 c) v=(f.2*(-cof g.1 v)+g.2*cof f.1 v)*(c*d)
  rw [f1.2,g1.2]
  grind
 exact Prod.ext e1 e2
end
section
open Go.RowKit
def nz(f:Zf):List Zf:=if WW (Zs f)=true then [] else [Zs f]
def kz(v:Int)(f:Zf):List Zf:=if cof f.1 v=0 then nz f else []
def kp(v:Int)(f g:Zf):List Zf:=if 0<cof f.1 v∧cof g.1 v<0 then nz (Yv v f g) else []
theorem Ub(f:Zf)(R:List Zf):nrm (f::R)=nz f++nrm R:=by
 unfold nrm nz
 rw [List.map_cons]
 by_cases h:WW (Zs f)=true
 ·rw [if_pos h,List.filter_cons_of_neg (by simp [h])];rfl
 ·rw [if_neg h,List.filter_cons_of_pos (by simpa using h)];rfl
theorem Zju(R Q:List Zf):nrm (R++Q)=nrm R++nrm Q:=by
 unfold nrm
 rw [List.map_append,List.filter_append]
theorem Zbz{v:Int}{f:Zf}{R:List Zf}(h:cof f.1 v=0):QM v (f::R)=f::QM v R:=by unfold QM;simp [h]
theorem KR{v:Int}{f:Zf}{R:List Zf}(h:¬cof f.1 v=0):QM v (f::R)=QM v R:=by unfold QM;simp [h]
theorem ZeD{v:Int}{f:Zf}{R:List Zf}(h:0<cof f.1 v):upL v (f::R)=f::upL v R:=by unfold upL;simp [h]
theorem ZaF{v:Int}{f:Zf}{R:List Zf}(h:¬0<cof f.1 v):upL v (f::R)=upL v R:=by unfold upL;rw [List.filter_cons,if_neg (by rw [decide_eq_true_iff];exact h)]
theorem ZbA{v:Int}{f:Zf}{R:List Zf}(h:cof f.1 v<0):QP v (f::R)=f::QP v R:=by unfold QP;simp [h]
theorem V9{v:Int}{f:Zf}{R:List Zf}(h:¬cof f.1 v<0):QP v (f::R)=QP v R:=by unfold QP;rw [List.filter_cons,if_neg (by rw [decide_eq_true_iff];exact h)]
theorem Zf2(v:Int):∀R:List Zf,nrm (QM v R)=R.flatMap (kz v)
 | []=>rfl
 | f::R=>by
   have ih:=Zf2 v R
   rw [List.flatMap_cons]
   by_cases h:cof f.1 v=0
   ·have e:kz v f=nz f:=if_pos h
    rw [Zbz h,Ub,ih,e]
   ·have e:kz v f=[]:=if_neg h
    rw [KR h,ih,e];rfl
theorem Zge(v:Int)(f:Zf)(hf:0<cof f.1 v):∀R:List Zf,nrm ((QP v R).map (Yv v f))=R.flatMap (kp v f)
 | []=>rfl
 | g::R=>by
   have ih:=Zge v f hf R
   rw [List.flatMap_cons]
   by_cases h:cof g.1 v<0
   ·have e:kp v f g=nz (Yv v f g):=if_pos ⟨hf,h⟩
    rw [ZbA h,List.map_cons,Ub,ih,e]
   ·have e:kp v f g=[]:=if_neg fun x=>h x.2
    rw [V9 h,ih,e];rfl
theorem ZeG{v:Int}{f:Zf}(hf:¬0<cof f.1 v):∀R:List Zf,R.flatMap (kp v f)=[]
 | []=>rfl
 | g::R=>by
   have e:kp v f g=[]:=if_neg fun x=>hf x.1
   rw [List.flatMap_cons,ZeG hf R,e]
   rfl
theorem ZdT(v:Int)(Q:List Zf):∀R:List Zf,nrm ((upL v R).flatMap fun f=>(QP v Q).map (Yv v f))=R.flatMap fun f=>Q.flatMap (kp v f)
 | []=>rfl
 | f::R=>by
   have ih:=ZdT v Q R
   rw [List.flatMap_cons]
   by_cases h:0<cof f.1 v
   ·rw [ZeD h,List.flatMap_cons,Zju,ih,Zge v f h Q]
   ·rw [ZaF h,ih,ZeG h Q];rfl
theorem Zjf(v:Int)(R:List Zf):Y3 v R=(R.flatMap (kz v)++R.flatMap fun f=>R.flatMap (kp v f)).foldl WR []:=by
 unfold Y3 ZbS
 rw [WI,Zju,Zf2,ZdT]
theorem Kl{f:Zf}(h:f.1=[]):Zs f=([],sgQ f.2):=by
 obtain ⟨F,q⟩:=f
 dsimp only at h
 subst h
 rfl
theorem Zs6(q:Rat):sgQ (sgQ q)=sgQ q:=by
 unfold sgQ
 by_cases h1:0<q
 ·rw [if_pos h1];rfl
 ·by_cases h2:q<0
  ·rw [if_neg h1,if_pos h2];rfl
  ·rw [if_neg h1,if_neg h2];rfl
theorem KL{f:Zf}(hf:Srt f.1):Zs (Zs f)=Zs f:=by
 by_cases h:f.1=[]
 ·rw [Kl h,Kl rfl,Zs6]
 ·obtain ⟨c,hc,e⟩:=KM hf h
  rw [e,ZfY hf hc,e]
theorem Vv{f:Zf}(hf:Srt f.1):Srt (Zs f).1:=by
 by_cases h:f.1=[]
 ·rw [Kl h];exact Srt.nil
 ·obtain ⟨c,hc,e⟩:=KM hf h
  rw [e]
  exact (YH hf).1
theorem Un{f:Zf}(hf:Srt f.1)(v:Int):(0<cof (Zs f).1 v↔0<cof f.1 v)∧(cof (Zs f).1 v<0↔cof f.1 v<0)∧(cof (Zs f).1 v=0↔cof f.1 v=0):=by
 by_cases h:f.1=[]
 ·rw [Kl h,h]
  simp
 ·obtain ⟨c,hc,e⟩:=KM hf h
  have e2:cof (Zs f).1 v=cof f.1 v*c:=by rw [e];exact (YH hf).2 v
  obtain ⟨a,b⟩:=Zet (x:=cof f.1 v) hc
  rw [e2]
  refine ⟨a,b,?_⟩
  constructor
  ·intro h0
   rw [h0] at a b
   false_or_by_contra
   have h1:¬0<cof f.1 v:=fun x=>absurd (a.2 x) (by decide)
   have h2:¬cof f.1 v<0:=fun x=>absurd (b.2 x) (by decide)
   grind
  ·intro h0;rw [h0];grind
theorem Zs8{v:Int}{f:Zf}(hf:Srt f.1):kz v (Zs f)=kz v f:=by
 unfold kz nz
 rw [KL hf]
 by_cases h:cof f.1 v=0
 ·rw [if_pos h,if_pos ((Un hf v).2.2.2 h)]
 ·rw [if_neg h,if_neg fun x=>h ((Un hf v).2.2.1 x)]
theorem Zat{v:Int}{f g:Zf}(hf:Srt f.1)(hg:Srt g.1):kp v (Zs f) (Zs g)=kp v f g:=by
 obtain ⟨f1,f2,f3⟩:=Un hf v
 obtain ⟨g1,g2,g3⟩:=Un hg v
 unfold kp
 by_cases h:0<cof f.1 v∧cof g.1 v<0
 ·rw [if_pos h,if_pos ⟨f1.2 h.1,g2.2 h.2⟩]
  have hfn:f.1≠[]:=fun e=>by
   have:=h.1
   rw [e,Qg] at this
   exact absurd this (by decide)
  have hgn:g.1≠[]:=fun e=>by
   have:=h.2
   rw [e,Qg] at this
   exact absurd this (by decide)
  obtain ⟨c,hc,ec⟩:=KM hf hfn
  obtain ⟨d,hd,ed⟩:=KM hg hgn
  unfold nz
  rw [ec,ed,ZoC hf hg,ZfY (WM hf hg).1 (Rat.mul_pos hc hd)]
 ·rw [if_neg h,if_neg fun x=>h ⟨f1.1 x.1,g2.1 x.2⟩]
theorem ZfN{f:Zf}(hf:Srt f.1)(h:WW (Zs f)=true):f.1=[]:=by
 false_or_by_contra
 rename_i hn
 have h1:=(of_decide_eq_true h).1
 obtain ⟨c,hc,e⟩:=KM hf hn
 obtain ⟨F,q⟩:=f
 cases F with
 | nil=>exact hn rfl
 | cons t F=>
   rw [e] at h1
   have e2:(Za5 (t::F,q) c).1=Z4 t.1 (t.2*c)++Yf F c:=rfl
   rw [e2,ZhR fun h0=>by
    rcases Rat.mul_eq_zero.1 h0 with h3|h3
    ·exact hf.2 t List.mem_cons_self h3
    ·rw [h3] at hc;exact absurd hc (by decide)] at h1
   cases h1
theorem ZnA(v:Int):∀R:List Zf,(∀f∈R,Srt f.1)→(nrm R).flatMap (kz v)=R.flatMap (kz v)
 | [],_=>rfl
 | f::R,h=>by
   have hf:=h f List.mem_cons_self
   rw [Ub,List.flatMap_append,ZnA v R fun g hg=>h g (List.mem_cons_of_mem _ hg),List.flatMap_cons]
   congr 1
   by_cases ht:WW (Zs f)=true
   ·have e:nz f=[]:=if_pos ht
    rw [e]
    unfold kz
    rw [e]
    split <;>rfl
   ·have e:nz f=[Zs f]:=if_neg ht
    rw [e,List.flatMap_cons,List.flatMap_nil,List.append_nil,Zs8 hf]
theorem ZfF(k:Zf→List Zf):∀R:List Zf,(∀f∈R,Srt f.1∧(f.1=[]→k f=[])∧k (Zs f)=k f)→(nrm R).flatMap k=R.flatMap k
 | [],_=>rfl
 | f::R,h=>by
   obtain ⟨hf,h0,h1⟩:=h f List.mem_cons_self
   rw [Ub,List.flatMap_append,ZfF k R fun g hg=>h g (List.mem_cons_of_mem _ hg),List.flatMap_cons]
   congr 1
   by_cases ht:WW (Zs f)=true
   ·have e:nz f=[]:=if_pos ht
    rw [e,h0 (ZfN hf ht)]
    rfl
   ·have e:nz f=[Zs f]:=if_neg ht
    rw [e,List.flatMap_cons,List.flatMap_nil,List.append_nil,h1]
theorem Zde{k h:Zf→List Zf}:∀{R:List Zf},(∀x∈R,k x=h x)→R.flatMap k=R.flatMap h
 | [],_=>rfl
 | x::R,e=>by rw [List.flatMap_cons,List.flatMap_cons,e x List.mem_cons_self,Zde fun y hy=>e y (List.mem_cons_of_mem _ hy)]
theorem ZvX(v:Int)(R:List Zf)(h:∀f∈R,Srt f.1):((nrm R).flatMap fun f=>(nrm R).flatMap (kp v f))=R.flatMap fun f=>R.flatMap (kp v f):=by
 have Jr:∀f,Srt f.1→(nrm R).flatMap (kp v (Zs f))=R.flatMap (kp v f):=fun f hf=>by
  have e:=ZfF (kp v (Zs f)) R fun g hg=>⟨h g hg,fun e=>by
   unfold kp
   rw [if_neg]
   rintro ⟨_,b⟩
   rw [e,Qg] at b
   exact absurd b (by decide),by
   have k1:=Zat (v:=v) (Vv hf) (h g hg)
   have k2:=Zat (v:=v) hf (Vv (h g hg))
   have k3:=Zat (v:=v) hf (h g hg)
   rw [KL hf] at k1
   rw [k1]⟩
  rw [e]
  refine Zde fun g hg=>?_
  have k3:=Zat (v:=v) hf (h g hg)
  have k1:=Zat (v:=v) (Vv hf) (h g hg)
  rw [KL hf] at k1
  rw [←k3,k1]
 have outer:∀Q:List Zf,(∀f∈Q,Srt f.1)→((nrm Q).flatMap fun f=>(nrm R).flatMap (kp v f))=Q.flatMap fun f=>R.flatMap (kp v f):=fun Q=>by
  induction Q with
  | nil=>intro _;rfl
  | cons f Q ih=>
    intro hQ
    have hf:=hQ f List.mem_cons_self
    rw [Ub,List.flatMap_append,ih fun g hg=>hQ g (List.mem_cons_of_mem _ hg),List.flatMap_cons]
    congr 1
    by_cases ht:WW (Zs f)=true
    ·have e:nz f=[]:=if_pos ht
     have e2:=ZfN hf ht
     rw [e,ZeG (fun x=>by rw [e2,Qg] at x;exact absurd x (by decide)) R]
     rfl
    ·have e:nz f=[Zs f]:=if_neg ht
     rw [e,List.flatMap_cons,List.flatMap_nil,List.append_nil,Jr f hf]
 exact outer R h
theorem ZoP{v:Int}{R:List Zf}(h:∀f∈R,Srt f.1):Y3 v (R.foldl ZV [])=Y3 v R:=by
 have e1:R.foldl ZV []=ddF (nrm R):=WI R []
 rw [e1,Zjf,Zjf,List.foldl_append,List.foldl_append]
 rw [←Zes (kz v) [] (nrm R),ZnA v R h]
 generalize (R.flatMap (kz v)).foldl WR []=l
 rw [←ZvX v R h,←Zes (fun f=>(ddF (nrm R)).flatMap (kp v f)) l (nrm R)]
 exact ZcI _ _ (fun f l=>(Zes (kp v f) l (nrm R)).symm) (nrm R) l
end
section
open Go.RowKit
theorem Zgl{X:List Rat}{v:Nat}{x:Rat}(hv:v<X.length):∀{F:List (Int × Rat)},Srt F→(∀t∈F,0≤t.1)→evS (X.set v x) F=evS X F+cof F (v:Int)*(x-X.getD v 0)
 | [],_,_=>by rw [evS,evS,Qg];grind
 | t::F,h,h0=>by
   have ht:=h0 t List.mem_cons_self
   have ih:=Zgl (x:=x) hv h.tail fun u hu=>h0 u (List.mem_cons_of_mem _ hu)
   rw [evS,evS,ih]
   by_cases e:t.1=(v:Int)
   ·have hc:cof F (v:Int)=0:=Va fun u hu=>by
     have:=h.head u hu
     omega
    have e2:t.1.toNat=v:=by omega
    rw [Y7 e.symm,hc,e2]
    have e3:(X.set v x).getD v 0=x:=by simp [List.getD,hv]
    rw [e3]
    grind
   ·rw [QH (fun x=>e x.symm)]
    have e3:(X.set v x).getD t.1.toNat 0=X.getD t.1.toNat 0:=by
     simp only [List.getD]
     rw [List.getElem?_set_ne (by omega)]
    rw [e3]
    grind
theorem ZmR{X:List Rat}{v:Nat}{x:Rat}{f:Zf}(hv:v<X.length)(hs:Srt f.1)(hi:InR X.length f.1):Qo (X.set v x) f=Zcr X v f+cof f.1 (v:Int)*x:=by
 rw [Zg5 hv hs hi]
 unfold Qo
 rw [Zgl hv hs fun t ht=>(hi t ht).1]
 grind
theorem ZiM(X:List Rat)(v:Nat):∀R:List Zf,∃ok low high lo hi,BdI X v R.reverse ok low high lo hi
 | []=>⟨_,_,_,0,0,BdI.nil X v 0 0⟩
 | f::R=>by
   obtain ⟨ok,low,high,lo,hi,I⟩:=ZiM X v R
   rw [List.reverse_cons]
   by_cases h0:cof f.1 (v:Int)=0
   ·exact ⟨_,_,_,_,_,I.zero h0⟩
   by_cases h1:0<cof f.1 (v:Int)
   ·by_cases h2:low=false∨lo<bdX X v f
    ·exact ⟨_,_,_,_,_,I.up h1 (.inl ⟨h2,rfl⟩)⟩
    ·have hl:low=true:=by
      cases low with
      | true=>rfl
      | false=>exact absurd (.inl rfl) h2
     exact ⟨_,_,_,_,_,I.up h1 (.inr ⟨hl,by have:=fun x=>h2 (.inr x);grind,rfl⟩)⟩
   ·have h3:cof f.1 (v:Int)<0:=by grind
    by_cases h2:high=false∨bdX X v f<hi
    ·exact ⟨_,_,_,_,_,I.down h3 (.inl ⟨h2,rfl⟩)⟩
    ·have hl:high=true:=by
      cases high with
      | true=>rfl
      | false=>exact absurd (.inl rfl) h2
     exact ⟨_,_,_,_,_,I.down h3 (.inr ⟨hl,by have:=fun x=>h2 (.inr x);grind,rfl⟩)⟩
theorem Zyv{a r x:Rat}(ha:0<a)(h:-r / a≤x):0≤r+a*x:=by
 have h1:-r / a*a=-r:=Rat.div_mul_cancel (by grind)
 generalize -r / a=y at h1 h
 have:=Rat.mul_nonneg (show 0≤x-y by grind) (show 0≤a by grind)
 grind
theorem Zsp{b r x:Rat}(hb:b<0)(h:x≤-r / b):0≤r+b*x:=by
 have h1:-r / b*b=-r:=Rat.div_mul_cancel (by grind)
 generalize -r / b=y at h1 h
 have:=Rat.mul_nonneg (show 0≤y-x by grind) (show 0≤-b by grind)
 grind
theorem Zln{X:List Rat}{v:Nat}{rows:List Zf}(hv:v<X.length)(h:∀f∈rows,Srt f.1∧InR X.length f.1)(s:Za6 X (Y3 (v:Int) rows)):∃x,Za6 (X.set v x) rows:=by
 obtain ⟨ok,low,high,lo,hi,I⟩:=ZiM X v rows.reverse
 rw [List.reverse_reverse] at I
 obtain ⟨h1,h2⟩:=(ZmQ hv h I).1 s
 have key:∃x,(low=true→lo≤x)∧(high=true→x≤hi):=by
  cases hl:low with
  | true=>
    refine ⟨lo,fun _=>Rat.le_refl,fun hh=>?_⟩
    rcases h2 with h2|h2|h2
    ·rw [hl] at h2;cases h2
    ·rw [hh] at h2;cases h2
    ·exact h2
  | false=>exact ⟨hi,fun x=>(by cases x),fun _=>Rat.le_refl⟩
 obtain ⟨x,k1,k2⟩:=key
 refine ⟨x,fun f hf=>⟨by rw [List.length_set];exact (h f hf).2,?_⟩⟩
 rw [ZmR hv (h f hf).1 (h f hf).2]
 by_cases c0:cof f.1 (v:Int)=0
 ·rw [c0]
  have:=I.okI.1 h1 f hf c0
  grind
 by_cases c1:0<cof f.1 (v:Int)
 ·have hl:=I.lowI.2 ⟨f,hf,c1⟩
  have a:=(I.loI hl).2 f hf c1
  have b:=k1 hl
  exact Zyv c1 (Rat.le_trans a b)
 ·have c2:cof f.1 (v:Int)<0:=by grind
  have hl:=I.highI.2 ⟨f,hf,c2⟩
  have a:=(I.hiI hl).2 f hf c2
  have b:=k2 hl
  exact Zsp c2 (Rat.le_trans b a)
theorem ZaH{v:Int}{R:List Zf}{n:Zf}(h:n∈Y3 v R):∃f∈ZbS v R,n=Zs f:=by
 have e:Y3 v R=(nrm (ZbS v R)).foldl WR []:=WI _ _
 rw [e,JZ] at h
 rcases h with h|h
 ·cases h
 ·unfold nrm at h
  obtain ⟨f,hf,rfl⟩:=List.mem_map.1 (List.mem_filter.1 h).1
  exact ⟨f,hf,rfl⟩
theorem ZjG{v:Int}{R:List Zf}(h:∀f∈R,Srt f.1):∀f∈ZbS v R,Srt f.1∧cof f.1 v=0:=fun e he=>by
 rcases List.mem_append.1 he with h1|h1
 ·obtain ⟨h2,h3⟩:=List.mem_filter.1 h1
  exact ⟨h e h2,of_decide_eq_true h3⟩
 ·obtain ⟨f,h2,h3⟩:=List.mem_flatMap.1 h1
  obtain ⟨g,h4,rfl⟩:=List.mem_map.1 h3
  have hf:=h f (List.mem_filter.1 h2).1
  have hg:=h g (List.mem_filter.1 h4).1
  obtain ⟨a,b⟩:=WM (v:=v) hf hg
  exact ⟨a,by rw [b];grind⟩
theorem Zgd{v:Int}{R:List Zf}(h:∀f∈R,Srt f.1):∀f∈Y3 v R,Srt f.1∧cof f.1 v=0:=fun n hn=>by
 obtain ⟨f,hf,rfl⟩:=ZaH hn
 obtain ⟨a,b⟩:=ZjG h f hf
 exact ⟨Vv a,(Un a v).2.2.2 b⟩
theorem Zw4{z u d n:Nat}(hn:z+u+d=n)(h4:4≤n):4*(z+u*d)≤n*n:=by
 have hz:(0:Int)≤(n:Int)-(u+d):=by omega
 have h1:(0:Int)≤((n:Int)-(u+d))*((n:Int)+(u+d)-4):=Int.mul_nonneg hz (by omega)
 have h2:(0:Int)≤((u:Int)-d)*((u:Int)-d):=by
  rcases Int.le_total 0 ((u:Int)-d) with h|h
  ·exact Int.mul_nonneg h h
  ·exact Int.mul_nonneg_of_nonpos_of_nonpos h h
 have hz2:(z:Int)=n-(u+d):=by omega
 have:(4:Int)*(z+u*d)≤n*n:=by
  rw [hz2]
  grind
 exact_mod_cast this
theorem ZfL{α:Type}[DecidableEq α]:∀(E l:List α),(E.foldl WR l).length≤l.length+E.length
 | [],l=>Nat.le_refl _
 | x::E,l=>by
   have h1:=ZfL E (WR l x)
   have h2:(WR l x).length≤l.length+1:=by
    unfold WR
    split
    ·omega
    ·rw [List.length_append,List.length_singleton];omega
   rw [List.foldl_cons,List.length_cons]
   omega
theorem Zcu(v:Int):∀R:List Zf,(QM v R).length+(upL v R).length+(QP v R).length=R.length
 | []=>rfl
 | f::R=>by
   have ih:=Zcu v R
   by_cases h0:cof f.1 v=0
   ·rw [Zbz h0,ZaF (by rw [h0];decide),V9 (by rw [h0];decide),List.length_cons,List.length_cons];omega
   ·by_cases h1:0<cof f.1 v
    ·rw [KR h0,ZeD h1,V9 (by grind),List.length_cons,List.length_cons];omega
    ·rw [KR h0,ZaF h1,ZbA (by grind),List.length_cons,List.length_cons];omega
theorem Zmi(v:Int)(R:List Zf):(Y3 v R).length≤(QM v R).length+(upL v R).length*(QP v R).length:=by
 have e:Y3 v R=(nrm (ZbS v R)).foldl WR []:=WI _ _
 have h1:=ZfL (nrm (ZbS v R)) []
 have h2:(nrm (ZbS v R)).length≤(ZbS v R).length:=by
  unfold nrm
  exact Nat.le_trans (List.length_filter_le _ _) (by rw [List.length_map];exact Nat.le_refl _)
 have h3:∀U:List Zf,(U.flatMap fun f=>(QP v R).map (Yv v f)).length=U.length*(QP v R).length:=fun U=>by
  induction U with
  | nil=>simp
  | cons f U ih=>rw [List.flatMap_cons,List.length_append,ih,List.length_map,List.length_cons,Nat.succ_mul];omega
 have h4:(ZbS v R).length=(QM v R).length+(upL v R).length*(QP v R).length:=by
  unfold ZbS
  rw [List.length_append,h3]
 rw [e]
 simp only [List.length_nil] at h1
 omega
theorem ZkV{v:Int}{R:List Zf}{n:Nat}(hn:R.length≤n)(h4:4≤n):4*(Y3 v R).length≤n*n:=by
 have h1:=Zmi v R
 have h2:=Zcu v R
 have h3:=Zw4 (z:=(QM v R).length+(n-R.length)) (u:=(upL v R).length) (d:=(QP v R).length) (n:=n) (by omega) h4
 generalize (upL v R).length*(QP v R).length=p at h1 h3
 generalize n*n=q at h3 ⊢
 omega
end
section
open Go.RowKit
def YU:Nat→List Zf→List Zf
 | 0,R=>R
 | n+1,R=>Y3 (n:Int) (YU n R)
def Uo(n:Nat)(R:List Zf):List Zf:=(YU n R).foldl ZV []
def Zpz(n:Nat)(R:List Zf):List Zf:=YU n (R.foldl ZV [])
structure Cln (L:List Zf):Prop where
 s:∀f∈L,Srt f.1
 n:∀f∈L,Zs f=f
 t:∀f∈L,WW f=false
 d:ddF L=L
theorem ZsI{α:Type}[DecidableEq α](E:List α):ddF (ddF E)=ddF E:=by
 have key:∀R:List α,ddF (ddF R.reverse)=ddF R.reverse:=fun R=>by
  induction R with
  | nil=>rfl
  | cons x R ih=>
    rw [List.reverse_cons,Zdd]
    split
    ·exact ih
    ·rename_i h
     rw [Zdd,ih,if_neg h]
 have:=key E.reverse
 rwa [List.reverse_reverse] at this
theorem ZmH:∀{L:List Zf},(∀f∈L,Zs f=f)→(∀f∈L,WW f=false)→nrm L=L
 | [],_,_=>rfl
 | f::L,h1,h2=>by
   have e:nz f=[f]:=by
    unfold nz
    rw [h1 f List.mem_cons_self,h2 f List.mem_cons_self]
    rfl
   rw [Ub,e,ZmH (fun g hg=>h1 g (List.mem_cons_of_mem _ hg)) fun g hg=>h2 g (List.mem_cons_of_mem _ hg)]
   rfl
theorem Cln.col{L:List Zf}(h:Cln L):L.foldl ZV []=L:=by
 rw [WI,ZmH h.n h.t]
 exact h.d
theorem Zq3{R:List Zf}(h:∀f∈R,Srt f.1):Cln (R.foldl ZV []):=by
 have e:R.foldl ZV []=ddF (nrm R):=WI R []
 have hm:∀n∈R.foldl ZV [],∃f∈R,n=Zs f∧WW n=false:=fun n hn=>by
  rw [e,Zjv] at hn
  unfold nrm at hn
  obtain ⟨h1,h2⟩:=List.mem_filter.1 hn
  obtain ⟨f,hf,rfl⟩:=List.mem_map.1 h1
  exact ⟨f,hf,rfl,by simpa using h2⟩
 refine ⟨fun n hn=>?_,fun n hn=>?_,fun n hn=>?_,?_⟩
 ·obtain ⟨f,hf,rfl,_⟩:=hm n hn;exact Vv (h f hf)
 ·obtain ⟨f,hf,rfl,_⟩:=hm n hn;exact KL (h f hf)
 ·obtain ⟨f,hf,rfl,h3⟩:=hm n hn;exact h3
 ·rw [e,ZsI]
theorem ZmJ{v:Int}{R:List Zf}(h:∀f∈R,Srt f.1):Cln (Y3 v R):=Zq3 fun f hf=>(ZjG h f hf).1
theorem KI:∀(n:Nat) {R:List Zf},(∀f∈R,Srt f.1)→∀f∈YU n R,Srt f.1
 | 0,_,h=>h
 | n+1,_,h=>fun f hf=>(Zgd (KI n h) f hf).1
theorem Zrl{n:Nat}{R:List Zf}(h:∀f∈R,Srt f.1):Uo n R=Zpz n R:=by
 unfold Uo Zpz
 cases n with
 | zero=>rfl
 | succ n=>
   rw [show YU (n+1) R=Y3 (n:Int) (YU n R) from rfl,(ZmJ (KI n h)).col]
   have key:∀n,YU (n+1) (R.foldl ZV [])=YU (n+1) R:=fun n=>by
    induction n with
    | zero=>exact ZoP h
    | succ n ih=>
      show Y3 _ (YU (n+1) (R.foldl ZV []))=Y3 _ (YU (n+1) R)
      rw [ih]
   exact (key n).symm
theorem Zjb{k:Nat}{v:Int}{R:List Zf}(h:∀f∈R,Srt f.1∧InR k f.1):∀f∈Y3 v R,Srt f.1∧InR k f.1:=fun n hn=>by
 obtain ⟨e,he,rfl⟩:=ZaH hn
 have hs:Srt e.1∧InR k e.1:=by
  rcases List.mem_append.1 he with h1|h1
  ·exact h e (List.mem_filter.1 h1).1
  ·obtain ⟨f,h2,h3⟩:=List.mem_flatMap.1 h1
   obtain ⟨g,h4,rfl⟩:=List.mem_map.1 h3
   have hf:=h f (List.mem_filter.1 h2).1
   have hg:=h g (List.mem_filter.1 h4).1
   exact ⟨(WM hf.1 hg.1).1,Zjz hf.2 hg.2⟩
 exact ⟨Vv hs.1,(ZeZ hs.1.2).2 hs.2⟩
theorem Zj2{u v:Int}{R:List Zf}(hs:∀f∈R,Srt f.1)(h:∀f∈R,cof f.1 u=0):∀f∈Y3 v R,cof f.1 u=0:=fun n hn=>by
 obtain ⟨e,he,rfl⟩:=ZaH hn
 have k:Srt e.1∧cof e.1 u=0:=by
  rcases List.mem_append.1 he with h1|h1
  ·have:=(List.mem_filter.1 h1).1
   exact ⟨hs e this,h e this⟩
  ·obtain ⟨f,h2,h3⟩:=List.mem_flatMap.1 h1
   obtain ⟨g,h4,rfl⟩:=List.mem_map.1 h3
   have hf:=(List.mem_filter.1 h2).1
   have hg:=(List.mem_filter.1 h4).1
   obtain ⟨a,b⟩:=WM (v:=v) (hs f hf) (hs g hg)
   exact ⟨a,by rw [b,h f hf,h g hg];grind⟩
 exact (Un k.1 u).2.2.2 k.2
theorem ZcP{k:Nat}:∀(n:Nat) {R:List Zf},(∀f∈R,Srt f.1∧InR k f.1)→∀f∈YU n R,Srt f.1∧InR k f.1
 | 0,_,h=>h
 | n+1,_,h=>Zjb (ZcP n h)
theorem Zep:∀(n:Nat) {R:List Zf},(∀f∈R,Srt f.1)→∀f∈YU n R,∀u:Nat,u<n→cof f.1 (u:Int)=0
 | 0,_,_=>fun f hf u hu=>by omega
 | n+1,R,h=>fun f hf u hu=>by
   by_cases e:u=n
   ·subst e
    exact (Zgd (KI u h) f hf).2
   ·exact Zj2 (KI n h) (fun g hg=>Zep n h g hg u (by omega)) f hf
theorem Zej{k:Nat}:∀(n:Nat),n≤k→∀{R:List Zf},(∀f∈R,Srt f.1∧InR k f.1)→((∃X:List Rat,X.length=k∧Za6 X R)↔∃X:List Rat,X.length=k∧Za6 X (YU n R))
 | 0,_,_,_=>Iff.rfl
 | n+1,hn,R,h=>by
   rw [Zej n (by omega) h]
   have hi:=ZcP n h
   constructor
   ·rintro ⟨X,hX,s⟩
    refine ⟨X,hX,?_⟩
    have hi':∀f∈YU n R,Srt f.1∧InR X.length f.1:=by rw [hX];exact hi
    refine (ZgV hi').2 ⟨fun f hf _=>(s f hf).2,fun f hf g hg h1 h2=>?_⟩
    have a:=Rat.mul_nonneg (s f hf).2 (show 0≤-cof g.1 (n:Int) by grind)
    have b:=Rat.mul_nonneg (s g hg).2 (show 0≤cof f.1 (n:Int) by grind)
    grind
   ·rintro ⟨X,hX,s⟩
    have hi':∀f∈YU n R,Srt f.1∧InR X.length f.1:=by rw [hX];exact hi
    obtain ⟨x,hx⟩:=Zln (v:=n) (by omega) hi' s
    exact ⟨X.set n x,by rw [List.length_set];exact hX,hx⟩
theorem Zwj{k:Nat}{F:List (Int × Rat)}(hs:Srt F)(hi:InR k F)(h:∀u:Nat,u<k→cof F (u:Int)=0):F=[]:=by
 cases F with
 | nil=>rfl
 | cons t F=>
   have h1:=hi t List.mem_cons_self
   have h2:=h t.1.toNat (by omega)
   rw [Y7 (by omega)] at h2
   exact absurd h2 (hs.2 t List.mem_cons_self)
theorem Zpc{k:Nat}{R:List Zf}(h:∀f∈R,Srt f.1∧InR k f.1):Uo k R=[]↔∃X:List Rat,X.length=k∧Za6 X R:=by
 have hs:∀f∈R,Srt f.1:=fun f hf=>(h f hf).1
 have hi:=ZcP k h
 rw [Zej k (Nat.le_refl _) h]
 have hz:∀f∈YU k R,f.1=[]:=fun f hf=>Zwj (hi f hf).1 (hi f hf).2 (Zep k hs f hf)
 have hsat:∀X:List Rat,Za6 X (YU k R)↔∀f∈YU k R,0≤f.2:=fun X=>by
  constructor
  ·intro s f hf
   have:=(s f hf).2
   unfold Qo at this
   rw [hz f hf,evS] at this
   grind
  ·intro s f hf
   refine ⟨by rw [hz f hf];exact fun t ht=>(by cases ht),?_⟩
   unfold Qo
   rw [hz f hf,evS]
   have:=s f hf
   grind
 have htr:∀f∈YU k R,(WW (Zs f)=true↔0≤f.2):=fun f hf=>by
  rw [Kl (hz f hf)]
  unfold WW
  rw [decide_eq_true_iff]
  dsimp only
  unfold sgQ
  by_cases h1:0<f.2
  ·rw [if_pos h1]
   exact ⟨fun _=>by grind,fun _=>⟨rfl,by decide⟩⟩
  ·by_cases h2:f.2<0
   ·rw [if_neg h1,if_pos h2]
    exact ⟨fun x=>absurd x.2 (by decide),fun x=>by grind⟩
   ·rw [if_neg h1,if_neg h2]
    exact ⟨fun _=>by grind,fun _=>⟨rfl,by decide⟩⟩
 have e:Uo k R=ddF (nrm (YU k R)):=WI _ _
 constructor
 ·intro h0
  refine ⟨List.replicate k 0,by simp,(hsat _).2 fun f hf=>?_⟩
  false_or_by_contra
  rename_i hn
  have ht:¬WW (Zs f)=true:=fun x=>hn ((htr f hf).1 x)
  have hm:Zs f∈Uo k R:=by
   rw [e,Zjv]
   unfold nrm
   exact List.mem_filter.2 ⟨List.mem_map.2 ⟨f,hf,rfl⟩,by simpa using ht⟩
  rw [h0] at hm
  cases hm
 ·rintro ⟨X,_,s⟩
  rw [e]
  have h1:nrm (YU k R)=[]:=by
   unfold nrm
   rw [List.filter_eq_nil_iff]
   intro n hn
   obtain ⟨f,hf,rfl⟩:=List.mem_map.1 hn
   have:=(htr f hf).2 ((hsat X).1 s f hf)
   simp [this]
  rw [h1]
  rfl
end
section
open Go.RowKit
end
section
open Go.RowKit
def MinG(P:Rat→Prop)(st:Int)(v:Rat):Prop:=(st=2∧∀t,¬P t)∨(st=3∧∀B,∃t,P t∧t≤B)∨(st=1∧P v∧∀t,P t→v≤t)
theorem MinG.congr{P Q:Rat→Prop}{s:Int}{v:Rat}(h:MinG P s v)(e:∀t,P t↔Q t):MinG Q s v:=by
 rcases h with ⟨r,a⟩|⟨r,a⟩|⟨r,a,b⟩
 ·exact .inl ⟨r,fun t ht=>a t ((e t).2 ht)⟩
 ·exact .inr (.inl ⟨r,fun B=>by obtain ⟨t,h1,h2⟩:=a B;exact ⟨t,(e t).1 h1,h2⟩⟩)
 ·exact .inr (.inr ⟨r,(e v).1 a,fun t ht=>b t ((e t).2 ht)⟩)
end
section
open Go.RowKit
theorem Zfr{q:Rat}(h:q≠0):H (1 / q)≤H q:=by
 rw [Rat.div_def,Rat.one_mul]
 unfold H
 have hn:q.num≠0:=fun e=>h (by rw [←Rat.num_eq_zero];exact e)
 have e1:(q⁻¹).num.natAbs=q.den:=by
  rw [Rat.num_inv,Int.natAbs_mul,Int.natAbs_sign_of_ne_zero hn,Nat.one_mul]
  exact Int.natAbs_natCast _
 have e2:(q⁻¹).den=q.num.natAbs:=by rw [Rat.den_inv,if_neg hn]
 rw [e1,e2]
 omega
theorem Zhv(q:Rat):H (Qt q)=H q:=by
 unfold Qt
 split
 ·exact Zcz q
 ·rfl
def FH(m:Nat)(f:Zf):Prop:=(∀t∈f.1,H t.2≤m)∧H f.2≤m
theorem ZeV:∀{F:List (Int × Rat)},Srt F→∀t∈F,cof F t.1=t.2
 | [],_,t,ht=>by cases ht
 | u::F,h,t,ht=>by
   rcases List.mem_cons.1 ht with rfl|ht
   ·exact Y7 rfl
   ·have:=h.head t ht
    rw [QH (by omega)]
    exact ZeV h.tail t ht
theorem J7{b:Nat}{v:Int}(hb:1≤b):∀{l:List (Int × Rat)},(∀t∈l,H t.2≤b)→H (cof l v)≤b
 | [],_=>Nat.le_trans (show H 0≤1 by decide+kernel) hb
 | t::l,h=>by
   rw [cof]
   split
   ·exact h t List.mem_cons_self
   ·exact J7 hb fun u hu=>h u (List.mem_cons_of_mem _ hu)
theorem FH.scl{m k:Nat}{F:List (Int × Rat)}{c:Rat}(h:∀t∈F,H t.2≤m)(hc:H c≤k):∀t∈Yf F c,H t.2≤m+k:=fun t ht=>by
 simp only [Yf,List.mem_flatMap] at ht
 obtain ⟨u,hu,h1⟩:=ht
 obtain ⟨rfl,_⟩:=Zaq h1
 have a:=UX u.2 c
 have b:=h u hu
 show H (u.2*c)≤_
 omega
theorem FH.add{m k:Nat}{F G:List (Int × Rat)}(hF:Srt F)(hG:Srt G)(h:∀t∈F,H t.2≤m)(g:∀t∈G,H t.2≤k)(hm:1≤m)(hk:1≤k):∀t∈X7 F G,H t.2≤m+k+1:=fun t ht=>by
 obtain ⟨a1,a2⟩:=Za3 hF hG
 have e:=ZeV a1 t ht
 rw [a2] at e
 rw [←e]
 have b:=Zd2 (cof F t.1) (cof G t.1)
 have c:=J7 (v:=t.1) hm h
 have d:=J7 (v:=t.1) hk g
 omega
theorem Zy2(q:Rat):H (sgQ q)≤1:=by
 unfold sgQ
 split
 ·decide+kernel
 ·split <;>decide+kernel
theorem FH.norm{m:Nat}{f:Zf}(hs:Srt f.1)(h:FH m f)(hm:1≤m):FH (m+m) (Zs f):=by
 obtain ⟨F,q⟩:=f
 cases F with
 | nil=>
   have:=Zy2 q
   refine ⟨fun t ht=>(by cases ht),?_⟩
   show H (sgQ q)≤_
   omega
 | cons t F=>
   have hne:=hs.2 t List.mem_cons_self
   have ha:Qt t.2≠0:=fun e=>by have:=WB hne;rw [e] at this;exact absurd this (by decide)
   have hc:H (1 / Qt t.2)≤m:=Nat.le_trans (Zfr ha) (by rw [Zhv];exact h.1 t List.mem_cons_self)
   refine ⟨FH.scl h.1 hc,?_⟩
   have a:=UX q (1 / Qt t.2)
   have b:=h.2
   dsimp only at b
   show H (q*(1 / Qt t.2))≤_
   omega
theorem FH.comb{m:Nat}{v:Int}{f g:Zf}(hf:Srt f.1)(hg:Srt g.1)(h:FH m f)(k:FH m g)(hm:1≤m):FH (4*m+1) (Yv v f g):=by
 have c1:H (-cof g.1 v)≤m:=by rw [Zcz];exact J7 hm k.1
 have c2:H (cof f.1 v)≤m:=J7 hm h.1
 refine ⟨fun t ht=>?_,?_⟩
 ·have:=FH.add (YH hf).1 (YH hg).1 (FH.scl h.1 c1) (FH.scl k.1 c2) (by omega) (by omega) t ht
  omega
 ·have a:=Zd2 (f.2*-cof g.1 v) (g.2*cof f.1 v)
  have b:=UX f.2 (-cof g.1 v)
  have d:=UX g.2 (cof f.1 v)
  have e1:=h.2
  have e2:=k.2
  show H (f.2*-cof g.1 v+g.2*cof f.1 v)≤_
  omega
end
section
open Go.RowKit
theorem Zi2(a:ByteArray):∀(k i:Nat) (r:List UInt8),k+i=a.size→ByteArray.toList.loop a i r=r.reverse++a.data.toList.drop i
 | 0,i,r,h=>by
   rw [ByteArray.toList.loop,if_neg (by omega),List.drop_eq_nil_of_le (by have e:a.data.toList.length=a.size:=Array.length_toList;omega),List.append_nil]
 | k+1,i,r,h=>by
   have hi:i<a.data.toList.length:=by have e:a.data.toList.length=a.size:=Array.length_toList;omega
   rw [ByteArray.toList.loop,if_pos (by omega),Zi2 a k (i+1) _ (by omega),List.drop_eq_getElem_cons hi]
   have e:a.get! i=a.data.toList[i]:=by
    unfold ByteArray.get!
    rw [Array.getElem_toList]
    exact getElem!_pos a.data i (by simpa using hi)
   rw [e]
   simp
theorem XA(a:ByteArray):a.toList=a.data.toList:=by
 unfold ByteArray.toList
 rw [Zi2 a a.size 0 [] (by omega)]
 simp
theorem Zph{a b:ByteArray}(h:a.data.toList=b.data.toList):a=b:=by
 obtain ⟨x⟩:=a
 obtain ⟨y⟩:=b
 congr 1
 exact Array.toList_inj.1 h
theorem Zhz{a b:ByteArray}(h:a.toList=b.toList):a=b:=Zph (by rw [←XA,←XA,h])
theorem Vm{a b x:ByteArray}(h:a.size+b.size≤9000000000000000000)(d:x=a++b):(if ((a.size:Nat):Int)+((b.size:Nat):Int)≤9223372036854775807 then some (Value.string (a++b)) else none)=some (Value.string x):=by
 rw [if_pos (by omega),d]
theorem ZnY(l:List ByteArray)(i:Nat)(a:ByteArray):(l.map Jm).set i [.lit (.string a)]=(l.set i a).map Jm:=by
 rw [List.map_set];rfl
def bs(l:List UInt8):ByteArray:=⟨l.toArray⟩
theorem ZsQ(l:List UInt8):(bs l).data.toList=l:=by simp [bs]
theorem ZS(l:List UInt8):(bs l).size=l.length:=by
 show (bs l).data.size=_
 simp [bs]
theorem Xw(l m:List UInt8):bs l++bs m=bs (l++m):=Zph (by simp [bs])
theorem Zcb{l m:List UInt8}(h:bs l=bs m):l=m:=by
 have:=congrArg (fun a:ByteArray=>a.data.toList) h
 simpa [bs] using this
end
section
open Go.RowKit
open Lib (decDigits)
def dig(k:Nat):UInt8:=UInt8.ofNat (48+k)
theorem ZcX{u:Nat}(h:u<10):decDigits u=[dig u]:=by rw [decDigits,dif_pos h];rfl
theorem Zf8{u:Nat}(h:¬u<10):decDigits u=decDigits (u / 10)++[dig (u % 10)]:=by rw [decDigits,dif_neg h];rfl
def Zba:Nat→Nat→List UInt8
 | 0,_=>[]
 | m+1,r=>Zba m (r / 10)++[dig (r % 10)]
theorem ZdG:∀(m:Nat),Zba m 0=List.replicate m 48
 | 0=>rfl
 | m+1=>by rw [Zba,Nat.zero_div,ZdG m,List.replicate_succ'];rfl
theorem Zhb:∀(m q r:Nat),0<q→r<10 ^ m→decDigits (q*10 ^ m+r)=decDigits q++Zba m r
 | 0,q,r,hq,hr=>by
   have:r=0:=by simpa using hr
   subst this
   rw [Nat.pow_zero,Nat.mul_one,Nat.add_zero,Zba,List.append_nil]
 | m+1,q,r,hq,hr=>by
   rw [Nat.pow_succ] at hr
   have hp:0<10 ^ m:=Nat.pow_pos (by omega)
   have e0:q*10 ^ (m+1)=(q*10 ^ m)*10:=by rw [Nat.pow_succ,Nat.mul_assoc]
   have hge:1≤q*10 ^ m:=Nat.mul_pos hq hp
   have h1:¬q*10 ^ (m+1)+r<10:=by omega
   have e1:(q*10 ^ (m+1)+r) / 10=q*10 ^ m+r / 10:=by omega
   have e2:(q*10 ^ (m+1)+r) % 10=r % 10:=by omega
   rw [Zf8 h1,e1,e2,Zhb m q (r / 10) hq (by omega),Zba,List.append_assoc]
theorem Zn1:∀(m r:Nat),r<10 ^ (m+1)→(decDigits r).length≤m+1∧Zba (m+1) r=List.replicate (m+1-(decDigits r).length) 48++decDigits r
 | 0,r,h=>by
   have h1:r<10:=by simpa using h
   rw [ZcX h1]
   refine ⟨by simp,?_⟩
   rw [Zba,Zba,Nat.mod_eq_of_lt h1]
   simp
 | m+1,r,h=>by
   by_cases h1:r<10
   ·rw [ZcX h1]
    refine ⟨by simp,?_⟩
    have e:Zba (m+1+1) r=Zba (m+1) (r / 10)++[dig (r % 10)]:=rfl
    rw [e,Nat.div_eq_of_lt h1,Nat.mod_eq_of_lt h1,ZdG]
    simp
   ·rw [Nat.pow_succ] at h
    obtain ⟨i1,i2⟩:=Zn1 m (r / 10) (by omega)
    rw [Zf8 h1,List.length_append,List.length_singleton]
    refine ⟨by omega,?_⟩
    have e:Zba (m+1+1) r=Zba (m+1) (r / 10)++[dig (r % 10)]:=rfl
    rw [e,i2,←List.append_assoc,show m+1+1-((decDigits (r / 10)).length+1)=m+1-(decDigits (r / 10)).length by omega]
theorem Zw5(k:Nat):decDigits k≠[]:=by
 by_cases h:k<10
 ·rw [ZcX h];simp
 ·rw [Zf8 h];simp
theorem ZAm(c:Nat):Lib.repeatL [48] c=List.replicate c 48:=by
 induction c with
 | zero=>rfl
 | succ c ih=>rw [Lib.repeatL,ih,List.replicate_succ];rfl
theorem Zw9(xs:List (List UInt8)):Lib.join xs []=xs.flatten:=by
 unfold Lib.join List.intercalate
 induction xs with
 | nil=>rfl
 | cons x xs ih=>
   cases xs with
   | nil=>simp [List.intersperse]
   | cons y ys=>
     rw [List.intersperse,List.flatten_cons,List.flatten_cons,ih]
     ·simp
     ·intro h
      cases h
def rnd:Nat→Nat→Nat
 | 0,_=>0
 | f+1,k=>if k=0 then 0 else rnd f (k / 1000000000)+1
theorem Zl1:∀(f k:Nat),rnd f k≤f
 | 0,_=>Nat.le_refl _
 | f+1,k=>by rw [rnd];split;omega;have:=Zl1 f (k / 1000000000);omega
theorem Kn(f:Nat):rnd f 0=0:=by cases f <;>simp [rnd]
theorem Zb5:∀(f g k:Nat),k<2 ^ f→k<2 ^ g→rnd f k=rnd g k
 | 0,g,k,h,_=>by
   have:k=0:=by simpa using h
   subst this
   rw [Kn,Kn]
 | f+1,0,k,_,h=>by
   have:k=0:=by simpa using h
   subst this
   rw [Kn,Kn]
 | f+1,g+1,k,h,h2=>by
   rw [Nat.pow_succ] at h h2
   rw [rnd,rnd,Zb5 f g _ (by omega) (by omega)]
def dd0(k:Nat):List UInt8:=if k=0 then [] else decDigits k
theorem Zmr{k:Nat}(h:0<k):dd0 k=dd0 (k / 1000000000)++(if 0<k / 1000000000 then List.replicate (9-(decDigits (k % 1000000000)).length) 48++decDigits (k % 1000000000) else decDigits (k % 1000000000))∧(decDigits (k % 1000000000)).length≤9:=by
 have hr:k % 1000000000<10 ^ (8+1):=Nat.mod_lt _ (by decide)
 obtain ⟨p1,p2⟩:=Zn1 8 _ hr
 refine ⟨?_,p1⟩
 unfold dd0
 rw [if_neg (by omega)]
 by_cases hq:0<k / 1000000000
 ·rw [if_neg (by omega),if_pos hq,←p2]
  have e:=Zhb 9 (k / 1000000000) (k % 1000000000) hq hr
  have e2:k / 1000000000*10 ^ 9+k % 1000000000=k:=by
   have:(10:Nat) ^ 9=1000000000:=by decide
   rw [this];omega
  rw [e2] at e
  exact e
 ·rw [if_pos (by omega),if_neg hq,List.nil_append]
  congr 1
  omega
theorem Za0:∀(m k:Nat),k<2 ^ m→(decDigits k).length≤m+1
 | 0,k,h=>by
   have:k=0:=by simpa using h
   subst this
   rw [ZcX (by omega)];simp
 | m+1,k,h=>by
   by_cases h1:k<10
   ·rw [ZcX h1];simp
   ·rw [Nat.pow_succ] at h
    rw [Zf8 h1,List.length_append,List.length_singleton]
    have:=Za0 m (k / 10) (by omega)
    omega
end
section
open Go.RowKit
noncomputable def UA:Code:=(Zb (ZP Tryz.f141)).getD 0 .skip
def WU(nat_5:List Nat)(r:List Nat)(out_5:List ByteArray):St:=
 ⟨[(0,Zc nat_5),(3,Zc r),(4,.own 0 out_5.length)],
  [(0,some (.row 9 1 (out_5.map Jm) 0))],1⟩
def J2(out_5:List ByteArray):St:=
 ⟨[(4,.own 0 out_5.length)],
  [(0,some (.row 9 1 (out_5.map Jm) 0))],1⟩
section
variable {r16 : List Nat} {r : List Nat} {r21 : ByteArray} {r17 : List Nat} {r18 : Int} {r20 : Bool} {nat_5 : List Nat} {out_5 : List ByteArray} {n : Nat} {cat3 : ByteArray} {r19 : Int} {r22 : ByteArray} {a0 : List Nat} {R : List ByteArray} {r23 : ByteArray}
section
variable(C1:0<(nat_5.length:Int))(K2:(oND fun x y=>.tup [Zc (lmb (val x / val y)),Zc (lmb (val x % val y)),.lit (.int .i64 0)]) [Zc nat_5,Zc r]=some (.tup [Zc r16,Zc r17,.lit (.int .i64 r18)]))(K3:(oN1 Zds fun x=>.tup [.lit (.int .u64 (val x:Nat)),.lit (.bool true)]) [Zc r17]=some (.tup [.lit (.int .u64 r19),.lit (.bool r20)]))(K4:(oFU) [.lit (.int .u64 r19),.lit (.int .i64 10)]=some (.lit (.string r21)))
include C1 K2 K3 K4
theorem Zl8(C5:0<(r16.length:Int))(W6:InI (9-(r21.size:Int)))(K7:(UB) [.lit (.string (⟨#[48]⟩:ByteArray)),.lit (.int .i64 (9-(r21.size:Int)))]=some (.lit (.string r22)))(S8:r22.size+r21.size≤9000000000000000000)(D8:cat3=r22++r21)(M9:out_5.length+1≤100000000):
  Zm 0 (exec Tryz.prog (tab (n+5)) 0 50 (Za 141) big UA) (Za 141 5) (WU nat_5 r out_5) (WU r16 r (out_5++[cat3])):=by
 have C1_:0<nat_5.length:=by omega
 have C5_:0<r16.length:=by omega
 have W6_:IntKind.i64.wrap (9-(r21.size:Int))=9-(r21.size:Int):=Zq W6.1 W6.2
 have S8_q:=Vm S8 D8
 have M9_:∀b,b≤10000→ZT (out_5.length+1) b=true:=fun b hb=>ZD M9 hb
 unfold Zm
 simp+decide [WU,Zb, Tryz.f141,UA,C1_,K2,K3,K4,C5_,W6_,K7,S8_q,M9_]
theorem ZnW(C5:¬0<(r16.length:Int))(M6:out_5.length+1≤100000000):
  Zm 0 (exec Tryz.prog (tab (n+5)) 0 50 (Za 141) big UA) (Za 141 5) (WU nat_5 r out_5) (WU r16 r (out_5++[r21])):=by
 have C1_:0<nat_5.length:=by omega
 have C5_:¬0<r16.length:=by omega
 have M6_:∀b,b≤10000→ZT (out_5.length+1) b=true:=fun b hb=>ZD M6 hb
 unfold Zm
 simp+decide [WU,Zb, Tryz.f141,UA,C1_,K2,K3,K4,C5_,M6_]
end
theorem Znb(C1:¬0<(nat_5.length:Int)):
  Zj 0 (exec Tryz.prog (tab (n+5)) 0 50 (Za 141) big UA) (Za 141 (Zo 5)) (WU nat_5 r out_5) (.exit 0) (J2 out_5):=by
 have C1_:¬0<nat_5.length:=by omega
 unfold Zj
 simp+decide [WU,Zb, Tryz.f141,J2,UA,C1_]
theorem Zuq(C1:(a0.length:Int)=0):
  run (n+5) 141 [Zc a0]=some (.lit (.string (⟨#[48]⟩:ByteArray))):=by
 have C1_:((a0.length:Int)==0)=true:=by rw [C1];simp
 unfold run fnP
 simp+decide [Tryz.f141,C1_]
theorem ZuM(HR:R.length=out_5.length)(C1:¬(a0.length:Int)=0)(K2:(oU fun k=>Zc (lmb k)) [.lit (.int .u64 1000000000)]=some (Zc r))(L3:Zk Tryz.prog (tab (n+5)) 0 50 (Za 141) 5 UA (WU a0 r [])=some (.exit 0,J2 out_5))(K4:Zp (n+4) 148 [.own 0 out_5.length] [.row 9 1 (out_5.map Jm) 0]=some (.tup [],[(0,.row 9 1 (R.map Jm) 0)]))(K5:(Zcs) [.sl 1 (R.map Jm),.lit (.string (⟨#[]⟩:ByteArray))]=some (.lit (.string r23))):
  run (n+5) 141 [Zc a0]=some (.lit (.string r23)):=by
 have C1_:((a0.length:Int)==0)=false:=by simpa using C1
 unfold run fnP
 simp+decide [Tryz.f141,C1_,K2]
 rw [Zi (C':=UA) (e:=(WU a0 r [])) ?_ ?_,L3]
 rotate_left
 ·kernel_rfl
 ·simp+decide [WU]
 simp+decide [J2,HR,K4,K5]
end
end
section
open Go.RowKit
noncomputable def JK:Code:=(Zb (ZP Tryz.f148)).getD 0 .skip
def UG(out_1:List ByteArray)(i_1:Nat)(i2_1:Int):St:=
 ⟨[(0,.own 0 out_1.length),(2,.lit (.int .i64 (i_1:Int))),(3,.lit (.int .i64 i2_1))],
  [(0,some (.row 9 1 (out_1.map Jm) 0))],1⟩
def UK(out_1:List ByteArray):St:=
 ⟨[],
  [(0,some (.row 9 1 (out_1.map Jm) 0))],1⟩
section
variable {i_1 : Nat} {i2_1 : Int} {x6 : ByteArray} {x5 : ByteArray} {n : Nat} {out_1 : List ByteArray} {a0 : List ByteArray}
theorem ZpB(C1:(i_1:Int)<i2_1)(G2:i2_1.toNat<out_1.length)(Z2:0≤i2_1)(E3:out_1[i2_1.toNat]?=some x5)(Z3:0≤i2_1)(G4:i_1<out_1.length)(E5:out_1[i_1]?=some x6)(W10:InI ((i_1:Int)+1))(W11:InI (i2_1-1)):
  Zm 1 (exec Tryz.prog (tab n) 1 28 (Za 148) big JK) (Za 148 1) (UG out_1 i_1 i2_1) (UG ((out_1.set i_1 x5).set i2_1.toNat x6) (i_1+1) (i2_1-1)):=by
 obtain ⟨EL3,EG3⟩:=List.getElem?_eq_some_iff.1 E3
 obtain ⟨EL5,EG5⟩:=List.getElem?_eq_some_iff.1 E5
 have W10_:IntKind.i64.wrap ((i_1:Int)+1)=(i_1:Int)+1:=Zq W10.1 W10.2
 have W11_:IntKind.i64.wrap (i2_1-1)=i2_1-1:=Zq W11.1 W11.2
 unfold Zm
 simp+decide [UG,Zb, Tryz.f148,JK,C1,G2,Z2,EG3,G4,EG5,ZnY,-List.map_set,W10_,W11_]
theorem ZnM(C1:¬(i_1:Int)<i2_1):
  Zj 1 (exec Tryz.prog (tab n) 1 28 (Za 148) big JK) (Za 148 (Zo 1)) (UG out_1 i_1 i2_1) (.exit 0) (UK out_1):=by
 unfold Zj
 simp+decide [UG,Zb, Tryz.f148,UK,JK,C1]
theorem Zu9(W1:InI ((a0.length:Int)-1))(L2:Zk Tryz.prog (tab n) 1 28 (Za 148) 1 JK (UG a0 0 ((a0.length:Int)-1))=some (.exit 0,UK out_1)):
  Zp n 148 [.own 0 a0.length] [.row 9 1 (a0.map Jm) 0]=some (.tup [],[(0,.row 9 1 (out_1.map Jm) 0)]):=by
 have W1_:IntKind.i64.wrap ((a0.length:Int)-1)=(a0.length:Int)-1:=Zq W1.1 W1.2
 unfold Zp fnL
 simp+decide [Tryz.f148,W1_]
 rw [Zi (C':=JK) (e:=(UG a0 0 ((a0.length:Int)-1))) ?_ ?_,L2]
 rotate_left
 ·kernel_rfl
 ·simp+decide [UG]
 simp+decide [UK]
end
end
end Go.Proofs.YtdaonnnlgfhlaaaGreatDoor
