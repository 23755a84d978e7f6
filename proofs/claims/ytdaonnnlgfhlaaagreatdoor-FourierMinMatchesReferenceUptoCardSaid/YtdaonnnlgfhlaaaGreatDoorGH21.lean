import Derived.Test.YtdaonnnlgfhlaaaGreatDoorGH7
import Derived.Test.YtdaonnnlgfhlaaaGreatDoorGH20
import Derived.Test.YtdaonnnlgfhlaaaGreatDoorGH18
import Derived.Test.YtdaonnnlgfhlaaaGreatDoorGH19
import Derived.Test.YtdaonnnlgfhlaaaGreatDoorGH17
import Derived.Test.YtdaonnnlgfhlaaaGreatDoorGH16
import Derived.Test.YtdaonnnlgfhlaaaGreatDoorRows
import Derived.Deep.Slices
import Derived.ChangeArms
import Derived.ChangeSlices
import Derived.DataReads
import Derived.OpenShut
import Derived.Lib.LaidTab
import Derived.Stop.LaidErr
set_option linter.all false
set_option maxHeartbeats 1600000
set_option maxRecDepth 100000
namespace Go.Proofs.YtdaonnnlgfhlaaaGreatDoor
def Yn(f:Nat→Rat):Nat→Rat
 | 0=>0
 | n+1=>Yn f n+f n
theorem ZS{f g:Nat→Rat}{n:Nat}(h:∀i,i<n→f i=g i):Yn f n=Yn g n:=by
 induction n with
 | zero=>rfl
 | succ n ih=>rw [Yn,Yn,ih (fun i hi=>h i (by omega)),h n (by omega)]
theorem Wm(f g:Nat→Rat)(n:Nat):Yn (fun i=>f i+g i) n=Yn f n+Yn g n:=by
 induction n with
 | zero=>simp [Yn,Rat.add_zero]
 | succ n ih=>simp only [Yn,ih];grind
theorem XX(c:Rat)(f:Nat→Rat)(n:Nat):Yn (fun i=>c*f i) n=c*Yn f n:=by
 induction n with
 | zero=>simp [Yn]
 | succ n ih=>simp only [Yn,ih];grind
theorem Wx(n:Nat):Yn (fun _=>0) n=0:=by
 induction n with
 | zero=>rfl
 | succ n ih=>simp only [Yn,ih];grind
theorem Zmy(f:Nat→Nat→Rat)(m n:Nat):Yn (fun i=>Yn (fun j=>f i j) n) m=Yn (fun j=>Yn (fun i=>f i j) m) n:=by
 induction m with
 | zero=>simp only [Yn];exact (Wx n).symm
 | succ m ih=>simp only [Yn];rw [ih,←Wm]
theorem Zga{f:Nat→Rat}{n:Nat}(h:∀i,i<n→0≤f i):0≤Yn f n:=by
 induction n with
 | zero=>exact Rat.le_refl
 | succ n ih=>
   have h1:=ih (fun i hi=>h i (by omega))
   have h2:=h n (by omega)
   simp only [Yn]
   grind
theorem VV{f:Nat→Rat}{n k:Nat}(hk:k<n)(h:∀i,i<n→i≠k→f i=0):Yn f n=f k:=by
 induction n with
 | zero=>omega
 | succ n ih=>
   simp only [Yn]
   rcases Nat.lt_or_ge k n with h1|h1
   ·rw [ih h1 (fun i hi=>h i (by omega)),h n (by omega) (by omega)];grind
   ·have e:k=n:=by omega
    subst e
    rw [ZS (g:=fun _=>0) (fun i hi=>h i (by omega) (by omega)),Wx];grind
inductive Cone (R:(Nat→Rat) × Rat→Prop):(Nat→Rat) × Rat→Prop
 | base (r:(Nat→Rat) × Rat) (h:R r):Cone R r
 | zero:Cone R (fun _=>0,0)
 | add (r s:(Nat→Rat) × Rat) (h:Cone R r) (k:Cone R s):Cone R (fun j=>r.1 j+s.1 j,r.2+s.2)
 | mul (c:Rat) (r:(Nat→Rat) × Rat) (hc:0≤c) (h:Cone R r):Cone R (fun j=>c*r.1 j,c*r.2)
theorem Cone.sub{R R':(Nat→Rat) × Rat→Prop}(h:∀r,R r→Cone R' r){r:(Nat→Rat) × Rat}(hr:Cone R r):Cone R' r:=by
 induction hr with
 | base r hr=>exact h r hr
 | zero=>exact .zero
 | add r s _ _ h1 h2=>exact .add _ _ h1 h2
 | mul c r hc _ h1=>exact .mul _ _ hc h1
theorem Cone.coef{R:(Nat→Rat) × Rat→Prop}{n:Nat}(h:∀r,R r→r.1 n=0){r:(Nat→Rat) × Rat}(hr:Cone R r):r.1 n=0:=by
 induction hr with
 | base r hr=>exact h r hr
 | zero=>rfl
 | add r s _ _ h1 h2=>show r.1 n+s.1 n=0;rw [h1,h2];grind
 | mul c r hc _ h1=>show c*r.1 n=0;rw [h1];grind
theorem Zsx{L U:List Rat}(h:∀l∈L,∀u∈U,l≤u):∃y,(∀l∈L,l≤y)∧∀u∈U,y≤u:=by
 have top:∀L:List Rat,L≠[]→∃m∈L,∀l∈L,l≤m:=by
  intro L
  induction L with
  | nil=>intro h;exact absurd rfl h
  | cons a L ih=>
    intro _
    rcases L with _|⟨b,L⟩
    ·exact ⟨a,by simp,fun l hl=>by simp at hl;subst hl;exact Rat.le_refl⟩
    ·obtain ⟨m,hm,Wo⟩:=ih (by simp)
     by_cases hc:a≤m
     ·exact ⟨m,by simp [hm],fun l hl=>by
       rcases List.mem_cons.1 hl with rfl|hl
       ·exact hc
       ·exact Wo l hl⟩
     ·exact ⟨a,by simp,fun l hl=>by
       rcases List.mem_cons.1 hl with rfl|hl
       ·exact Rat.le_refl
       ·have:=Wo l hl;grind⟩
 have bot:∀L:List Rat,L≠[]→∃m∈L,∀l∈L,m≤l:=by
  intro L hL
  obtain ⟨m,hm,Wo⟩:=top (L.map fun x=>-x) (by simpa using hL)
  obtain ⟨x,hx,rfl⟩:=List.mem_map.1 hm
  exact ⟨x,hx,fun l hl=>by have:=Wo (-l) (List.mem_map.2 ⟨l,hl,rfl⟩);grind⟩
 by_cases hL:L=[]
 ·by_cases hU:U=[]
  ·exact ⟨0,by simp [hL],by simp [hU]⟩
  ·obtain ⟨m,hm,Wo⟩:=bot U hU
   exact ⟨m,by simp [hL],Wo⟩
 ·obtain ⟨m,hm,Wo⟩:=top L hL
  exact ⟨m,Wo,fun u hu=>h m hm u hu⟩
def Xo(n:Nat)(r:(Nat→Rat) × Rat)(x:Nat→Rat):Rat:=r.2+Yn (fun j=>r.1 j*x j) n
theorem Zl9(n:Nat)(r:(Nat→Rat) × Rat)(x:Nat→Rat):Xo (n+1) r x=Xo n r x+r.1 n*x n:=by
 unfold Xo
 simp only [Yn]
 grind
theorem Zic{n:Nat}{r:(Nat→Rat) × Rat}{x y:Nat→Rat}(h:∀j,j<n→x j=y j):Xo n r x=Xo n r y:=by
 unfold Xo
 rw [ZS (fun j hj=>by rw [h j hj])]
theorem Zpa(n:Nat)(r s:(Nat→Rat) × Rat)(x:Nat→Rat):Xo n (fun j=>r.1 j+s.1 j,r.2+s.2) x=Xo n r x+Xo n s x:=by
 unfold Xo
 have:Yn (fun j=>(r.1 j+s.1 j)*x j) n=Yn (fun j=>r.1 j*x j) n+Yn (fun j=>s.1 j*x j) n:=by
  rw [←Wm];exact ZS (fun j _=>by grind)
 rw [this];grind
theorem ZhF(n:Nat)(c:Rat)(r:(Nat→Rat) × Rat)(x:Nat→Rat):Xo n (fun j=>c*r.1 j,c*r.2) x=c*Xo n r x:=by
 unfold Xo
 have:Yn (fun j=>c*r.1 j*x j) n=c*Yn (fun j=>r.1 j*x j) n:=by
  rw [←XX];exact ZS (fun j _=>by grind)
 rw [this];grind
def Znd(n:Nat)(p q:(Nat→Rat) × Rat):(Nat→Rat) × Rat:=(fun j=>-(q.1 n)*p.1 j+p.1 n*q.1 j,-(q.1 n)*p.2+p.1 n*q.2)
theorem Zlw(m n:Nat)(p q:(Nat→Rat) × Rat)(x:Nat→Rat):Xo m (Znd n p q) x=-(q.1 n)*Xo m p x+p.1 n*Xo m q x:=by
 have h:=Zpa m (fun j=>-(q.1 n)*p.1 j,-(q.1 n)*p.2) (fun j=>p.1 n*q.1 j,p.1 n*q.2) x
 rw [ZhF,ZhF] at h
 exact h
theorem Zm0:∀(n:Nat) (rows:List ((Nat→Rat) × Rat)),(∃x:Nat→Rat,∀r∈rows,0≤Xo n r x)∨∃r,Cone (fun r=>r∈rows) r∧(∀j,j<n→r.1 j=0)∧r.2<0
 | 0,rows=>by
   by_cases h:∃r∈rows,r.2<0
   ·obtain ⟨r,hr,h0⟩:=h
    exact .inr ⟨r,.base r hr,fun j hj=>by omega,h0⟩
   ·refine .inl ⟨fun _=>0,fun r hr=>?_⟩
    have:¬r.2<0:=fun h0=>h ⟨r,hr,h0⟩
    unfold Xo
    simp only [Yn]
    grind
 | n+1,rows=>by
   have key:=Zm0 n (rows.filter (fun r=>decide (r.1 n=0))++(rows.filter (fun r=>decide (0<r.1 n))).flatMap fun p=>(rows.filter (fun r=>decide (r.1 n<0))).map fun q=>Znd n p q)
   rcases key with ⟨x,hx⟩|⟨r,hr,hz,hneg⟩
   ·left
    have hp:∀p∈rows,0<p.1 n→∀q∈rows,q.1 n<0→0≤-(q.1 n)*Xo n p x+p.1 n*Xo n q x:=fun p hp h1 q hq h2=>by
     rw [←Zlw]
     refine hx _ (List.mem_append.2 (.inr (List.mem_flatMap.2 ⟨p,?_,List.mem_map.2 ⟨q,?_,rfl⟩⟩)))
     ·exact List.mem_filter.2 ⟨hp,by simpa using h1⟩
     ·exact List.mem_filter.2 ⟨hq,by simpa using h2⟩
    obtain ⟨y,hl,hu⟩:=Zsx (L:=(rows.filter (fun r=>decide (0<r.1 n))).map fun p=>-(Xo n p x) / p.1 n) (U:=(rows.filter (fun r=>decide (r.1 n<0))).map fun q=>-(Xo n q x) / q.1 n) (by
     intro l hl u hu
     obtain ⟨p,hp',rfl⟩:=List.mem_map.1 hl
     obtain ⟨q,hq',rfl⟩:=List.mem_map.1 hu
     obtain ⟨hp1,hp2⟩:=List.mem_filter.1 hp'
     obtain ⟨hq1,hq2⟩:=List.mem_filter.1 hq'
     have hp2:0<p.1 n:=by simpa using hp2
     have hq2:q.1 n<0:=by simpa using hq2
     have h:=hp p hp1 hp2 q hq1 hq2
     generalize Xo n p x=a at*
     generalize Xo n q x=b at*
     generalize p.1 n=s at*
     generalize q.1 n=t at*
     have h1:s≠0:=by grind
     have h2:t≠0:=by grind
     have e1:-a / s=(-(a*t)) / (s*t):=by grind
     have e2:-b / t=(-(b*s)) / (s*t):=by grind
     have hst:0<s*(-t):=Rat.mul_pos hp2 (by grind)
     have e3:(-b / t - -a / s)*(s*(-t))=-t*a+s*b:=by grind
     rcases @Rat.le_total (-a / s) (-b / t) with h9|h9
     ·exact h9
     ·have h8:0≤-a / s - -b / t:=by grind
      have h7:0≤(-a / s - -b / t)*(s*(-t)):=Rat.mul_nonneg h8 (by grind)
      have h6:(-a / s - -b / t)*(s*(-t))=-(-t*a+s*b):=by grind
      have h5:-t*a+s*b=0:=by grind
      have h4:(-b / t - -a / s)*(s*(-t))=0:=by rw [e3,h5]
      have h3:-b / t - -a / s=0:=by
       rcases Rat.mul_eq_zero.1 h4 with h|h
       ·exact h
       ·grind
      grind)
    refine ⟨fun j=>if j=n then y else x j,fun r hr=>?_⟩
    rw [Zl9,Zic (y:=x) (fun j hj=>by rw [if_neg (by omega)]),if_pos rfl]
    by_cases h0:r.1 n=0
    ·have:=hx r (List.mem_append.2 (.inl (List.mem_filter.2 ⟨hr,by simpa using h0⟩)))
     rw [h0];grind
    ·by_cases h1:0<r.1 n
     ·have h2:=hl (-(Xo n r x) / r.1 n) (List.mem_map.2 ⟨r,List.mem_filter.2 ⟨hr,by simpa using h1⟩,rfl⟩)
      have h3:0≤(y - -(Xo n r x) / r.1 n)*r.1 n:=Rat.mul_nonneg (by grind) (by grind)
      have h4:(y - -(Xo n r x) / r.1 n)*r.1 n=Xo n r x+r.1 n*y:=by grind
      grind
     ·have h1':r.1 n<0:=by grind
      have h2:=hu (-(Xo n r x) / r.1 n) (List.mem_map.2 ⟨r,List.mem_filter.2 ⟨hr,by simpa using h1'⟩,rfl⟩)
      have h3:0≤(-(Xo n r x) / r.1 n-y)*(-(r.1 n)):=Rat.mul_nonneg (by grind) (by grind)
      have h4:(-(Xo n r x) / r.1 n-y)*(-(r.1 n))=Xo n r x+r.1 n*y:=by grind
      grind
   ·right
    refine ⟨r,hr.sub (fun s hs=>?_),fun j hj=>?_,hneg⟩
    ·rcases List.mem_append.1 hs with h|h
     ·exact .base s (List.mem_filter.1 h).1
     ·obtain ⟨p,hp,h2⟩:=List.mem_flatMap.1 h
      obtain ⟨q,hq,rfl⟩:=List.mem_map.1 h2
      obtain ⟨hp1,hp2⟩:=List.mem_filter.1 hp
      obtain ⟨hq1,hq2⟩:=List.mem_filter.1 hq
      have hp2:0<p.1 n:=by simpa using hp2
      have hq2:q.1 n<0:=by simpa using hq2
      exact .add _ _ (.mul (-(q.1 n)) p (by grind) (.base p hp1)) (.mul (p.1 n) q (by grind) (.base q hq1))
    ·rcases Nat.lt_or_ge j n with h|h
     ·exact hz j h
     ·have e:j=n:=by omega
      subst e
      refine Cone.coef (fun s hs=>?_) hr
      rcases List.mem_append.1 hs with h|h
      ·have:=(List.mem_filter.1 h).2;simpa using this
      ·obtain ⟨p,hp,h2⟩:=List.mem_flatMap.1 h
       obtain ⟨q,hq,rfl⟩:=List.mem_map.1 h2
       show -(q.1 j)*p.1 j+p.1 j*q.1 j=0
       grind
theorem Cone.fam{m:Nat}{a:Nat→Nat→Rat}{b:Nat→Rat}{r:(Nat→Rat) × Rat}(h:Cone (fun r=>∃i,i<m∧r=(a i,b i)) r):
  ∃l:Nat→Rat,(∀i,0≤l i)∧(∀j,r.1 j=Yn (fun i=>l i*a i j) m)∧r.2=Yn (fun i=>l i*b i) m:=by
 induction h with
 | base r hr=>
   obtain ⟨k,hk,rfl⟩:=hr
   refine ⟨fun i=>if i=k then 1 else 0,fun i=>by dsimp only;split <;>grind,fun j=>?_,?_⟩
   ·rw [VV hk (fun i _ hi=>by dsimp only;rw [if_neg hi];grind)];dsimp only;rw [if_pos rfl];grind
   ·rw [VV hk (fun i _ hi=>by dsimp only;rw [if_neg hi];grind)];dsimp only;rw [if_pos rfl];grind
 | zero=>exact ⟨fun _=>0,fun _=>Rat.le_refl,fun j=>by rw [ZS (g:=fun _=>0) (fun i _=>by grind),Wx],by rw [ZS (g:=fun _=>0) (fun i _=>by grind),Wx]⟩
 | add r s _ _ h1 h2=>
   obtain ⟨l1,p1,q1,s1⟩:=h1
   obtain ⟨l2,p2,q2,s2⟩:=h2
   refine ⟨fun i=>l1 i+l2 i,fun i=>by have:=p1 i;have:=p2 i;grind,fun j=>?_,?_⟩
   ·show r.1 j+s.1 j=_
    rw [q1 j,q2 j,←Wm];exact ZS (fun i _=>by grind)
   ·show r.2+s.2=_
    rw [s1,s2,←Wm];exact ZS (fun i _=>by grind)
 | mul c r hc _ h1=>
   obtain ⟨l1,p1,q1,s1⟩:=h1
   refine ⟨fun i=>c*l1 i,fun i=>Rat.mul_nonneg hc (p1 i),fun j=>?_,?_⟩
   ·show c*r.1 j=_
    rw [q1 j,←XX];exact ZS (fun i _=>by grind)
   ·show c*r.2=_
    rw [s1,←XX];exact ZS (fun i _=>by grind)
theorem ZhU(m n:Nat)(a:Nat→Nat→Rat)(b:Nat→Rat):(∃x:Nat→Rat,∀i,i<m→0≤b i+Yn (fun j=>a i j*x j) n)∨∃l:Nat→Rat,(∀i,0≤l i)∧(∀j,j<n→Yn (fun i=>l i*a i j) m=0)∧Yn (fun i=>l i*b i) m<0:=by
 rcases Zm0 n ((List.range m).map fun i=>(a i,b i)) with ⟨x,hx⟩|⟨r,hr,hz,hn⟩
 ·exact .inl ⟨x,fun i hi=>hx _ (List.mem_map.2 ⟨i,List.mem_range.2 hi,rfl⟩)⟩
 ·right
  obtain ⟨l,h1,h2,h3⟩:=Cone.fam (m:=m) (a:=a) (b:=b) (hr.sub (fun s hs=>by
   obtain ⟨i,hi,rfl⟩:=List.mem_map.1 hs
   exact .base _ ⟨i,List.mem_range.1 hi,rfl⟩))
  exact ⟨l,h1,fun j hj=>by rw [←h2 j];exact hz j hj,by rw [←h3];exact hn⟩
theorem UL{a b:Rat}(ha:0<a)(hb:0<b):0<a / b:=by
 by_cases h:0<a / b
 ·exact h
 ·have h1:0≤-(a / b)*b:=Rat.mul_nonneg (by grind) (by grind)
  have h2:-(a / b)*b=-a:=by grind
  grind
def cmb(M:Nat)(o:Nat→Nat→Rat)(l:Nat→Rat)(v:Nat):Rat:=Yn (fun i=>l i*o i v) M
theorem Jz(M:Nat)(o:Nat→Nat→Rat)(l m:Nat→Rat)(v:Nat):cmb M o (fun i=>l i+m i) v=cmb M o l v+cmb M o m v:=by
 unfold cmb;rw [←Wm];exact ZS (fun i _=>by grind)
theorem Vk(M:Nat)(o:Nat→Nat→Rat)(c:Rat)(m:Nat→Rat)(v:Nat):cmb M o (fun i=>c*m i) v=c*cmb M o m v:=by
 unfold cmb;rw [←XX];exact ZS (fun i _=>by grind)
theorem Zsc(M:Nat)(o:Nat→Nat→Rat)(l m:Nat→Rat)(t:Rat)(v:Nat):cmb M o (fun i=>l i-t*m i) v=cmb M o l v-t*cmb M o m v:=by
 have h1:=Vk M o (-t) m v
 have h2:=Jz M o l (fun i=>-t*m i) v
 have e:(fun i=>l i-t*m i)=fun i=>l i+-t*m i:=by funext i;grind
 rw [e,h2,h1];grind
structure InC (M:Nat) (o:Nat→Nat→Rat) (E:List Nat) (l:Nat→Rat):Prop where
 nn:∀i,0≤l i
 off:∀i,M≤i→l i=0
 zero:∀v∈E,cmb M o l v=0
def Nz(l:Nat→Rat):Prop:=∃i,l i≠0
def JC(l m:Nat→Rat):Prop:=∀i,l i≠0→m i≠0
structure MinS (M:Nat) (o:Nat→Nat→Rat) (E:List Nat) (l:Nat→Rat):Prop where
 inC:InC M o E l
 nz:Nz l
 least:∀m,InC M o E m→Nz m→JC m l→JC l m
def Wq(l:Nat→Rat):Nat→Nat
 | 0=>0
 | n+1=>Wq l n+if l n=0 then 0 else 1
theorem ZjC{l m:Nat→Rat}(h:JC m l):∀n,Wq m n≤Wq l n
 | 0=>Nat.le_refl _
 | n+1=>by
   have ih:=ZjC h n
   rw [Wq,Wq]
   by_cases h0:m n=0
   ·rw [if_pos h0];split <;>omega
   ·rw [if_neg h0,if_neg (h n h0)];omega
theorem Zaq{l m:Nat→Rat}(h:JC m l){k:Nat}(h1:l k≠0)(h2:m k=0):∀n,k<n→Wq m n<Wq l n
 | 0,hk=>by omega
 | n+1,hk=>by
   rw [Wq,Wq]
   by_cases e:k=n
   ·subst e
    have:=ZjC h k
    rw [if_pos h2,if_neg h1];omega
   ·have ih:=Zaq h h1 h2 n (by omega)
    by_cases h0:m n=0
    ·rw [if_pos h0];split <;>omega
    ·rw [if_neg h0,if_neg (h n h0)];omega
theorem Zo9{P:Nat→Prop}(f:Nat→Rat):∀(M:Nat),(∃i,i<M∧P i)→∃k,k<M∧P k∧∀i,i<M→P i→f k≤f i
 | 0,⟨i,hi,_⟩=>by omega
 | M+1,⟨i,hi,hp⟩=>by
   by_cases h:∃i,i<M∧P i
   ·obtain ⟨k,hk,hpk,hmin⟩:=Zo9 f M h
    by_cases hM:P M∧f M≤f k
    ·refine ⟨M,by omega,hM.1,fun j hj hpj=>?_⟩
     by_cases e:j=M
     ·subst e;exact Rat.le_refl
     ·have:=hmin j (by omega) hpj;have:=hM.2;grind
    ·refine ⟨k,by omega,hpk,fun j hj hpj=>?_⟩
     by_cases e:j=M
     ·subst e
      have:¬f j≤f k:=fun h9=>hM ⟨hpj,h9⟩
      grind
     ·exact hmin j (by omega) hpj
   ·have e:i=M:=by
     by_cases e:i=M
     ·exact e
     ·exact absurd ⟨i,by omega,hp⟩ h
    subst e
    exact ⟨i,by omega,hp,fun j hj hpj=>by
     by_cases e:j=i
     ·subst e;exact Rat.le_refl
     ·exact absurd ⟨j,by omega,hpj⟩ h⟩
theorem cut{M:Nat}{o:Nat→Nat→Rat}{E:List Nat}{l n:Nat→Rat}(hl:InC M o E l)(h0:∀i,M≤i→n i=0)(hz:∀v∈E,cmb M o n v=0)(hs:JC n l)(hp:∃i,0<n i):
  ∃t,0<t∧InC M o E (fun i=>l i-t*n i)∧JC (fun i=>l i-t*n i) l∧∃k,k<M∧l k≠0∧l k-t*n k=0:=by
 obtain ⟨i0,hi0⟩:=hp
 have hi0M:i0<M:=by
  rcases Nat.lt_or_ge i0 M with h|h
  ·exact h
  ·have:=h0 i0 h;grind
 obtain ⟨k,hk,hpk,hmin⟩:=Zo9 (P:=fun i=>0<n i) (fun i=>l i / n i) M ⟨i0,hi0M,hi0⟩
 have hlk:l k≠0:=hs k (by grind)
 have hlk0:=hl.nn k
 have hpk':0<n k:=hpk
 refine ⟨l k / n k,?_,⟨fun i=>?_,fun i hi=>?_,fun v hv=>?_⟩,fun i hi hli=>?_,k,hk,hlk,?_⟩
 ·have h1:0<l k:=by grind
  exact UL h1 hpk'
 ·have ht:0≤l k / n k:=Rat.le_of_lt (UL (by grind) hpk')
  have hli:=hl.nn i
  by_cases hn:0<n i
  ·have hiM:i<M:=by
    rcases Nat.lt_or_ge i M with h|h
    ·exact h
    ·have:=h0 i h;grind
   have h1:=hmin i hiM hn
   have h2:0≤(l i / n i-l k / n k)*n i:=Rat.mul_nonneg (by grind) (by grind)
   have h3:(l i / n i-l k / n k)*n i=l i-l k / n k*n i:=by grind
   show 0≤l i-l k / n k*n i
   grind
  ·have h2:0≤l k / n k*(-(n i)):=Rat.mul_nonneg ht (by grind)
   show 0≤l i-l k / n k*n i
   grind
 ·show l i-l k / n k*n i=0
  rw [hl.off i hi,h0 i hi];grind
 ·rw [Zsc,hl.zero v hv,hz v hv];grind
 ·refine hi ?_
  have hni:n i=0:=by
   by_cases h9:n i=0
   ·exact h9
   ·exact absurd hli (hs i h9)
  show l i-l k / n k*n i=0
  rw [hli,hni];grind
 ·grind
theorem MinS.uniq{M:Nat}{o:Nat→Nat→Rat}{E:List Nat}{l m:Nat→Rat}(h:MinS M o E l)(hm:InC M o E m)(hn:Nz m)(hs:JC m l):∃c,0<c∧∀i,l i=c*m i:=by
 obtain ⟨i0,hi0⟩:=hn
 have hi0':0<m i0:=by have:=hm.nn i0;grind
 obtain ⟨t,ht,hc,hsub,k,hk,hlk,hz⟩:=cut h.inC hm.off hm.zero hs ⟨i0,hi0'⟩
 refine ⟨t,ht,fun i=>?_⟩
 by_cases h9:Nz (fun i=>l i-t*m i)
 ·exact absurd hz (h.least _ hc h9 hsub k hlk)
 ·by_cases e:l i-t*m i=0
  ·grind
  ·exact absurd ⟨i,e⟩ h9
theorem Zil{M:Nat}{o:Nat→Nat→Rat}{E:List Nat}:∀(d:Nat) {l:Nat→Rat},Wq l M≤d→InC M o E l→Nz l→∃m,MinS M o E m∧JC m l:=by
 intro d
 induction d with
 | zero=>
   intro l hd hl hn
   obtain ⟨i,hi⟩:=hn
   have hiM:i<M:=by
    rcases Nat.lt_or_ge i M with h|h
    ·exact h
    ·exact absurd (hl.off i h) hi
   have:=Zaq (m:=fun _=>0) (l:=l) (fun j hj=>absurd rfl hj) hi rfl M hiM
   omega
 | succ d ih=>
   intro l hd hl hn
   by_cases h:∃m,InC M o E m∧Nz m∧JC m l∧¬JC l m
   ·obtain ⟨m,h1,h2,h3,h4⟩:=h
    have:∃k,l k≠0∧m k=0:=by
     refine Classical.byContradiction fun h9=>h4 fun i hi h0=>h9 ⟨i,hi,h0⟩
    obtain ⟨k,hk1,hk2⟩:=this
    have hkM:k<M:=by
     rcases Nat.lt_or_ge k M with h|h
     ·exact h
     ·exact absurd (hl.off k h) hk1
    obtain ⟨m',h5,h6⟩:=ih (by have:=Zaq h3 hk1 hk2 M hkM;omega) h1 h2
    exact ⟨m',h5,fun i hi=>h3 i (h6 i hi)⟩
   ·exact ⟨l,⟨hl,hn,fun m h1 h2 h3=>Classical.byContradiction fun h4=>h ⟨m,h1,h2,h3,h4⟩⟩,fun i hi=>hi⟩
theorem Zf8{M:Nat}{o:Nat→Nat→Rat}{E:List Nat}{P:(Nat→Rat)→Prop}(hadd:∀m m',P m→P m'→P (fun i=>m i+m' i))(hmul:∀c m,0<c→P m→P (fun i=>c*m i)):
  ∀(d:Nat) {l:Nat→Rat},Wq l M≤d→InC M o E l→Nz l→(∀m,MinS M o E m→JC m l→P m)→P l:=by
 intro d
 induction d with
 | zero=>
   intro l hd hl hn _
   obtain ⟨i,hi⟩:=hn
   have hiM:i<M:=by
    rcases Nat.lt_or_ge i M with h|h
    ·exact h
    ·exact absurd (hl.off i h) hi
   have:=Zaq (m:=fun _=>0) (l:=l) (fun j hj=>absurd rfl hj) hi rfl M hiM
   omega
 | succ d ih=>
   intro l hd hl hn hb
   obtain ⟨m,hm,hs⟩:=Zil (M:=M) (o:=o) (E:=E) (Wq l M) (Nat.le_refl _) hl hn
   obtain ⟨i0,hi0⟩:=hm.nz
   have hi0':0<m i0:=by have:=hm.inC.nn i0;grind
   obtain ⟨t,ht,hc,hsub,k,hk,hlk,hz⟩:=cut hl hm.inC.off hm.inC.zero hs ⟨i0,hi0'⟩
   have hPm:=hmul t m ht (hb m hm hs)
   by_cases h9:Nz (fun i=>l i-t*m i)
   ·have h1:=ih (l:=fun i=>l i-t*m i) (by have:=Zaq hsub hlk hz M hk;omega) hc h9 (fun m' h1 h2=>hb m' h1 (fun i hi=>hsub i (h2 i hi)))
    have h2:=hadd _ _ h1 hPm
    have e:(fun i=>(fun i=>l i-t*m i) i+(fun i=>t*m i) i)=l:=by funext i;dsimp only;grind
    rw [e] at h2
    exact h2
   ·have e:(fun i=>t*m i)=l:=by
     funext i
     by_cases e:l i-t*m i=0
     ·grind
     ·exact absurd ⟨i,e⟩ h9
    rw [e] at hPm
    exact hPm
def Qy(f:Nat→Rat):List Nat→Rat
 | []=>0
 | i::I=>f i+Qy f I
theorem Zdg{f g:Nat→Rat}{I:List Nat}(h:∀i∈I,f i=g i):Qy f I=Qy g I:=by
 induction I with
 | nil=>rfl
 | cons a I ih=>rw [Qy,Qy,h a (by simp),ih (fun i hi=>h i (by simp [hi]))]
theorem ZlI{f:Nat→Rat}{I:List Nat}(h:∀i∈I,f i=0):Qy f I=0:=by
 induction I with
 | nil=>rfl
 | cons a I ih=>rw [Qy,h a (by simp),ih (fun i hi=>h i (by simp [hi]))];grind
theorem ZdS{f:Nat→Rat}{I:List Nat}{p:Nat}(h:p∈I):Qy f I=f p+Qy f (I.erase p):=by
 induction I with
 | nil=>cases h
 | cons a I ih=>
   by_cases e:a=p
   ·subst e;simp [Qy]
   ·have:p∈I:=by rcases List.mem_cons.1 h with h|h;exact absurd h.symm e;exact h
    rw [List.erase_cons_tail (by simpa using e),Qy,Qy,ih this];grind
theorem ZgA(f:Nat→Rat)(I J:List Nat):Qy f (I++J)=Qy f I+Qy f J:=by
 induction I with
 | nil=>show _=0+_;grind
 | cons a I ih=>show f a+Qy f (I++J)=f a+Qy f I+_;rw [ih];grind
theorem Zii(f:Nat→Rat)(M:Nat):Qy f (List.range M)=Yn f M:=by
 induction M with
 | zero=>rfl
 | succ M ih=>rw [List.range_succ,ZgA,ih];show Yn f M+(f M+0)=Yn f M+f M;grind
theorem Zgm{f:Nat→Rat}{p:Nat→Bool}(I:List Nat)(h:∀i∈I,p i=false→f i=0):Qy f (I.filter p)=Qy f I:=by
 induction I with
 | nil=>rfl
 | cons a I ih=>
   have ih':=ih (fun i hi=>h i (by simp [hi]))
   rcases hp:p a with _|_
   ·rw [List.filter_cons_of_neg (by simp [hp]),ih',Qy,h a (by simp) hp];grind
   ·rw [List.filter_cons_of_pos hp,Qy,Qy,ih']
theorem Znb(f g:Nat→Rat)(I:List Nat):Qy (fun i=>f i+g i) I=Qy f I+Qy g I:=by
 induction I with
 | nil=>show (0:Rat)=0+0;grind
 | cons a I ih=>simp only [Qy,ih];grind
theorem Zpm(c:Rat)(f:Nat→Rat)(I:List Nat):Qy (fun i=>c*f i) I=c*Qy f I:=by
 induction I with
 | nil=>show (0:Rat)=c*0;grind
 | cons a I ih=>simp only [Qy,ih];grind
theorem dep:∀(E:List Nat) (o:Nat→Nat→Rat) (I:List Nat),I.Nodup→E.length<I.length→∃n:Nat→Rat,(∀i,i ∉ I→n i=0)∧(∃i,n i≠0)∧∀v∈E,Qy (fun i=>n i*o i v) I=0
 | [],o,I,hI,hl=>by
   rcases I with _|⟨a,I⟩
   ·simp at hl
   ·exact ⟨fun i=>if i=a then 1 else 0,fun i hi=>by dsimp only;rw [if_neg (fun e=>hi (by simp [e]))],⟨a,by dsimp only;rw [if_pos rfl];decide+kernel⟩,fun v hv=>by cases hv⟩
 | v::E,o,I,hI,hl=>by
   simp only [List.length_cons] at hl
   by_cases h:∃p∈I,o p v≠0
   ·obtain ⟨p,hp,hpv⟩:=h
    obtain ⟨n,h1,⟨i0,h2⟩,h3⟩:=dep E (fun i u=>o i u-o i v / o p v*o p u) (I.erase p) (hI.erase p) (by rw [List.length_erase_of_mem hp];omega)
    have hnp:n p=0:=h1 p (fun h9=>by have:=hI.mem_erase_iff.1 h9;exact this.1 rfl)
    have hne:∀i,i∈I.erase p→i≠p:=fun i hi e=>by subst e;exact (hI.mem_erase_iff.1 hi).1 rfl
    refine ⟨fun i=>if i=p then -(Qy (fun i=>n i*o i v) (I.erase p)) / o p v else n i,fun i hi=>?_,⟨i0,?_⟩,fun u hu=>?_⟩
    ·dsimp only
     rw [if_neg (fun e=>hi (by rw [e];exact hp))]
     exact h1 i (fun h9=>hi (List.mem_of_mem_erase h9))
    ·dsimp only
     rw [if_neg (fun e=>h2 (by rw [e];exact hnp))]
     exact h2
    ·rw [ZdS hp]
     dsimp only
     have e2:Qy (fun i=>(if i=p then -(Qy (fun i=>n i*o i v) (I.erase p)) / o p v else n i)*o i u) (I.erase p)=Qy (fun i=>n i*o i u) (I.erase p):=Zdg (fun i hi=>by rw [if_neg (hne i hi)])
     rw [if_pos rfl,e2]
     rcases List.mem_cons.1 hu with rfl|hu
     ·grind
     ·have h4:=h3 u hu
      have e:Qy (fun i=>n i*(o i u-o i v / o p v*o p u)) (I.erase p)=Qy (fun i=>n i*o i u) (I.erase p)+-(o p u / o p v)*Qy (fun i=>n i*o i v) (I.erase p):=by
       rw [←Zpm,←Znb]
       exact Zdg (fun i _=>by grind)
      rw [e] at h4
      generalize Qy (fun i=>n i*o i u) (I.erase p)=A at*
      generalize Qy (fun i=>n i*o i v) (I.erase p)=B at*
      grind
   ·have hz:∀i∈I,o i v=0:=fun i hi=>Classical.byContradiction fun h9=>h ⟨i,hi,h9⟩
    obtain ⟨n,h1,h2,h3⟩:=dep E o I hI (by omega)
    refine ⟨n,h1,h2,fun u hu=>?_⟩
    rcases List.mem_cons.1 hu with rfl|hu
    ·exact ZlI (fun i hi=>by rw [hz i hi];grind)
    ·exact h3 u hu
theorem Zca(l:Nat→Rat):∀M,((List.range M).filter (fun i=>decide (l i≠0))).length=Wq l M
 | 0=>rfl
 | M+1=>by
   rw [List.range_succ,List.filter_append,List.length_append,Zca l M,Wq]
   by_cases h:l M=0
   ·rw [if_pos h,List.filter_cons_of_neg (by simpa using h)];simp
   ·rw [if_neg h,List.filter_cons_of_pos (by simpa using h)];simp
theorem MinS.size{M:Nat}{o:Nat→Nat→Rat}{E:List Nat}{l:Nat→Rat}(h:MinS M o E l):Wq l M≤E.length+1:=by
 refine Classical.byContradiction fun hc=>?_
 obtain ⟨s0,hs0⟩:=h.nz
 have hs0M:s0<M:=by
  rcases Nat.lt_or_ge s0 M with h9|h9
  ·exact h9
  ·exact absurd (h.inC.off s0 h9) hs0
 have hmem:s0∈(List.range M).filter (fun i=>decide (l i≠0)):=List.mem_filter.2 ⟨List.mem_range.2 hs0M,by simpa using hs0⟩
 have hnd:((List.range M).filter (fun i=>decide (l i≠0))).Nodup:=List.nodup_range.filter _
 obtain ⟨n,h1,⟨i0,h2⟩,h3⟩:=dep E o (((List.range M).filter (fun i=>decide (l i≠0))).erase s0) (hnd.erase s0) (by rw [List.length_erase_of_mem hmem,Zca];omega)
 have hn0:n s0=0:=h1 s0 (fun h9=>(hnd.mem_erase_iff.1 h9).1 rfl)
 have hsub:∀i,n i≠0→i<M∧l i≠0:=fun i hi=>by
  have:i∈((List.range M).filter (fun i=>decide (l i≠0))).erase s0:=Classical.byContradiction fun h9=>hi (h1 i h9)
  have:=(List.mem_filter.1 (List.mem_of_mem_erase this))
  exact ⟨List.mem_range.1 this.1,by simpa using this.2⟩
 have hz:∀v∈E,cmb M o n v=0:=fun v hv=>by
  have h4:=h3 v hv
  have h5:=ZdS (f:=fun i=>n i*o i v) hmem
  rw [h4] at h5
  have h6:=Zgm (f:=fun i=>n i*o i v) (p:=fun i=>decide (l i≠0)) (List.range M) (fun i _ hp=>by
   have:n i=0:=Classical.byContradiction fun h9=>(hsub i h9).2 (by simpa using hp)
   rw [this];grind)
  unfold cmb
  rw [←Zii,←h6,h5,hn0];grind
 have hoff:∀i,M≤i→n i=0:=fun i hi=>Classical.byContradiction fun h9=>by have:=(hsub i h9).1;omega
 have fin:∀n':Nat→Rat,(∀i,M≤i→n' i=0)→(∀v∈E,cmb M o n' v=0)→JC n' l→(∃i,0<n' i)→n' s0=0→False:=fun n' a b c d e=>by
  obtain ⟨t,ht,hc',hs',k,hk,hlk,hzk⟩:=cut h.inC a b c d
  have hnz:Nz (fun i=>l i-t*n' i):=⟨s0,by dsimp only;rw [e];grind⟩
  exact h.least _ hc' hnz hs' k hlk hzk
 by_cases hpos:∃i,0<n i
 ·exact fin n hoff hz (fun i hi=>(hsub i hi).2) hpos hn0
 ·refine fin (fun i=>-1*n i) (fun i hi=>by rw [hoff i hi];grind) (fun v hv=>by rw [Vk,hz v hv];grind) (fun i hi=>(hsub i (fun h9=>hi (by show -1*n i=0;rw [h9];grind))).2) ⟨i0,?_⟩ (by rw [hn0];grind)
  have:¬0<n i0:=fun h9=>hpos ⟨i0,h9⟩
  try dsimp only
  grind
def Vj:Nat→Nat→Nat
 | 0,_=>0
 | k+1,x=>x % 2+Vj k (x / 2)
theorem Zqj{l:Nat→Rat}:∀(M x:Nat),(∀i,i<M→(l i≠0↔x.testBit i=true))→Vj M x=Wq l M:=by
 have key:∀(M x:Nat) (l:Nat→Rat),(∀i,i<M→(l i≠0↔x.testBit i=true))→Vj M x=Wq l M:=by
  intro M
  induction M with
  | zero=>intro x l _;rfl
  | succ M ih=>
    intro x l h
    have h1:=ih (x / 2) (fun i=>l (i+1)) (fun i hi=>by rw [h (i+1) (by omega),Nat.testBit_succ])
    have h2:∀(k:Nat),Wq l (k+1)=(if l 0=0 then 0 else 1)+Wq (fun i=>l (i+1)) k:=by
     intro k
     induction k with
     | zero=>simp [Wq]
     | succ k ih2=>rw [Wq,ih2,Wq];omega
    rw [Vj,h1,h2]
    have h0:=h 0 (by omega)
    rw [Nat.testBit_zero] at h0
    by_cases e:l 0=0
    ·have:¬x % 2=1:=fun h9=>(h0.2 (by simpa using h9)) e
     rw [if_pos e];omega
    ·have:=h0.1 e
     rw [if_neg e];simp at this;omega
 exact fun M x h=>key M x l h
abbrev Zcj:=(Nat→Rat) × Nat
structure Snd (M N:Nat) (o:Nat→Nat→Rat) (r:Zcj) (l:Nat→Rat):Prop where
 nn:∀i,0≤l i
 off:∀i,M≤i→l i=0
 bits:∀i,l i≠0↔r.2.testBit i=true
 val:∀u,u<N→r.1 u=cmb M o l u
 nz:Nz l
structure Inv (M N:Nat) (o:Nat→Nat→Rat) (E:List Nat) (rows:List Zcj):Prop where
 snd:∀r∈rows,∃l,Snd M N o r l
 zero:∀r∈rows,∀v∈E,r.1 v=0
 all:∀m,MinS M o E m→∃r∈rows,∀i,m i≠0↔r.2.testBit i=true
 low:∀v∈E,v<N
structure Zpu (N:Nat) (l:List Zcj) (v k:Nat) (l':List Zcj):Prop where
 from_:∀r∈l',(r∈l∧r.1 v=0)∨∃p∈l,∃q∈l,0<p.1 v∧q.1 v<0∧r.2=p.2 ||| q.2∧∃g:Rat,0<g∧∀u,u<N→r.1 u=g*(p.1 u*(-(q.1 v))+q.1 u*p.1 v)
 keep:∀r∈l,r.1 v=0→r∈l'
 pair:∀p∈l,∀q∈l,0<p.1 v→q.1 v<0→Vj 64 (p.2 ||| q.2)≤k+1→∃r∈l',r.2=p.2 ||| q.2
theorem Snd.inC{M N:Nat}{o:Nat→Nat→Rat}{r:Zcj}{l:Nat→Rat}{E:List Nat}(h:Snd M N o r l)(hz:∀v∈E,r.1 v=0)(hl:∀v∈E,v<N):InC M o E l:=
 ⟨h.nn,h.off,fun v hv=>by rw [←h.val v (hl v hv)];exact hz v hv⟩
theorem Snd.mult{M N:Nat}{o:Nat→Nat→Rat}{r:Zcj}{l m:Nat→Rat}{E:List Nat}(h:Snd M N o r l)(hz:∀v∈E,r.1 v=0)(hl:∀v∈E,v<N)(hm:MinS M o E m)(hb:∀i,m i≠0↔r.2.testBit i=true):
  ∃c,0<c∧∀u,u<N→cmb M o m u=c*r.1 u:=by
 obtain ⟨c,hc,he⟩:=hm.uniq (h.inC hz hl) h.nz (fun i hi=>(hb i).2 ((h.bits i).1 hi))
 refine ⟨c,hc,fun u hu=>?_⟩
 have e:m=fun i=>c*l i:=funext he
 rw [e,Vk,h.val u hu]
theorem Zuh{M:Nat}{l:Nat→Rat}{x:Nat}(hM:M≤64)(h:∀i,l i≠0↔x.testBit i=true)(hoff:∀i,M≤i→l i=0):Vj 64 x=Wq l M:=by
 rw [Zqj (l:=l) 64 x (fun i _=>h i)]
 have key:∀d,Wq l (M+d)=Wq l M:=by
  intro d
  induction d with
  | zero=>rfl
  | succ d ih=>rw [←Nat.add_assoc,Wq,ih,if_pos (hoff (M+d) (by omega))];omega
 have:=key (64-M)
 rwa [show M+(64-M)=64 by omega] at this
theorem Inv.step{M N:Nat}{o:Nat→Nat→Rat}{E:List Nat}{l l':List Zcj}{v k:Nat}(h:Inv M N o E l)(hM:M≤64)(hv:v<N)(hk:k=E.length+1)(he:Zpu N l v k l'):Inv M N o (v::E) l':=by
 have hlow:∀u∈v::E,u<N:=fun u hu=>by
  rcases List.mem_cons.1 hu with rfl|hu
  ·exact hv
  ·exact h.low u hu
 -- a pair of rows
 have pairS:∀(p q:Zcj) (lp lq:Nat→Rat),Snd M N o p lp→Snd M N o q lq→0<p.1 v→q.1 v<0→∀(f:Nat),f=p.2 ||| q.2→∀(g:Rat),0<g→
   Snd M N o ((fun u=>g*(p.1 u*(-(q.1 v))+q.1 u*p.1 v)),f) (fun i=>g*(-(q.1 v))*lp i+g*p.1 v*lq i):=by
  intro p q lp lq hp hq h1 h2 f hf g hg
  have c1:0<g*(-(q.1 v)):=Rat.mul_pos hg (by grind)
  have c2:0<g*p.1 v:=Rat.mul_pos hg h1
  obtain ⟨a,ha⟩:∃a,a=g*(-(q.1 v)):=⟨_,rfl⟩
  obtain ⟨b,hb⟩:∃b,b=g*p.1 v:=⟨_,rfl⟩
  rw [←ha] at c1
  rw [←hb] at c2
  rw [←ha,←hb]
  have bits:∀i,a*lp i+b*lq i≠0↔(lp i≠0∨lq i≠0):=fun i=>by
   have n1:=hp.nn i
   have n2:=hq.nn i
   have m1:0≤a*lp i:=Rat.mul_nonneg (by grind) n1
   have m2:0≤b*lq i:=Rat.mul_nonneg (by grind) n2
   constructor
   ·intro h9
    by_cases e1:lp i=0
    ·right;intro e2;exact h9 (by rw [e1,e2];grind)
    ·exact .inl e1
   ·intro h9 h8
    have z1:a*lp i=0:=by grind
    have z2:b*lq i=0:=by grind
    rcases h9 with h9|h9
    ·rcases Rat.mul_eq_zero.1 z1 with h7|h7
     ·grind
     ·exact h9 h7
    ·rcases Rat.mul_eq_zero.1 z2 with h7|h7
     ·grind
     ·exact h9 h7
  refine ⟨fun i=>?_,fun i hi=>?_,fun i=>?_,fun u hu=>?_,?_⟩
  ·have n1:=hp.nn i
   have n2:=hq.nn i
   have m1:0≤a*lp i:=Rat.mul_nonneg (by grind) n1
   have m2:0≤b*lq i:=Rat.mul_nonneg (by grind) n2
   show 0≤a*lp i+b*lq i
   grind
  ·show a*lp i+b*lq i=0
   rw [hp.off i hi,hq.off i hi];grind
  ·show a*lp i+b*lq i≠0↔f.testBit i=true
   rw [bits,hp.bits,hq.bits,hf,Nat.testBit_or,Bool.or_eq_true]
  ·show g*(p.1 u*(-(q.1 v))+q.1 u*p.1 v)=cmb M o (fun i=>a*lp i+b*lq i) u
   have e1:=Jz M o (fun i=>a*lp i) (fun i=>b*lq i) u
   rw [Vk,Vk,←hp.val u hu,←hq.val u hu] at e1
   rw [e1,ha,hb];grind
  ·obtain ⟨i,hi⟩:=hp.nz
   exact ⟨i,(bits i).2 (.inl hi)⟩
 have zeroP:∀(p q:Zcj) (u:Nat),p∈l→q∈l→u∈v::E→p.1 u*(-(q.1 v))+q.1 u*p.1 v=0:=fun p q u hp hq hu=>by
  rcases List.mem_cons.1 hu with rfl|hu
  ·grind
  ·rw [h.zero p hp u hu,h.zero q hq u hu];grind
 refine ⟨fun r hr=>?_,fun r hr u hu=>?_,fun m hm=>?_,hlow⟩
 ·rcases he.from_ r hr with ⟨h1,_⟩|⟨p,hp,q,hq,h1,h2,h3,g,hg,h4⟩
  ·exact h.snd r h1
  ·obtain ⟨lp,hlp⟩:=h.snd p hp
   obtain ⟨lq,hlq⟩:=h.snd q hq
   have hS:=pairS p q lp lq hlp hlq h1 h2 r.2 h3 g hg
   exact ⟨_,⟨hS.nn,hS.off,hS.bits,fun u hu=>(h4 u hu).trans (hS.val u hu),hS.nz⟩⟩
 ·rcases he.from_ r hr with ⟨h1,h2⟩|⟨p,hp,q,hq,_,_,_,g,_,h4⟩
  ·rcases List.mem_cons.1 hu with rfl|hu
   ·exact h2
   ·exact h.zero r h1 u hu
  ·rw [h4 u (hlow u hu),zeroP p q u hp hq hu];grind
 ·have hmE:InC M o E m:=⟨hm.inC.nn,hm.inC.off,fun u hu=>hm.inC.zero u (by simp [hu])⟩
  have hmv:cmb M o m v=0:=hm.inC.zero v (by simp)
  by_cases hA:∃μ,MinS M o E μ∧JC μ m∧cmb M o μ v=0
  ·obtain ⟨μ,h1,h2,h3⟩:=hA
   have h4:=hm.least μ ⟨h1.inC.nn,h1.inC.off,fun u hu=>by
    rcases List.mem_cons.1 hu with rfl|hu
    ·exact h3
    ·exact h1.inC.zero u hu⟩ h1.nz h2
   obtain ⟨r,hr,hb⟩:=h.all μ h1
   obtain ⟨lr,hlr⟩:=h.snd r hr
   obtain ⟨c,hc,hcv⟩:=hlr.mult (fun u hu=>h.zero r hr u hu) h.low h1 hb
   have h5:=hcv v hv
   rw [h3] at h5
   have h6:r.1 v=0:=by
    rcases Rat.mul_eq_zero.1 h5.symm with h7|h7
    ·grind
    ·exact h7
   exact ⟨r,he.keep r hr h6,fun i=>⟨fun h9=>(hb i).1 (h4 i h9),fun h9=>h2 i ((hb i).2 h9)⟩⟩
  ·have hpos:∃μ,MinS M o E μ∧JC μ m∧0<cmb M o μ v:=Classical.byContradiction fun h9=>by
    have:=Zf8 (M:=M) (o:=o) (E:=E) (P:=fun ν=>cmb M o ν v<0) (fun a b ha hb=>by show cmb M o (fun i=>a i+b i) v<0;rw [Jz];grind) (fun c a hc ha=>by
     show cmb M o (fun i=>c*a i) v<0
     rw [Vk]
     have:=Rat.mul_pos hc (show 0 < -(cmb M o a v) by grind)
     grind) (Wq m M) (Nat.le_refl _) hmE hm.nz (fun μ h1 h2=>by
     have n1:cmb M o μ v≠0:=fun e=>hA ⟨μ,h1,h2,e⟩
     have n2:¬0<cmb M o μ v:=fun e=>h9 ⟨μ,h1,h2,e⟩
     show cmb M o μ v<0
     grind)
    rw [hmv] at this
    grind
   have hneg:∃μ,MinS M o E μ∧JC μ m∧cmb M o μ v<0:=Classical.byContradiction fun h9=>by
    have:=Zf8 (M:=M) (o:=o) (E:=E) (P:=fun ν=>0<cmb M o ν v) (fun a b ha hb=>by show 0<cmb M o (fun i=>a i+b i) v;rw [Jz];grind) (fun c a hc ha=>by
     show 0<cmb M o (fun i=>c*a i) v
     rw [Vk]
     exact Rat.mul_pos hc ha) (Wq m M) (Nat.le_refl _) hmE hm.nz (fun μ h1 h2=>by
     have n1:cmb M o μ v≠0:=fun e=>hA ⟨μ,h1,h2,e⟩
     have n2:¬cmb M o μ v<0:=fun e=>h9 ⟨μ,h1,h2,e⟩
     show 0<cmb M o μ v
     grind)
    rw [hmv] at this
    grind
   obtain ⟨μ,hμ1,hμ2,hμ3⟩:=hpos
   obtain ⟨η,hη1,hη2,hη3⟩:=hneg
   obtain ⟨p,hp,hpb⟩:=h.all μ hμ1
   obtain ⟨q,hq,hqb⟩:=h.all η hη1
   obtain ⟨lp,hlp⟩:=h.snd p hp
   obtain ⟨lq,hlq⟩:=h.snd q hq
   obtain ⟨c,hc,hcv⟩:=hlp.mult (fun u hu=>h.zero p hp u hu) h.low hμ1 hpb
   obtain ⟨d,hd,hdv⟩:=hlq.mult (fun u hu=>h.zero q hq u hu) h.low hη1 hqb
   have hpv:0<p.1 v:=by
    by_cases h9:0<p.1 v
    ·exact h9
    ·have:=hcv v hv
     have h8:0≤c*(-(p.1 v)):=Rat.mul_nonneg (by grind) (by grind)
     grind
   have hqv:q.1 v<0:=by
    by_cases h9:q.1 v<0
    ·exact h9
    ·have:=hdv v hv
     have h8:0≤d*q.1 v:=Rat.mul_nonneg (by grind) (by grind)
     grind
   have hS:=pairS p q lp lq hlp hlq hpv hqv (p.2 ||| q.2) rfl 1 (by decide+kernel)
   have hsub:JC (fun i=>1*(-(q.1 v))*lp i+1*p.1 v*lq i) m:=fun i hi=>by
    have h1:=(hS.bits i).1 hi
    have h2:(p.2.testBit i || q.2.testBit i)=true:=by rw [←Nat.testBit_or];exact h1
    rcases Bool.or_eq_true_iff.1 h2 with h3|h3
    ·exact hμ2 i ((hpb i).2 h3)
    ·exact hη2 i ((hqb i).2 h3)
   have hin:=hS.inC (E:=v::E) (fun u hu=>by
    show 1*(p.1 u*(-(q.1 v))+q.1 u*p.1 v)=0
    rw [zeroP p q u hp hq hu];grind) hlow
   have hle:=hm.least _ hin hS.nz hsub
   have hbits:∀i,m i≠0↔(p.2 ||| q.2).testBit i=true:=fun i=>⟨fun h9=>(hS.bits i).1 (hle i h9),fun h9=>hsub i ((hS.bits i).2 h9)⟩
   have hsz:=hm.size
   rw [List.length_cons] at hsz
   obtain ⟨r,hr,hrf⟩:=he.pair p hp q hq hpv hqv (by rw [Zuh hM hbits hm.inC.off];omega)
   exact ⟨r,hr,fun i=>by rw [hrf];exact hbits i⟩
theorem Inv.start{M N:Nat}{o:Nat→Nat→Rat}{l:List Zcj}(h1:∀r∈l,∃i,i<M∧r.2=2 ^ i∧∀u,u<N→r.1 u=o i u)(h2:∀i,i<M→∃r∈l,r.2=2 ^ i):Inv M N o [] l:=by
 refine ⟨fun r hr=>?_,fun r hr v hv=>(by cases hv),fun m hm=>?_,fun v hv=>(by cases hv)⟩
 ·obtain ⟨k,hk,hb,hv⟩:=h1 r hr
  refine ⟨fun i=>if i=k then 1 else 0,fun i=>by split <;>grind,fun i hi=>by rw [if_neg (by omega)],fun i=>?_,fun u hu=>?_,⟨k,by simp;try decide+kernel⟩⟩
  ·rw [hb,Nat.testBit_two_pow]
   by_cases e:i=k
   ·subst e;simp;try decide+kernel
   ·rw [if_neg e];simp;exact fun h9=>e h9.symm
  ·rw [hv u hu]
   unfold cmb
   rw [VV hk (fun i _ hi=>by dsimp only;rw [if_neg hi];grind)]
   dsimp only
   rw [if_pos rfl];grind
 ·-- a vector of least support is one unit
  obtain ⟨k,hk⟩:=hm.nz
  have hkM:k<M:=by
   rcases Nat.lt_or_ge k M with h|h
   ·exact h
   ·exact absurd (hm.inC.off k h) hk
  obtain ⟨r,hr,hb⟩:=h2 k hkM
  have hl:=hm.least (fun i=>if i=k then 1 else 0) ⟨fun i=>by split <;>grind,fun i hi=>by rw [if_neg (by omega)],fun v hv=>by cases hv⟩ ⟨k,by simp;try decide+kernel⟩ (fun i hi=>by
   by_cases e:i=k
   ·subst e;exact hk
   ·exact absurd (if_neg e) hi)
  refine ⟨r,hr,fun i=>?_⟩
  rw [hb,Nat.testBit_two_pow]
  by_cases e:i=k
  ·subst e;simp [hk]
  ·have:m i=0:=Classical.byContradiction fun h9=>hl i h9 (if_neg e)
   rw [this];simp;exact fun h9=>e h9.symm
theorem Inv.project{M n:Nat}{o:Nat→Nat→Rat}{E:List Nat}{l:List Zcj}(h:Inv M (n+2) o E l)(hE:∀j,j<n→j∈E)(hE2:∀v∈E,v<n)(t:Rat):
  (∀r∈l,0≤r.1 n*t+r.1 (n+1))↔∃x:Nat→Rat,∀i,i<M→0≤(o i n*t+o i (n+1))+Yn (fun j=>o i j*x j) n:=by
 constructor
 ·intro hr
  rcases ZhU M n o (fun i=>o i n*t+o i (n+1)) with hx|⟨w,hw,hz,hneg⟩
  ·exact hx
  ·exfalso
   have hcut:∀f:Nat→Rat,Yn (fun i=>(if i<M then w i else 0)*f i) M=Yn (fun i=>w i*f i) M:=fun f=>ZS (fun i hi=>by rw [if_pos hi])
   have hin:InC M o E (fun i=>if i<M then w i else 0):=⟨fun i=>by split;exact hw i;grind,fun i hi=>by rw [if_neg (by omega)],fun v hv=>by
    unfold cmb
    rw [hcut];exact hz v (hE2 v hv)⟩
   have hval:∀m:Nat→Rat,Yn (fun i=>m i*(o i n*t+o i (n+1))) M=cmb M o m n*t+cmb M o m (n+1):=fun m=>by
    unfold cmb
    have e1:Yn (fun i=>m i*(o i n*t+o i (n+1))) M=Yn (fun i=>t*(m i*o i n)+m i*o i (n+1)) M:=ZS (fun i _=>by grind)
    rw [e1,Wm,XX];grind
   have hnz:Nz (fun i=>if i<M then w i else 0):=Classical.byContradiction fun h9=>by
    have:Yn (fun i=>w i*(o i n*t+o i (n+1))) M=0:=by
     rw [←hcut,ZS (g:=fun _=>0) (fun i hi=>by
      have:(if i<M then w i else 0)=0:=Classical.byContradiction fun h8=>h9 ⟨i,h8⟩
      rw [this];grind),Wx]
    rw [this] at hneg
    exact absurd hneg (by decide+kernel)
   have hP:=Zf8 (M:=M) (o:=o) (E:=E) (P:=fun m=>0≤cmb M o m n*t+cmb M o m (n+1)) (fun a b ha hb=>by show 0≤cmb M o (fun i=>a i+b i) n*t+cmb M o (fun i=>a i+b i) (n+1);rw [Jz,Jz];grind) (fun c a hc ha=>by
    show 0≤cmb M o (fun i=>c*a i) n*t+cmb M o (fun i=>c*a i) (n+1)
    rw [Vk,Vk]
    have:=Rat.mul_nonneg (Rat.le_of_lt hc) ha
    grind) _ (Nat.le_refl _) hin hnz (fun m hm _=>by
    obtain ⟨r,hrl,hb⟩:=h.all m hm
    obtain ⟨lr,hlr⟩:=h.snd r hrl
    obtain ⟨c,hc,hcv⟩:=hlr.mult (fun u hu=>h.zero r hrl u hu) h.low hm hb
    show 0≤cmb M o m n*t+cmb M o m (n+1)
    rw [hcv n (by omega),hcv (n+1) (by omega)]
    have:=Rat.mul_nonneg (Rat.le_of_lt hc) (hr r hrl)
    grind)
   rw [←hval,hcut] at hP
   grind
 ·rintro ⟨x,hx⟩ r hr
  obtain ⟨lr,hlr⟩:=h.snd r hr
  have e:r.1 n*t+r.1 (n+1)=Yn (fun i=>lr i*((o i n*t+o i (n+1))+Yn (fun j=>o i j*x j) n)) M:=by
   rw [hlr.val n (by omega),hlr.val (n+1) (by omega)]
   have e1:Yn (fun i=>lr i*((o i n*t+o i (n+1))+Yn (fun j=>o i j*x j) n)) M=Yn (fun i=>(t*(lr i*o i n)+lr i*o i (n+1))+Yn (fun j=>lr i*(o i j*x j)) n) M:=ZS (fun i _=>by rw [XX];grind)
   rw [e1,Wm,Wm,XX,Zmy]
   have e2:Yn (fun j=>Yn (fun i=>lr i*(o i j*x j)) M) n=0:=by
    rw [ZS (g:=fun _=>0) (fun j hj=>?_),Wx]
    have h1:=h.zero r hr j (hE j hj)
    rw [hlr.val j (by omega)] at h1
    have e3:Yn (fun i=>lr i*(o i j*x j)) M=x j*cmb M o lr j:=by
     unfold cmb
     rw [←XX];exact ZS (fun i _=>by grind)
    rw [e3,h1];grind
   rw [e2]
   unfold cmb
   grind
  rw [e]
  exact Zga (fun i hi=>Rat.mul_nonneg (hlr.nn i) (hx i hi))
structure EndsI (l:List (Rat × Rat)) (low high:Bool) (least most:Rat):Prop where
 z:∀r∈l,r.1=0→0≤r.2
 lo:low=true→(∃r∈l,0<r.1∧least*r.1+r.2=0)∧∀r∈l,0<r.1→0≤least*r.1+r.2
 nlo:low=false→∀r∈l,¬0<r.1
 hi:high=true→(∃r∈l,r.1<0∧most*r.1+r.2=0)∧∀r∈l,r.1<0→0≤most*r.1+r.2
 nhi:high=false→∀r∈l,¬r.1<0
def ZeK(l:List (Rat × Rat))(t:Rat):Prop:=∀r∈l,0≤r.1*t+r.2
theorem UH{a x y:Rat}(ha:0≤a)(h:x≤y):a*x≤a*y:=by
 have:0≤a*(y-x):=Rat.mul_nonneg ha (by grind)
 grind
theorem EndsI.none{l:List (Rat × Rat)}{low high:Bool}{least most:Rat}(h:EndsI l low high least most)(h1:low=true)(h2:high=true)(h3:most<least)(t:Rat):¬ZeK l t:=fun ht=>by
 obtain ⟨⟨p,hp,hp1,hp2⟩,_⟩:=h.lo h1
 obtain ⟨⟨q,hq,hq1,hq2⟩,_⟩:=h.hi h2
 have e1:=ht p hp
 have e2:=ht q hq
 have f1:0≤p.1*(t-least):=by grind
 have f2:0≤-(q.1)*(most-t):=by grind
 have g1:least≤t:=by
  by_cases h9:least≤t
  ·exact h9
  ·have:=Rat.mul_pos hp1 (show 0<least-t by grind);grind
 have g2:t≤most:=by
  by_cases h9:t≤most
  ·exact h9
  ·have:=Rat.mul_pos (show 0 < -(q.1) by grind) (show 0<t-most by grind);grind
 grind
theorem EndsI.free{l:List (Rat × Rat)}{high:Bool}{least most:Rat}(h:EndsI l false high least most)(B:Rat):∃t,ZeK l t∧t≤B:=by
 have hl:=h.nlo rfl
 cases high
 ·have hh:=h.nhi rfl
  exact ⟨B,fun r hr=>by
   have e:r.1=0:=by have:=hl r hr;have:=hh r hr;grind
   have:=h.z r hr e
   rw [e];grind,Rat.le_refl⟩
 ·obtain ⟨_,Wo⟩:=h.hi rfl
  obtain ⟨t,ht1,ht2⟩:∃t:Rat,t≤B∧t≤most:=by
   by_cases h9:B≤most
   ·exact ⟨B,Rat.le_refl,h9⟩
   ·exact ⟨most,by grind,Rat.le_refl⟩
  refine ⟨t,fun r hr=>?_,ht1⟩
  by_cases e:r.1=0
  ·have:=h.z r hr e
   rw [e];grind
  ·have hneg:r.1<0:=by have:=hl r hr;grind
   have h1:=Wo r hr hneg
   have h2:=UH (a:=-(r.1)) (by grind) ht2
   grind
theorem EndsI.best{l:List (Rat × Rat)}{high:Bool}{least most:Rat}(h:EndsI l true high least most)(hm:high=true→least≤most):ZeK l least∧∀t,ZeK l t→least≤t:=by
 obtain ⟨⟨p,hp,hp1,hp2⟩,Wo⟩:=h.lo rfl
 refine ⟨fun r hr=>?_,fun t ht=>?_⟩
 ·by_cases e:r.1=0
  ·have:=h.z r hr e
   rw [e];grind
  ·by_cases h1:0<r.1
   ·have:=Wo r hr h1;grind
   ·have hneg:r.1<0:=by grind
    cases high
    ·exact absurd hneg (h.nhi rfl r hr)
    ·have h1:=(h.hi rfl).2 r hr hneg
     have h2:=UH (a:=-(r.1)) (by grind) (hm rfl)
     grind
 ·have e1:=ht p hp
  by_cases h9:least≤t
  ·exact h9
  ·have:=Rat.mul_pos hp1 (show 0<least-t by grind);grind
section
open Go.RowKit
attribute [local irreducible] run Zr Zl exec
def cAt(f:Zf)(vars j:Nat):Rat:=if j<vars then cof f.1 (j:Int) else f.2
theorem ZgQ{q:Rat}{z:Nat}(h:val (Ze q).l2=z):(if (z:Int)<1 then (1:Int) else (z:Int))=(q.den:Int):=by
 have h1:val (QX q.den)=z:=h
 have hp:=q.den_pos
 unfold QX at h1
 split at h1
 ·next e=>
  have:z=0:=by rw [←h1];rfl
  rw [if_pos (by omega),e];rfl
 ·rw [Zg] at h1
  rw [if_neg (by omega),h1]
theorem Zgd{q:Rat}{z:Nat}(h:val (Ze q).l1=z):((Ze q).s=true→-(z:Int)=q.num)∧((Ze q).s=false→(z:Int)=q.num):=by
 have h1:val (lmb q.num.natAbs)=z:=h
 rw [Zg] at h1
 refine ⟨fun hs=>?_,fun hs=>?_⟩
 ·have:q.num<0:=of_decide_eq_true hs
  omega
 ·have:¬q.num<0:=of_decide_eq_false hs
  omega
theorem Zs4(q:Rat):q*(q.den:Rat)=(q.num:Rat):=by
 have e:(q.num:Rat) / (q.den:Rat)=q:=by
  have h1:=Rat.mkRat_self q
  rw [Rat.mkRat_eq_div] at h1
  exact h1
 have h:(q.den:Rat)≠0:=by exact_mod_cast q.den_nz
 grind
def Zb8(f:Zf)(vars:Nat)(o:List Int × List Int)(j:Nat):Prop:=o.1.getD j 0=(cAt f vars j).num∧o.2.getD j 0=((cAt f vars j).den:Int)∧(cAt f vars j).num.natAbs≤1073741824∧(cAt f vars j).den≤1073741824
section
variable {n vars : Nat} {f : Zf}
theorem Zbs{o:List Int × List Int}{i:Nat}(h1:i<o.1.length)(h2:i<o.2.length){x y:Int}(hx:x=(cAt f vars i).num)(hy:y=((cAt f vars i).den:Int))(hb:(cAt f vars i).num.natAbs≤1073741824∧(cAt f vars i).den≤1073741824)(hI:∀j,j<i→Zb8 f vars o j):∀j,j<i+1→Zb8 f vars (o.1.set i x,o.2.set i y) j:=fun j hj=>by
 unfold Zb8
 dsimp only
 rw [J3 h1,J3 h2]
 by_cases h:j=i
 ·subst h;rw [if_pos rfl,if_pos rfl];exact ⟨hx,hy,hb⟩
 ·rw [if_neg h,if_neg h];exact hI j (by omega)
theorem ZAt(hl:f.1.length≤100000000)(hv:vars≤1000000):
  ∃ex t,Zl Tryz.prog (tab (n+2)) 0 109 (Za 63) 4 YX (Yp f (vars:Int) (List.replicate (((vars:Int)+1).toNat) 0) (List.replicate (((vars:Int)+1).toNat) 0) 0)=some (ex,t)∧
  ((ex=.exit 0∧∃o:List Int × List Int,t=Kj (vars:Int) o.1 o.2∧o.1.length=vars+1∧o.2.length=vars+1∧∀j,j<vars+1→Zb8 f vars o j)∨(ex=.ret∧∃o:List Int × List Int,t=Xv (vars:Int) o.1 o.2)):=by
 exact Qr (O:=tab (n+2)) (P:= Tryz.prog) (m:=0) (N:=109) (lives:=Za 63) (r:=4) (C:=YX) (M:=vars+1) (enc:=fun i (o:List Int × List Int)=>Yp f (vars:Int) o.1 o.2 i)
  (fun i o=>o.1.length=vars+1∧o.2.length=vars+1∧∀j,j<i→Zb8 f vars o j)
  (fun ex t=>(ex=.exit 0∧∃o:List Int × List Int,t=Kj (vars:Int) o.1 o.2∧o.1.length=vars+1∧o.2.length=vars+1∧∀j,j<vars+1→Zb8 f vars o j)∨(ex=.ret∧∃o:List Int × List Int,t=Xv (vars:Int) o.1 o.2))
  (List.replicate (((vars:Int)+1).toNat) 0,List.replicate (((vars:Int)+1).toNat) 0) ⟨by rw [List.length_replicate];omega,by rw [List.length_replicate];omega,fun j hj=>absurd hj (by omega)⟩ (by omega)
  (fun i o hi hI=>by
   obtain ⟨h1,h2,h3⟩:=hI
   have W:InI ((i:Int)+1):=⟨by omega,by omega⟩
   obtain ⟨q,hq⟩:∃q,cAt f vars i=q:=⟨_,rfl⟩
   obtain ⟨z1,b1,K4,Z1,hb1⟩:=Zkp (n:=n+1) (l:=(Ze q).l1) (Yq _)
   obtain ⟨z2,b2,K5,Z2,hb2⟩:=Zkp (n:=n+1) (l:=(Ze q).l2) (Zda _)
   have hi1:i<o.1.length:=by omega
   have hi2:i<o.2.length:=by omega
   by_cases c:(i:Int)<(vars:Int)
   ·have e:cAt f vars i=cof f.1 (i:Int):=if_pos (by omega)
    have K3:=ZeM (n:=n+1) (f:=f) (v:=(i:Int)) hl
    rw [←e,hq] at K3
    cases b1 with
    | false=>exact .inr ⟨.ret,_,by simp,ZqH (by omega) c K3 K4 K5 rfl,.inr ⟨rfl,o,rfl⟩⟩
    | true=>
      cases b2 with
      | false=>exact .inr ⟨.ret,_,by simp,ZnY (by omega) c K3 K4 K5 rfl rfl,.inr ⟨rfl,o,rfl⟩⟩
      | true=>
        obtain ⟨u1,u2⟩:=hb1 rfl
        obtain ⟨v1,v2⟩:=hb2 rfl
        have dc:=ZgQ v1
        have nc:=Zgd u1
        have hbd:q.num.natAbs≤1073741824∧q.den≤1073741824:=by
         have:val (lmb q.num.natAbs)=z1:=u1
         rw [Zg] at this
         refine ⟨by omega,?_⟩
         split at dc <;>omega
        cases hs:(Ze q).s with
        | true=>exact .inl ⟨_,ZqB (by omega) c K3 K4 K5 rfl rfl hs ⟨by omega,by omega⟩ hi1 hi2 W,by rw [List.length_set];exact h1,by rw [List.length_set];exact h2,Zbs hi1 hi2 (by rw [hq];exact nc.1 hs) (by rw [hq];exact dc) (by rw [hq];exact hbd) h3⟩
        | false=>exact .inl ⟨_,ZpA (by omega) c K3 K4 K5 rfl rfl hs hi1 hi2 W,by rw [List.length_set];exact h1,by rw [List.length_set];exact h2,Zbs hi1 hi2 (by rw [hq];exact nc.2 hs) (by rw [hq];exact dc) (by rw [hq];exact hbd) h3⟩
   ·have e:cAt f vars i=f.2:=if_neg (by omega)
    obtain rfl:f.2=q:=by rw [←e,hq]
    cases b1 with
    | false=>exact .inr ⟨.ret,_,by simp,Zou (by omega) c K4 K5 rfl,.inr ⟨rfl,o,rfl⟩⟩
    | true=>
      cases b2 with
      | false=>exact .inr ⟨.ret,_,by simp,ZoA (by omega) c K4 K5 rfl rfl,.inr ⟨rfl,o,rfl⟩⟩
      | true=>
        obtain ⟨u1,u2⟩:=hb1 rfl
        obtain ⟨v1,v2⟩:=hb2 rfl
        have dc:=ZgQ v1
        have nc:=Zgd u1
        have hbd:f.2.num.natAbs≤1073741824∧f.2.den≤1073741824:=by
         have:val (lmb f.2.num.natAbs)=z1:=u1
         rw [Zg] at this
         refine ⟨by omega,?_⟩
         split at dc <;>omega
        cases hs:(Ze f.2).s with
        | true=>exact .inl ⟨_,Zpc (by omega) c K4 K5 rfl rfl hs ⟨by omega,by omega⟩ hi1 hi2 W,by rw [List.length_set];exact h1,by rw [List.length_set];exact h2,Zbs hi1 hi2 (by rw [hq];exact nc.1 hs) (by rw [hq];exact dc) (by rw [hq];exact hbd) h3⟩
        | false=>exact .inl ⟨_,ZqL (by omega) c K4 K5 rfl rfl hs hi1 hi2 W,by rw [List.length_set];exact h1,by rw [List.length_set];exact h2,Zbs hi1 hi2 (by rw [hq];exact nc.2 hs) (by rw [hq];exact dc) (by rw [hq];exact hbd) h3⟩)
  (fun o hI=>by
   obtain ⟨h1,h2,h3⟩:=hI
   exact ⟨.exit 0,_,by simp,Zqs (by omega),.inl ⟨rfl,o,rfl,h1,h2,h3⟩⟩)
theorem Zvs{o:List Int × List Int}(hv:vars≤1000000)(h2:o.2.length=vars+1)(h3:∀j,j<vars+1→Zb8 f vars o j):
  ∃ex t,Zl Tryz.prog (tab (n+2)) 0 109 (Za 63) 18 Xu (QC (vars:Int) o.1 o.2 1 0)=some (ex,t)∧
  ((ex=.exit 2∧∃all:Nat,t=Ui (vars:Int) o.1 o.2 (all:Int)∧1≤all∧all≤1073741824∧∀j,j<vars+1→(cAt f vars j).den ∣ all)∨(ex=.ret∧∃i r x,t=UB (vars:Int) o.1 o.2 i r x)):=by
 exact Qr (O:=tab (n+2)) (P:= Tryz.prog) (m:=0) (N:=109) (lives:=Za 63) (r:=18) (C:=Xu) (M:=vars+1) (enc:=fun i (all:Nat)=>QC (vars:Int) o.1 o.2 (all:Int) i)
  (fun i all=>1≤all∧all≤1073741824∧∀j,j<i→(cAt f vars j).den ∣ all)
  (fun ex t=>(ex=.exit 2∧∃all:Nat,t=Ui (vars:Int) o.1 o.2 (all:Int)∧1≤all∧all≤1073741824∧∀j,j<vars+1→(cAt f vars j).den ∣ all)∨(ex=.ret∧∃i r x,t=UB (vars:Int) o.1 o.2 i r x))
  1 ⟨by omega,by omega,fun j hj=>absurd hj (by omega)⟩ (by omega)
  (fun i all hi hI=>by
   obtain ⟨g1,g2,g3⟩:=hI
   have hi2:i<o.2.length:=by omega
   obtain ⟨_,hd,_,hdb⟩:=h3 i hi
   have hx:=Xi hi2
   rw [hd] at hx
   have hp:=(cAt f vars i).den_pos
   obtain ⟨d,hde⟩:∃d,(cAt f vars i).den=d:=⟨_,rfl⟩
   rw [hde] at hx hdb hp
   have K:=ZuN (n:=n+1) (a:=all) (b:=d) (by omega) (by omega)
   have hg:0<Nat.gcd all d:=Nat.gcd_pos_of_pos_left _ (by omega)
   obtain ⟨g,hge⟩:∃g,Nat.gcd all d=g:=⟨_,rfl⟩
   have hga:g ∣ all:=by rw [←hge];exact Nat.gcd_dvd_left _ _
   have hgd:g ∣ d:=by rw [←hge];exact Nat.gcd_dvd_right _ _
   rw [hge] at K hg
   have ht:(all:Int).tdiv (g:Int)=((all / g:Nat):Int):=(Int.ofNat_tdiv _ _).symm
   have hle:all / g≤all:=Nat.div_le_self _ _
   have hpos:0<all / g:=Nat.div_pos (Nat.le_of_dvd (by omega) hga) hg
   have hm:all / g*d≤1073741824*1073741824:=Nat.mul_le_mul (by omega) (by omega)
   have hc:(all:Int).tdiv (g:Int)*(d:Int)=((all / g*d:Nat):Int):=by rw [ht];push_cast;rfl
   have hmp:0<all / g*d:=Nat.mul_pos hpos hp
   have W5:InI ((all:Int).tdiv (g:Int)):=by rw [ht];exact ⟨by omega,by omega⟩
   have W8:InI ((all:Int).tdiv (g:Int)*(d:Int)):=by rw [hc];exact ⟨by omega,by omega⟩
   by_cases c:1073741824<(all:Int).tdiv (g:Int)*(d:Int)
   ·exact .inr ⟨.ret,_,by simp,Zk8 (by omega) hi2 hx K W5 (by omega) W8 c,.inr ⟨rfl,_,_,_,rfl⟩⟩
   ·have R:=Zmf (n:=n) (a1:=(vars:Int)) (i2_18:=i) (out2_4:=o.2) (i_18:=(all:Int)) (out_4:=o.1) (by omega) hi2 hx K W5 (by omega) W8 c ⟨by omega,by omega⟩
    rw [hc] at R c
    refine .inl ⟨all / g*d,R,by omega,by omega,fun j hj=>?_⟩
    by_cases hji:j=i
    ·subst hji;rw [hde];exact Nat.dvd_mul_left _ _
    ·refine Nat.dvd_trans (g3 j (by omega)) ?_
     obtain ⟨d2,hd2⟩:=hgd
     exact ⟨d2,by rw [hd2,←Nat.mul_assoc,Nat.div_mul_cancel hga]⟩)
  (fun all hI=>by
   obtain ⟨g1,g2,g3⟩:=hI
   exact ⟨.exit 2,_,by simp,Zlt (by omega),.inl ⟨rfl,all,rfl,g1,g2,g3⟩⟩)
theorem ZvL{o:List Int × List Int}{all:Nat}(hv:vars≤1000000)(h1:o.1.length=vars+1)(h2:o.2.length=vars+1)(h3:∀j,j<vars+1→Zb8 f vars o j)(ha:all≤1073741824)(hdv:∀j,j<vars+1→(cAt f vars j).den ∣ all):
  ∃out:List Int,Zl Tryz.prog (tab (n+2)) 0 109 (Za 63) 24 VS (WL (vars:Int) o.1 o.2 (all:Int) 0)=some (.exit 4,Uk out)∧out.length=vars+1∧∀j,j<vars+1→((out.getD j 0:Int):Rat)=(all:Rat)*cAt f vars j∧(out.getD j 0).natAbs≤1073741824*1073741824:=by
 obtain ⟨out,L,g1,g2,_⟩:=QV (O:=tab (n+2)) (P:= Tryz.prog) (m:=0) (N:=109) (lives:=Za 63) (r:=24) (C:=VS) (exN:=.exit 4) (M:=vars+1) (enc:=fun i (out:List Int)=>WL (vars:Int) out o.2 (all:Int) i) (out:=fun out=>Uk out)
  (fun i out=>out.length=vars+1∧(∀j,j<i→((out.getD j 0:Int):Rat)=(all:Rat)*cAt f vars j∧(out.getD j 0).natAbs≤1073741824*1073741824)∧∀j,i≤j→out.getD j 0=o.1.getD j 0)
  o.1 ⟨h1,fun j hj=>absurd hj (by omega),fun _ _=>rfl⟩ (by omega) (by simp)
  (fun i out hi hI=>by
   obtain ⟨g1,g2,g3⟩:=hI
   have hi1:i<out.length:=by omega
   have hi2:i<o.2.length:=by omega
   obtain ⟨hn,hd,hnb,hdb⟩:=h3 i hi
   have hx:=Xi hi1
   rw [g3 i (Nat.le_refl _),hn] at hx
   have hy:=Xi hi2
   rw [hd] at hy
   have hp:=(cAt f vars i).den_pos
   obtain ⟨y,hy2⟩:=hdv i hi
   have hyb:y≤all:=by rw [hy2];exact Nat.le_mul_of_pos_left _ hp
   have ht:(all:Int).tdiv ((cAt f vars i).den:Int)=(y:Int):=by
    rw [hy2];push_cast
    exact Int.mul_tdiv_cancel_left _ (by omega)
   have hb:((cAt f vars i).num*(y:Int)).natAbs≤1073741824*1073741824:=by
    rw [Int.natAbs_mul]
    exact Nat.mul_le_mul hnb (by omega)
   refine ⟨out.set i ((cAt f vars i).num*(all:Int).tdiv ((cAt f vars i).den:Int)),ZlC (by omega) hi1 hx hi2 hy (by rw [ht];exact ⟨by omega,by omega⟩) (by omega) (by rw [ht];exact ⟨by omega,by omega⟩) ⟨by omega,by omega⟩,by rw [List.length_set];exact g1,fun j hj=>?_,fun j hj=>?_⟩
   ·rw [J3 hi1]
    by_cases hji:j=i
    ·subst hji
     rw [if_pos rfl,ht]
     refine ⟨?_,hb⟩
     have e:=Zs4 (cAt f vars j)
     rw [hy2]
     push_cast
     rw [←e]
     grind
    ·rw [if_neg hji];exact g2 j (by omega)
   ·rw [J3 hi1,if_neg (by omega)];exact g3 j (by omega))
  (fun out hI=>ZkF (by omega))
 exact ⟨out,L,g1,g2⟩
structure Zn5 (f:Zf) (vars:Nat) (R:List Int):Prop where
 len:R.length=vars+1
 mul:∃g:Rat,0<g∧∀j,j≤vars→((R.getD j 0:Int):Rat)=g*cAt f vars j
 bd:∀j,-1073741824≤R.getD j 0∧R.getD j 0≤1073741824
theorem Ztl(hl:f.1.length≤100000000)(hv:vars≤900000):∃(R:List Int) (ok:Bool),run (n+2) 63 [Zc f,.lit (.int .i64 (vars:Int))]=some (.tup [.sl 1 (R.map ZK),.lit (.bool ok)])∧(ok=true→Zn5 f vars R):=by
 have W1:InI ((vars:Int)+1):=⟨by omega,by omega⟩
 obtain ⟨ex,t,L4,h4⟩:=ZAt (n:=n) (f:=f) (vars:=vars) hl (by omega)
 rcases h4 with ⟨rfl,o,rfl,h1,h2,h3⟩|⟨rfl,o,rfl⟩
 ·obtain ⟨ex,t,L18,h18⟩:=Zvs (n:=n) (f:=f) (vars:=vars) (o:=o) (by omega) h2 h3
  rcases h18 with ⟨rfl,all,rfl,a1,a2,a3⟩|⟨rfl,i,r,x,rfl⟩
  ·obtain ⟨out,L24,b1,b2⟩:=ZvL (n:=n) (f:=f) (vars:=vars) (o:=o) (all:=all) (by omega) h1 h2 h3 a2 a3
   obtain ⟨ok,R,K,hR,hred⟩:=ZuZ (n:=n) (c:=out) (fun x hx=>by
    obtain ⟨j,hj⟩:=List.mem_iff_getElem?.1 hx
    have hjl:=(gEi hj).1
    have:=(b2 j (by omega)).2
    rw [ZjV hj] at this
    omega) (by omega)
   refine ⟨R,ok,ZvV W1 (by omega) (by omega) (by omega) L4 L18 L24 K hR,fun hok=>⟨by omega,?_,fun j=>?_⟩⟩
   ·obtain ⟨d,hd,hdi⟩:=hred hok
    have hd0:(0:Rat)<(d:Rat):=by exact_mod_cast hd
    refine ⟨(all:Rat) / (d:Rat),UL (by exact_mod_cast (show 0<all by omega)) hd0,fun j hj=>?_⟩
    have e1:=(b2 j (by omega)).1
    rw [(hdi j).1] at e1
    push_cast at e1
    grind
   ·obtain ⟨d,hd,hdi⟩:=hred hok
    exact (hdi j).2
  ·exact ⟨[],false,Zxn W1 (by omega) (by omega) (by omega) L4 L18,fun h=>by cases h⟩
 ·exact ⟨[],false,ZvX W1 (by omega) (by omega) (by omega) L4,fun h=>by cases h⟩
end
theorem wru{z:Int}(h0:0≤z)(h1:z<18446744073709551616):IntKind.u64.wrap z=z:=by
 rw [ZF];omega
theorem Zia:∀k,Vj k 0=0
 | 0=>rfl
 | k+1=>by rw [Vj,Zia k]
theorem Zhr:∀k x,Vj k x≤k
 | 0,_=>Nat.le_refl _
 | k+1,x=>by
   rw [Vj]
   have:=Zhr k (x / 2)
   omega
theorem Zvp{n x:Nat}(hx:x<18446744073709551616):run n 95 [.lit (.int .u64 (x:Int))]=some (.lit (.int .i64 ((Vj 64 x:Nat):Int))):=by
 obtain ⟨ex,t,h1,h2⟩:=Qr (O:=tab n) (P:= Tryz.prog) (m:=0) (N:=14) (lives:=Za 95) (r:=2) (C:=JX) (M:=64) (enc:=fun _ (p:Nat × Nat)=>U4 (p.1:Int) (p.2:Int))
  (fun i p=>p.2+Vj (64-i) p.1=Vj 64 x∧p.1<2 ^ (64-i)) (fun ex t=>ex=.exit 0∧t=U1 ((Vj 64 x:Nat):Int)) (x,0) ⟨by simp,hx⟩ (by omega)
  (fun i p hi hI=>by
   obtain ⟨y,a⟩:=p
   obtain ⟨hg,hy⟩:=hI
   dsimp only at hg hy
   have hp:=Zhr 64 x
   by_cases h0:y=0
   ·right
    subst h0
    rw [Zia] at hg
    exact ⟨.exit 0,U1 (a:Int),by simp,Zhl (by simp),rfl,by rw [←hg];rfl⟩
   ·left
    obtain ⟨k,hk⟩:∃k,64-i=k+1:=⟨63-i,by omega⟩
    have hk2:64-(i+1)=k:=by omega
    rw [hk,Vj] at hg
    rw [hk,Nat.pow_succ] at hy
    have hb:y<18446744073709551616:=by
     have:2 ^ k≤2 ^ 63:=Nat.pow_le_pow_right (by omega) (by omega)
     omega
    have e1:(y:Int).tmod 2=((y % 2:Nat):Int):=(Int.ofNat_tmod y 2).symm
    have e2:(y:Int).tdiv 2=((y / 2:Nat):Int):=(Int.ofNat_tdiv y 2).symm
    have R:=Zp6 (n:=n) (i_2:=(y:Int)) (i2_2:=(a:Int)) (by omega) (by rw [e1];exact ⟨by omega,by omega⟩) (by rw [e1];exact ⟨by omega,by omega⟩) (by rw [e2];exact wru (by omega) (by omega))
    rw [e1,e2] at R
    refine ⟨(y / 2,a+y % 2),R,?_,?_⟩
    ·show a+y % 2+Vj (64-(i+1)) (y / 2)=_
     rw [hk2];omega
    ·show y / 2<2 ^ (64-(i+1))
     rw [hk2];omega)
  (fun p hI=>by
   obtain ⟨y,a⟩:=p
   obtain ⟨hg,hy⟩:=hI
   dsimp only at hg hy
   have h0:y=0:=by simpa using hy
   subst h0
   rw [Zia] at hg
   exact ⟨.exit 0,U1 (a:Int),by simp,Zhl (by simp),rfl,by rw [←hg];rfl⟩)
 obtain ⟨rfl,rfl⟩:=h2
 exact ZwO h1
structure TrB (N:Nat) (r:ZI):Prop where
 len:r.c.length=N
 bd:∀j,-1073741824≤r.c.getD j 0∧r.c.getD j 0≤1073741824
 f0:0≤r.from_
 f1:r.from_<18446744073709551616
def kr(r:ZI):Zcj:=(fun u=>((r.c.getD u 0:Int):Rat),r.from_.toNat)
theorem Jd{n N v:Nat}{l:List ZI}(hT:∀r∈l,TrB N r)(hv:v<N)(hl:l.length≤100000000):∃z:Nat,run n 64 [.sl 2 (l.map Yi),.lit (.int .i64 (v:Int))]=some (.lit (.int .i64 (z:Int))):=by
 obtain ⟨b,L,h1,h2⟩:=QV (O:=tab n) (P:= Tryz.prog) (m:=0) (N:=39) (lives:=Za 64) (r:=3) (C:=VM) (exN:=.exit 0) (M:=l.length) (enc:=fun i (b:Nat × Nat)=>XI l (v:Int) b.1 b.2 i) (out:=fun b=>J5 b.1 b.2)
  (fun i b=>b.1≤i∧b.2≤i) (0,0) ⟨by omega,by omega⟩ (by omega) (by simp)
  (fun i b hi hI=>by
   obtain ⟨g1,g2⟩:=hI
   have hx:l[i]?=some l[i]:=gEt hi
   obtain ⟨r,hr⟩:∃r,l[i]=r:=⟨_,rfl⟩
   rw [hr] at hx
   have hrT:=hT r (gMe hx)
   have hc:r.c[(v:Int).toNat]?=some (r.c.getD v 0):=Xi (by rw [hrT.len];exact hv)
   have W:InI ((i:Int)+1):=⟨by omega,by omega⟩
   by_cases c1:0<r.c.getD v 0
   ·exact ⟨(b.1+1,b.2),Zri (by omega) hx hc (by omega) c1 ⟨by omega,by omega⟩ (by omega) W,by show b.1+1≤_;omega,by show b.2≤_;omega⟩
   ·by_cases c2:r.c.getD v 0<0
    ·exact ⟨(b.1,b.2+1),Zq0 (by omega) hx hc (by omega) c1 c2 ⟨by omega,by omega⟩ W,by show b.1≤_;omega,by show b.2+1≤_;omega⟩
    ·exact ⟨b,ZpK (by omega) hx hc (by omega) c1 c2 W,by omega,by omega⟩)
  (fun b _=>Zn3 (by omega))
 have h3:b.1*b.2≤100000000*100000000:=Nat.mul_le_mul (by omega) (by omega)
 have e:(b.1:Int)*(b.2:Int)=((b.1*b.2:Nat):Int):=by push_cast;rfl
 have R:=Zv7 (n:=n) (a0:=l) (a1:=(v:Int)) L (by rw [e];exact ⟨by omega,by omega⟩)
 rw [e] at R
 exact ⟨_,R⟩
theorem Zuj{a b:Int}(ha:-1073741824≤a∧a≤1073741824)(hb:-1073741824≤b∧b≤1073741824):-1152921504606846976≤a*b∧a*b≤1152921504606846976:=by
 have h:(a*b).natAbs≤1073741824*1073741824:=by
  rw [Int.natAbs_mul]
  exact Nat.mul_le_mul (by omega) (by omega)
 omega
def ZcQ(l:List ZI)(N v:Nat)(r:ZI):Prop:=TrB N r∧((r∈l∧r.c.getD v 0=0)∨∃p∈l,∃q∈l,0<p.c.getD v 0∧q.c.getD v 0<0∧r.from_.toNat=p.from_.toNat ||| q.from_.toNat∧∃g:Rat,0<g∧∀u,u<N→((r.c.getD u 0:Int):Rat)=g*((p.c.getD u 0:Int)*(-(q.c.getD v 0:Int))+(q.c.getD u 0:Int)*(p.c.getD v 0:Int)))
section
variable {n N v k : Nat} {l : List ZI}
theorem ZyX(hT:∀r∈l,TrB N r)(hv:v<N)(hl:l.length≤9000):∃out:List ZI,Zl Tryz.prog (tab (n+2)) 0 157 (Za 65) 3 VE (XB l (v:Int) (k:Int) [] 0)=some (.exit 0,UT l (v:Int) (k:Int) out)∧out.length≤l.length∧(∀r∈out,r∈l∧r.c.getD v 0=0)∧∀j,j<l.length→∀r,l[j]?=some r→r.c.getD v 0=0→r∈out:=
 QV (O:=tab (n+2)) (P:= Tryz.prog) (m:=0) (N:=157) (lives:=Za 65) (r:=3) (C:=VE) (exN:=.exit 0) (M:=l.length) (enc:=fun i (out:List ZI)=>XB l (v:Int) (k:Int) out i) (out:=fun out=>UT l (v:Int) (k:Int) out)
  (fun i out=>out.length≤i∧(∀r∈out,r∈l∧r.c.getD v 0=0)∧∀j,j<i→∀r,l[j]?=some r→r.c.getD v 0=0→r∈out) [] ⟨by simp,by simp,fun j hj=>absurd hj (by omega)⟩ (by omega) (by simp)
  (fun i out hi hI=>by
   obtain ⟨g1,g2,g3⟩:=hI
   have hx:l[i]?=some l[i]:=gEt hi
   obtain ⟨r,hr⟩:∃r,l[i]=r:=⟨_,rfl⟩
   rw [hr] at hx
   have hm:=gMe hx
   have hrT:=hT r hm
   have hc:r.c[(v:Int).toNat]?=some (r.c.getD v 0):=Xi (by rw [hrT.len];exact hv)
   have W:InI ((i:Int)+1):=⟨by omega,by omega⟩
   by_cases c1:r.c.getD v 0=0
   ·refine ⟨out++[r],Zpg (by omega) hx hc (by omega) c1 (by omega) W,by simp;omega,fun s hs=>?_,fun j hj s hs h0=>?_⟩
    ·rcases List.mem_append.1 hs with h|h
     ·exact g2 s h
     ·rw [List.mem_singleton] at h;subst h;exact ⟨hm,c1⟩
    ·by_cases hji:j=i
     ·subst hji;rw [hx] at hs;cases hs;simp
     ·exact List.mem_append_left _ (g3 j (by omega) s hs h0)
   ·refine ⟨out,Zn6 (by omega) hx hc (by omega) c1 W,by omega,g2,fun j hj s hs h0=>?_⟩
    by_cases hji:j=i
    ·subst hji;rw [hx] at hs;cases hs;exact absurd h0 c1
    ·exact g3 j (by omega) s hs h0)
  (fun out _=>Zpr (by omega))
theorem Zwy{out11:List ZI}{i8 i11:Nat}{p q:ZI}(hp:TrB N p)(hq:TrB N q)(hxp:l[i8]?=some p)(hxq:l[i11]?=some q)(hv:v<N)(hN:N≤100000):
  ∃c:List Int,Zl Tryz.prog (tab (n+2)) 0 157 (Za 65) 16 Vm (Xx l (v:Int) (k:Int) out11 i8 i11 (List.replicate p.c.length 0) 0)=some (.exit 6,VC l (v:Int) (k:Int) out11 i8 i11 c)∧c.length=N∧∀u,u<N→c.getD u 0=p.c.getD u 0*-(q.c.getD v 0)+q.c.getD u 0*p.c.getD v 0:=
 QV (O:=tab (n+2)) (P:= Tryz.prog) (m:=0) (N:=157) (lives:=Za 65) (r:=16) (C:=Vm) (exN:=.exit 6) (M:=N) (enc:=fun i (c:List Int)=>Xx l (v:Int) (k:Int) out11 i8 i11 c i) (out:=fun c=>VC l (v:Int) (k:Int) out11 i8 i11 c)
  (fun i c=>c.length=N∧∀u,u<i→c.getD u 0=p.c.getD u 0*-(q.c.getD v 0)+q.c.getD u 0*p.c.getD v 0) (List.replicate p.c.length 0) ⟨by rw [List.length_replicate,hp.len],fun j hj=>absurd hj (by omega)⟩ (by omega) (by simp)
  (fun i c hi hI=>by
   obtain ⟨g1,g2⟩:=hI
   have hic:i<c.length:=by omega
   have a1:p.c[i]?=some (p.c.getD i 0):=Xi (by rw [hp.len];exact hi)
   have a2:q.c[(v:Int).toNat]?=some (q.c.getD v 0):=Xi (by rw [hq.len];exact hv)
   have a3:q.c[i]?=some (q.c.getD i 0):=Xi (by rw [hq.len];exact hi)
   have a4:p.c[(v:Int).toNat]?=some (p.c.getD v 0):=Xi (by rw [hp.len];exact hv)
   have b1:=hq.bd v
   have b2:=Zuj (hp.bd i) (b:=-(q.c.getD v 0)) ⟨by omega,by omega⟩
   have b3:=Zuj (hq.bd i) (hp.bd v)
   refine ⟨_,Zld (by omega) hxp a1 hxq a2 (by omega) ⟨by omega,by omega⟩ ⟨by omega,by omega⟩ a3 a4 (by omega) ⟨by omega,by omega⟩ ⟨by omega,by omega⟩ hic ⟨by omega,by omega⟩,by rw [List.length_set];exact g1,fun u hu=>?_⟩
   rw [J3 hic]
   by_cases h:u=i
   ·subst h;rw [if_pos rfl]
   ·rw [if_neg h];exact g2 u (by omega))
  (fun c hI=>Zla (by rw [hI.1];omega))
theorem Zvb{a b:Nat}(ha:a<18446744073709551616)(hb:b<18446744073709551616):a ||| b<18446744073709551616:=Nat.or_lt_two_pow (n:=64) ha hb
theorem orD{a b:Int}(a0:0≤a)(a1:a<18446744073709551616)(b0:0≤b)(b1:b<18446744073709551616):IntKind.u64.wrap ((((a:Int) % 2 ^ IntKind.u64.bits).toNat ||| ((b:Int) % 2 ^ IntKind.u64.bits).toNat:Nat):Int)=((a.toNat ||| b.toNat:Nat):Int):=by
 have e:(2:Int) ^ IntKind.u64.bits=18446744073709551616:=rfl
 rw [e,Int.emod_eq_of_lt a0 a1,Int.emod_eq_of_lt b0 b1]
 have:=Zvb (a:=a.toNat) (b:=b.toNat) (by omega) (by omega)
 exact wru (by omega) (by omega)
theorem ZxH{out8:List ZI}{i8:Nat}{p:ZI}(hT:∀r∈l,TrB N r)(hv:v<N)(hN:N≤100000)(hl:l.length≤9000)(hk:k≤1000)(hxp:l[i8]?=some p)(ho:out8.length≤90000000)(hG:∀r∈out8,ZcQ l N v r):
  ∃ex t,Zl Tryz.prog (tab (n+2)) 0 157 (Za 65) 11 YJ (Yu l (v:Int) (k:Int) out8 i8 0)=some (ex,t)∧
  ((ex=.exit 4∧∃out,t=Uc l (v:Int) (k:Int) out i8∧out.length≤out8.length+l.length∧(∀r∈out,ZcQ l N v r)∧(∀r∈out8,r∈out)∧∀j,j<l.length→∀q,l[j]?=some q→0<p.c.getD v 0→q.c.getD v 0<0→Vj 64 (p.from_.toNat ||| q.from_.toNat)≤k+1→∃r∈out,r.from_.toNat=p.from_.toNat ||| q.from_.toNat)∨(ex=.ret∧∃out,t=Ut l (v:Int) (k:Int) out i8)):=
 Qr (O:=tab (n+2)) (P:= Tryz.prog) (m:=0) (N:=157) (lives:=Za 65) (r:=11) (C:=YJ) (M:=l.length) (enc:=fun i (out:List ZI)=>Yu l (v:Int) (k:Int) out i8 i)
  (fun i out=>out.length≤out8.length+i∧(∀r∈out,ZcQ l N v r)∧(∀r∈out8,r∈out)∧∀j,j<i→∀q,l[j]?=some q→0<p.c.getD v 0→q.c.getD v 0<0→Vj 64 (p.from_.toNat ||| q.from_.toNat)≤k+1→∃r∈out,r.from_.toNat=p.from_.toNat ||| q.from_.toNat)
  (fun ex t=>(ex=.exit 4∧∃out,t=Uc l (v:Int) (k:Int) out i8∧out.length≤out8.length+l.length∧(∀r∈out,ZcQ l N v r)∧(∀r∈out8,r∈out)∧∀j,j<l.length→∀q,l[j]?=some q→0<p.c.getD v 0→q.c.getD v 0<0→Vj 64 (p.from_.toNat ||| q.from_.toNat)≤k+1→∃r∈out,r.from_.toNat=p.from_.toNat ||| q.from_.toNat)∨(ex=.ret∧∃out,t=Ut l (v:Int) (k:Int) out i8))
  out8 ⟨by omega,hG,fun _ h=>h,fun j hj=>absurd hj (by omega)⟩ (by omega)
  (fun i out hi hI=>by
   obtain ⟨g1,g2,g3,g4⟩:=hI
   have hx:l[i]?=some l[i]:=gEt hi
   obtain ⟨q,hq⟩:∃q,l[i]=q:=⟨_,rfl⟩
   rw [hq] at hx
   have hmq:=gMe hx
   have hmp:=gMe hxp
   have hqT:=hT q hmq
   have hpT:=hT p hmp
   have hcq:q.c[(v:Int).toNat]?=some (q.c.getD v 0):=Xi (by rw [hqT.len];exact hv)
   have hcp:p.c[(v:Int).toNat]?=some (p.c.getD v 0):=Xi (by rw [hpT.len];exact hv)
   have W:InI ((i:Int)+1):=⟨by omega,by omega⟩
   have hz:(0:Int)≤(v:Int):=by omega
   have skip:(0<p.c.getD v 0→q.c.getD v 0<0→Vj 64 (p.from_.toNat ||| q.from_.toNat)≤k+1→False)→∀j,j<i+1→∀q,l[j]?=some q→0<p.c.getD v 0→q.c.getD v 0<0→Vj 64 (p.from_.toNat ||| q.from_.toNat)≤k+1→∃r∈out,r.from_.toNat=p.from_.toNat ||| q.from_.toNat:=fun h j hj s hs h1 h2 h3=>by
    by_cases hji:j=i
    ·subst hji;rw [hx] at hs;cases hs;exact (h h1 h2 h3).elim
    ·exact g4 j (by omega) s hs h1 h2 h3
   by_cases c1:p.c.getD v 0≤0
   ·exact .inl ⟨out,ZkL (by omega) hxp hcp hz c1 W,by omega,g2,g3,skip fun h1 _ _=>by omega⟩
   by_cases c2:0≤q.c.getD v 0
   ·exact .inl ⟨out,Zl3 (by omega) hxp hcp hz c1 hx hcq hz c2 W,by omega,g2,g3,skip fun _ h2 _=>by omega⟩
   have D:=orD hpT.f0 hpT.f1 hqT.f0 hqT.f1
   have hlt:=Zvb (a:=p.from_.toNat) (b:=q.from_.toNat) (by have:=hpT.f0;have:=hpT.f1;omega) (by have:=hqT.f0;have:=hqT.f1;omega)
   have KB:=Zvp (n:=n+1) hlt
   by_cases c3:(k:Int)+1<((Vj 64 (p.from_.toNat ||| q.from_.toNat):Nat):Int)
   ·exact .inl ⟨out,Zlr (by omega) hxp hcp hz c1 hx hcq hz c2 D KB ⟨by omega,by omega⟩ c3 W,by omega,g2,g3,skip fun _ _ h3=>by omega⟩
   obtain ⟨c,L13,hcl,hcv⟩:=Zwy (n:=n) (N:=N) (v:=v) (k:=k) (l:=l) (out11:=out) (i8:=i8) (i11:=i) hpT hqT hxp hx hv hN
   have hcb:∀u,-2305843009213693952≤c.getD u 0∧c.getD u 0≤2305843009213693952:=fun u=>by
    by_cases hu:u<N
    ·rw [hcv u hu]
     have b1:=hqT.bd v
     have b2:=Zuj (hpT.bd u) (b:=-(q.c.getD v 0)) ⟨by omega,by omega⟩
     have b3:=Zuj (hqT.bd u) (hpT.bd v)
     omega
    ·rw [Zir (by omega)];omega
   obtain ⟨ok,R,K14,hR,hred⟩:=ZuZ (n:=n) (c:=c) (fun x hx9=>by
    obtain ⟨j,hj⟩:=List.mem_iff_getElem?.1 hx9
    have:=hcb j
    rw [ZjV hj] at this
    omega) (by omega)
   have M12:p.c.length≤100000000:=by rw [hpT.len];omega
   cases ok with
   | false=>exact .inr ⟨.ret,_,by simp,Zls (by omega) hxp hcp hz c1 hx hcq hz c2 D KB ⟨by omega,by omega⟩ c3 M12 L13 K14 hR rfl,.inr ⟨rfl,_,rfl⟩⟩
   | true=>
     obtain ⟨d,hd,hdi⟩:=hred rfl
     have hd0:(0:Rat)<(d:Rat):=by exact_mod_cast hd
     refine .inl ⟨out++[⟨R,((p.from_.toNat ||| q.from_.toNat:Nat):Int)⟩],Zmj (by omega) hxp hcp hz c1 hx hcq hz c2 D KB ⟨by omega,by omega⟩ c3 M12 L13 K14 hR rfl hxp hx D (by omega) W,by simp;omega,fun r hr=>?_,fun r hr=>List.mem_append_left _ (g3 r hr),fun j hj s hs h1 h2 h3=>?_⟩
     ·rcases List.mem_append.1 hr with h|h
      ·exact g2 r h
      ·rw [List.mem_singleton] at h
       subst h
       refine ⟨⟨by show R.length=N;omega,fun j=>(hdi j).2,by show (0:Int)≤((_:Nat):Int);omega,by show ((_:Nat):Int)<_;omega⟩,.inr ⟨p,hmp,q,hmq,by omega,by omega,by show ((_:Nat):Int).toNat=_;omega,1 / (d:Rat),UL (by decide) hd0,fun u hu=>?_⟩⟩
       have e1:=(hdi u).1
       rw [hcv u hu] at e1
       have e2:((p.c.getD u 0*-(q.c.getD v 0)+q.c.getD u 0*p.c.getD v 0:Int):Rat)=((d*R.getD u 0:Int):Rat):=by rw [e1]
       push_cast at e2
       show ((R.getD u 0:Int):Rat)=_
       rw [e2]
       grind
     ·by_cases hji:j=i
      ·subst hji;rw [hx] at hs;cases hs
       exact ⟨_,List.mem_append_right _ (List.mem_singleton.2 rfl),by show ((_:Nat):Int).toNat=_;omega⟩
      ·obtain ⟨r,hr,e⟩:=g4 j (by omega) s hs h1 h2 h3
       exact ⟨r,List.mem_append_left _ hr,e⟩)
  (fun out hI=>by
   obtain ⟨g1,g2,g3,g4⟩:=hI
   exact ⟨.exit 4,_,by simp,Zk7 (by omega),.inl ⟨rfl,out,rfl,g1,g2,g3,g4⟩⟩)
theorem ZhN(hT:∀r∈l,TrB N r)(hv:v<N)(hN:N≤100000)(hl:l.length≤9000)(hk:k≤1000):
  ∃(l':List ZI) (ok:Bool),run (n+2) 65 [.sl 2 (l.map Yi),.lit (.int .i64 (v:Int)),.lit (.int .i64 (k:Int))]=some (.tup [.sl 2 (l'.map Yi),.lit (.bool ok)])∧(ok=true→(∀r∈l',TrB N r)∧l'.length≤l.length+l.length*l.length∧Zpu N (l.map kr) v k (l'.map kr)):=by
 obtain ⟨o3,L3,a1,a2,a3⟩:=ZyX (n:=n) (k:=k) hT hv hl
 have hG0:∀r∈o3,ZcQ l N v r:=fun r hr=>⟨hT r (a2 r hr).1,.inl (a2 r hr)⟩
 obtain ⟨ex,t,L8,hQ⟩:=Qr (O:=tab (n+2)) (P:= Tryz.prog) (m:=0) (N:=157) (lives:=Za 65) (r:=8) (C:=Qs) (M:=l.length) (enc:=fun i (out:List ZI)=>XW l (v:Int) (k:Int) out i)
  (fun i out=>out.length≤l.length+i*l.length∧(∀r∈out,ZcQ l N v r)∧(∀r∈o3,r∈out)∧∀i',i'<i→∀p,l[i']?=some p→∀q∈l,0<p.c.getD v 0→q.c.getD v 0<0→Vj 64 (p.from_.toNat ||| q.from_.toNat)≤k+1→∃r∈out,r.from_.toNat=p.from_.toNat ||| q.from_.toNat)
  (fun ex t=>(ex=.exit 2∧∃out,t=J9 out∧out.length≤l.length+l.length*l.length∧(∀r∈out,ZcQ l N v r)∧(∀r∈o3,r∈out)∧∀i',i'<l.length→∀p,l[i']?=some p→∀q∈l,0<p.c.getD v 0→q.c.getD v 0<0→Vj 64 (p.from_.toNat ||| q.from_.toNat)≤k+1→∃r∈out,r.from_.toNat=p.from_.toNat ||| q.from_.toNat)∨(ex=.ret∧∃out,t=Zal out))
  o3 ⟨by omega,hG0,fun _ h=>h,fun j hj=>absurd hj (by omega)⟩ (by omega)
  (fun i out hi hI=>by
   obtain ⟨g1,g2,g3,g4⟩:=hI
   have hx:l[i]?=some l[i]:=gEt hi
   obtain ⟨p,hp⟩:∃p,l[i]=p:=⟨_,rfl⟩
   rw [hp] at hx
   have hb:i*l.length≤9000*9000:=Nat.mul_le_mul (by omega) hl
   obtain ⟨ex,t,L11,h11⟩:=ZxH (n:=n) (k:=k) (out8:=out) hT hv hN hl hk hx (by omega) g2
   rcases h11 with ⟨rfl,o2,rfl,b1,b2,b3,b4⟩|⟨rfl,o2,rfl⟩
   ·refine .inl ⟨o2,ZpQ (by omega) L11 ⟨by omega,by omega⟩,?_,b2,fun r hr=>b3 r (g3 r hr),fun i' hi' p' hp' q hq h1 h2 h3=>?_⟩
    ·rw [Nat.succ_mul];omega
    ·by_cases e:i'=i
     ·subst e;rw [hx] at hp';cases hp'
      obtain ⟨j,hj⟩:=List.mem_iff_getElem?.1 hq
      exact b4 j (gEi hj).1 q hj h1 h2 h3
     ·obtain ⟨r,hr,er⟩:=g4 i' (by omega) p' hp' q hq h1 h2 h3
      exact ⟨r,b3 r hr,er⟩
   ·exact .inr ⟨.ret,_,by simp,ZoE (by omega) L11,.inr ⟨rfl,_,rfl⟩⟩)
  (fun out hI=>by
   obtain ⟨g1,g2,g3,g4⟩:=hI
   exact ⟨.exit 2,_,by simp,ZoW (by omega),.inl ⟨rfl,out,rfl,g1,g2,g3,g4⟩⟩)
 rcases hQ with ⟨rfl,out,rfl,g1,g2,g3,g4⟩|⟨rfl,out,rfl⟩
 ·refine ⟨out,true,Zx4 L3 L8,fun _=>⟨fun r hr=>(g2 r hr).1,g1,⟨fun r hr=>?_,fun r hr h0=>?_,fun p hp q hq h1 h2 h3=>?_⟩⟩⟩
  ·obtain ⟨s,hs,rfl⟩:=List.mem_map.1 hr
   rcases (g2 s hs).2 with ⟨h1,h2⟩|⟨p,hp,q,hq,h1,h2,h3,g,h4,h5⟩
   ·exact .inl ⟨List.mem_map_of_mem h1,by show ((s.c.getD v 0:Int):Rat)=0;rw [h2];rfl⟩
   ·exact .inr ⟨kr p,List.mem_map_of_mem hp,kr q,List.mem_map_of_mem hq,by show (0:Rat)<((p.c.getD v 0:Int):Rat);exact_mod_cast h1,by show ((q.c.getD v 0:Int):Rat)<0;exact_mod_cast h2,h3,g,h4,h5⟩
  ·obtain ⟨s,hs,rfl⟩:=List.mem_map.1 hr
   have h1:s.c.getD v 0=0:=by
    have:((s.c.getD v 0:Int):Rat)=0:=h0
    exact_mod_cast this
   obtain ⟨j,hj⟩:=List.mem_iff_getElem?.1 hs
   exact List.mem_map_of_mem (g3 s (a3 j (gEi hj).1 s hj h1))
  ·obtain ⟨p',hp',rfl⟩:=List.mem_map.1 hp
   obtain ⟨q',hq',rfl⟩:=List.mem_map.1 hq
   have h1':0<p'.c.getD v 0:=by
    have:(0:Rat)<((p'.c.getD v 0:Int):Rat):=h1
    exact_mod_cast this
   have h2':q'.c.getD v 0<0:=by
    have:((q'.c.getD v 0:Int):Rat)<0:=h2
    exact_mod_cast this
   obtain ⟨i,hi⟩:=List.mem_iff_getElem?.1 hp'
   obtain ⟨r,hr,e⟩:=g4 i (gEi hi).1 p' hi q' hq' h1' h2' h3
   exact ⟨kr r,List.mem_map_of_mem hr,e⟩
 ·exact ⟨[],false,by simpa using ZwA L3 L8,fun h=>by cases h⟩
end
theorem EndsI.nil:EndsI [] false false 0 0:={z:=(fun r h=>by cases h),lo:=(fun h=>by cases h),nlo:=(fun _ r h=>by cases h),hi:=(fun h=>by cases h),nhi:=(fun _ r h=>by cases h)}
section
variable{l:List (Rat × Rat)}{low high:Bool}{least most:Rat}{a c v:Rat}
theorem EndsI.zeroR(h:EndsI l low high least most)(ha:a=0)(hc:0≤c):EndsI (l++[(a,c)]) low high least most:=by
 have mem:∀r,r∈l++[(a,c)]→r∈l∨r=(a,c):=fun r hr=>by simpa using hr
 refine ⟨fun r hr h0=>?_,fun hl=>⟨?_,fun r hr h1=>?_⟩,fun hl r hr h1=>?_,fun hl=>⟨?_,fun r hr h1=>?_⟩,fun hl r hr h1=>?_⟩
 ·rcases mem r hr with h9|rfl
  ·exact h.z r h9 h0
  ·exact hc
 ·obtain ⟨⟨r,h1,h2⟩,_⟩:=h.lo hl;exact ⟨r,List.mem_append_left _ h1,h2⟩
 ·rcases mem r hr with h9|rfl
  ·exact (h.lo hl).2 r h9 h1
  ·dsimp only at h1;grind
 ·rcases mem r hr with h9|rfl
  ·exact h.nlo hl r h9 h1
  ·dsimp only at h1;grind
 ·obtain ⟨⟨r,h1,h2⟩,_⟩:=h.hi hl;exact ⟨r,List.mem_append_left _ h1,h2⟩
 ·rcases mem r hr with h9|rfl
  ·exact (h.hi hl).2 r h9 h1
  ·dsimp only at h1;grind
 ·rcases mem r hr with h9|rfl
  ·exact h.nhi hl r h9 h1
  ·dsimp only at h1;grind
theorem EndsI.upNew(h:EndsI l low high least most)(ha:0<a)(hv:v*a+c=0)(hn:low=false∨least≤v):EndsI (l++[(a,c)]) true high v most:=by
 have mem:∀r,r∈l++[(a,c)]→r∈l∨r=(a,c):=fun r hr=>by simpa using hr
 refine ⟨fun r hr h0=>?_,fun _=>⟨⟨(a,c),by simp,ha,hv⟩,fun r hr h1=>?_⟩,(fun hl=>by cases hl),fun hl=>⟨?_,fun r hr h1=>?_⟩,fun hl r hr h1=>?_⟩
 ·rcases mem r hr with h9|rfl
  ·exact h.z r h9 h0
  ·dsimp only at h0;grind
 ·rcases mem r hr with h9|rfl
  ·cases hlow:low with
   | false=>exact absurd h1 (h.nlo hlow r h9)
   | true=>
     have h2:=(h.lo hlow).2 r h9 h1
     have h3:least≤v:=by rcases hn with h8|h8;rw [hlow] at h8;cases h8;exact h8
     have:=UH (a:=r.1) (by grind) h3
     grind
  ·show 0≤v*a+c;grind
 ·obtain ⟨⟨r,h1,h2⟩,_⟩:=h.hi hl;exact ⟨r,List.mem_append_left _ h1,h2⟩
 ·rcases mem r hr with h9|rfl
  ·exact (h.hi hl).2 r h9 h1
  ·dsimp only at h1;grind
 ·rcases mem r hr with h9|rfl
  ·exact h.nhi hl r h9 h1
  ·dsimp only at h1;grind
theorem EndsI.upOld(h:EndsI l true high least most)(ha:0<a)(hv:v*a+c=0)(hn:v≤least):EndsI (l++[(a,c)]) true high least most:=by
 have mem:∀r,r∈l++[(a,c)]→r∈l∨r=(a,c):=fun r hr=>by simpa using hr
 refine ⟨fun r hr h0=>?_,fun _=>⟨?_,fun r hr h1=>?_⟩,(fun hl=>by cases hl),fun hl=>⟨?_,fun r hr h1=>?_⟩,fun hl r hr h1=>?_⟩
 ·rcases mem r hr with h9|rfl
  ·exact h.z r h9 h0
  ·dsimp only at h0;grind
 ·obtain ⟨⟨r,h1,h2⟩,_⟩:=h.lo rfl;exact ⟨r,List.mem_append_left _ h1,h2⟩
 ·rcases mem r hr with h9|rfl
  ·exact (h.lo rfl).2 r h9 h1
  ·have:=UH (a:=a) (by grind) hn
   show 0≤least*a+c;grind
 ·obtain ⟨⟨r,h1,h2⟩,_⟩:=h.hi hl;exact ⟨r,List.mem_append_left _ h1,h2⟩
 ·rcases mem r hr with h9|rfl
  ·exact (h.hi hl).2 r h9 h1
  ·dsimp only at h1;grind
 ·rcases mem r hr with h9|rfl
  ·exact h.nhi hl r h9 h1
  ·dsimp only at h1;grind
theorem EndsI.downNew(h:EndsI l low high least most)(ha:a<0)(hv:v*a+c=0)(hn:high=false∨v≤most):EndsI (l++[(a,c)]) low true least v:=by
 have mem:∀r,r∈l++[(a,c)]→r∈l∨r=(a,c):=fun r hr=>by simpa using hr
 refine ⟨fun r hr h0=>?_,fun hl=>⟨?_,fun r hr h1=>?_⟩,fun hl r hr h1=>?_,fun _=>⟨⟨(a,c),by simp,ha,hv⟩,fun r hr h1=>?_⟩,(fun hl=>by cases hl)⟩
 ·rcases mem r hr with h9|rfl
  ·exact h.z r h9 h0
  ·dsimp only at h0;grind
 ·obtain ⟨⟨r,h1,h2⟩,_⟩:=h.lo hl;exact ⟨r,List.mem_append_left _ h1,h2⟩
 ·rcases mem r hr with h9|rfl
  ·exact (h.lo hl).2 r h9 h1
  ·dsimp only at h1;grind
 ·rcases mem r hr with h9|rfl
  ·exact h.nlo hl r h9 h1
  ·dsimp only at h1;grind
 ·rcases mem r hr with h9|rfl
  ·cases hhi:high with
   | false=>exact absurd h1 (h.nhi hhi r h9)
   | true=>
     have h2:=(h.hi hhi).2 r h9 h1
     have h3:v≤most:=by rcases hn with h8|h8;rw [hhi] at h8;cases h8;exact h8
     have:=UH (a:=-r.1) (by grind) h3
     grind
  ·show 0≤v*a+c;grind
theorem EndsI.downOld(h:EndsI l low true least most)(ha:a<0)(hv:v*a+c=0)(hn:most≤v):EndsI (l++[(a,c)]) low true least most:=by
 have mem:∀r,r∈l++[(a,c)]→r∈l∨r=(a,c):=fun r hr=>by simpa using hr
 refine ⟨fun r hr h0=>?_,fun hl=>⟨?_,fun r hr h1=>?_⟩,fun hl r hr h1=>?_,fun _=>⟨?_,fun r hr h1=>?_⟩,(fun hl=>by cases hl)⟩
 ·rcases mem r hr with h9|rfl
  ·exact h.z r h9 h0
  ·dsimp only at h0;grind
 ·obtain ⟨⟨r,h1,h2⟩,_⟩:=h.lo hl;exact ⟨r,List.mem_append_left _ h1,h2⟩
 ·rcases mem r hr with h9|rfl
  ·exact (h.lo hl).2 r h9 h1
  ·dsimp only at h1;grind
 ·rcases mem r hr with h9|rfl
  ·exact h.nlo hl r h9 h1
  ·dsimp only at h1;grind
 ·obtain ⟨⟨r,h1,h2⟩,_⟩:=h.hi rfl;exact ⟨r,List.mem_append_left _ h1,h2⟩
 ·rcases mem r hr with h9|rfl
  ·exact (h.hi rfl).2 r h9 h1
  ·have:=UH (a:=-a) (by grind) hn
   show 0≤most*a+c;grind
end
theorem UJ:Zk 0=.agg [.lit (.bool false),.sl 1 [],.sl 1 []]:=by
 show AV.agg [.lit (.bool (Ze 0).s),Zd (Ze 0).l1,Zd (Ze 0).l2]=_
 rw [show Ze 0=⟨false,[],[]⟩ from by decide+kernel]
 rfl
theorem ZuF{z:Int}(h:-1073741824≤z∧z≤1073741824):H (z:Rat)≤1:=by
 unfold H
 rw [Rat.num_intCast,Rat.den_intCast]
 have h1:(lmb z.natAbs).length≤1:=Yg (by omega)
 have h2:(lmb 1).length≤1:=Yg (by omega)
 omega
theorem ZzL{a b:Rat}(h:b≠0):H (a / b)≤H a+H b:=by
 have e:a / b=a*(1 / b):=by rw [Rat.div_def,Rat.div_def,Rat.one_mul]
 rw [e]
 have:=Kk a (1 / b)
 have:=ZfU h
 omega
theorem Zp9{a c:Int}(ha:a≠0)(hab:-1073741824≤a∧a≤1073741824)(hcb:-1073741824≤c∧c≤1073741824):Y9 (-c) a*(a:Rat)+(c:Rat)=0∧H (Y9 (-c) a)≤2:=by
 have h0:(a:Rat)≠0:=by exact_mod_cast ha
 unfold Y9
 refine ⟨by push_cast;grind,?_⟩
 have h1:=ZzL (a:=((-c:Int):Rat)) h0
 have h2:=ZuF hab
 have h3:=ZuF (z:=-c) ⟨by omega,by omega⟩
 omega
def JI(m:Nat)(r:ZI):Rat × Rat:=(((r.c.getD m 0:Int):Rat),((r.c.getD (m+1) 0:Int):Rat))
theorem ZxS{n m:Nat}{l:List ZI}(hT:∀r∈l,TrB (m+2) r)(hl:l.length≤100000000)(hm:m≤1000):
  ∃(s:Int) (z:Rat),run n 66 [.sl 2 (l.map Yi),.lit (.int .i64 (m:Int))]=some (.tup [.lit (.int .i64 s),Zk z])∧MinG (ZeK (l.map (JI m))) s z∧(s≠1→z=0)∧H z≤2:=by
 obtain ⟨ex,t,L,hQ⟩:=Qr (O:=tab n) (P:= Tryz.prog) (m:=0) (N:=85) (lives:=Za 66) (r:=4) (C:=Ym) (M:=l.length) (enc:=fun i (b:Bool × Bool × Rat × Rat)=>ZP l (m:Int) b.1 b.2.1 i b.2.2.1 b.2.2.2)
  (fun i b=>EndsI ((l.map (JI m)).take i) b.1 b.2.1 b.2.2.1 b.2.2.2∧H b.2.2.1≤2∧H b.2.2.2≤2)
  (fun ex t=>(ex=.exit 0∧∃b:Bool × Bool × Rat × Rat,t=WZ b.1 b.2.1 b.2.2.1 b.2.2.2∧EndsI (l.map (JI m)) b.1 b.2.1 b.2.2.1 b.2.2.2∧H b.2.2.1≤2∧H b.2.2.2≤2)∨(ex=.ret∧(∃b:Bool × Bool × Rat × Rat,t=KO b.1 b.2.1 b.2.2.1 b.2.2.2)∧∀t,¬ZeK (l.map (JI m)) t))
  (false,false,0,0) ⟨EndsI.nil,by decide+kernel,by decide+kernel⟩ (by omega)
  (fun i b hi hI=>by
   obtain ⟨low,high,least,most⟩:=b
   obtain ⟨I,Hl,Hm⟩:=hI
   dsimp only at I Hl Hm
   have hx:l[i]?=some l[i]:=gEt hi
   obtain ⟨r,hr⟩:∃r,l[i]=r:=⟨_,rfl⟩
   rw [hr] at hx
   have hmem:=gMe hx
   have hrT:=hT r hmem
   have hc1:r.c[(m:Int).toNat]?=some (r.c.getD m 0):=Xi (by rw [hrT.len];omega)
   have hc2:r.c[((m:Int)+1).toNat]?=some (r.c.getD (m+1) 0):=by
    rw [show ((m:Int)+1).toNat=m+1 by omega]
    exact Xi (by rw [hrT.len];omega)
   have htk:(l.map (JI m)).take (i+1)=(l.map (JI m)).take i++[JI m r]:=by
    rw [List.take_add_one,List.getElem?_map,hx];rfl
   have B1:=hrT.bd m
   have B2:=hrT.bd (m+1)
   obtain ⟨a,ha⟩:∃a,r.c.getD m 0=a:=⟨_,rfl⟩
   obtain ⟨c,hc⟩:∃c,r.c.getD (m+1) 0=c:=⟨_,rfl⟩
   have hlp:JI m r=((a:Rat),(c:Rat)):=by unfold JI;rw [ha,hc]
   rw [ha] at hc1 B1
   rw [hc] at hc2 B2
   have W:InI ((i:Int)+1):=⟨by omega,by omega⟩
   have W4:InI ((m:Int)+1):=⟨by omega,by omega⟩
   have W7:InI (-c):=⟨by omega,by omega⟩
   have Y8:InI a:=⟨by omega,by omega⟩
   by_cases h0:a=0
   ·by_cases h1:c<0
    ·refine .inr ⟨.ret,_,by simp,Zl8 (by omega) hx hc1 (by omega) W4 hc2 (by omega) h0 h1,.inr ⟨rfl,⟨(low,high,least,most),rfl⟩,fun t ht=>?_⟩⟩
     have h2:=ht (JI m r) (List.mem_map_of_mem hmem)
     rw [hlp,h0] at h2
     have h3:(c:Rat)<0:=by exact_mod_cast h1
     dsimp only at h2
     push_cast at h2
     grind
    ·refine .inl ⟨(low,high,least,most),Zle (by omega) hx hc1 (by omega) W4 hc2 (by omega) h0 h1 W,?_,Hl,Hm⟩
     rw [htk,hlp]
     exact I.zeroR (by rw [h0];rfl) (by exact_mod_cast (show (0:Int)≤c by omega))
   ·obtain ⟨fl,fH⟩:=Zp9 (a:=a) (c:=c) h0 B1 B2
    by_cases h1:0<a
    ·have h1':(0:Rat)<(a:Rat):=by exact_mod_cast h1
     cases low with
     | false=>
       refine .inl ⟨(true,high,Y9 (-c) a,most),Zl1 (by omega) hx hc1 (by omega) W4 hc2 (by omega) h0 W7 W7 Y8 h1 rfl W,?_,fH,Hm⟩
       rw [htk,hlp]
       exact I.upNew h1' fl (.inl rfl)
     | true=>
       by_cases h2:0<sgR (Y9 (-c) a-least)
       ·refine .inl ⟨(true,high,Y9 (-c) a,most),ZmO (by omega) hx hc1 (by omega) W4 hc2 (by omega) h0 W7 W7 Y8 h1 rfl (Nat.le_trans fH (by omega)) (Nat.le_trans Hl (by omega)) h2 W,?_,fH,Hm⟩
        rw [htk,hlp]
        refine I.upNew h1' fl (.inr ?_)
        rcases YH (Y9 (-c) a-least) with ⟨d1,d2⟩|⟨d1,d2⟩|⟨d1,d2⟩
        ·grind
        ·omega
        ·omega
       ·refine .inl ⟨(true,high,least,most),ZkH (by omega) hx hc1 (by omega) W4 hc2 (by omega) h0 W7 W7 Y8 h1 rfl (Nat.le_trans fH (by omega)) (Nat.le_trans Hl (by omega)) h2 W,?_,Hl,Hm⟩
        rw [htk,hlp]
        refine I.upOld h1' fl ?_
        rcases YH (Y9 (-c) a-least) with ⟨d1,d2⟩|⟨d1,d2⟩|⟨d1,d2⟩
        ·omega
        ·grind
        ·grind
    ·have h1':(a:Rat)<0:=by exact_mod_cast (show a<0 by omega)
     cases high with
     | false=>
       refine .inl ⟨(low,true,least,Y9 (-c) a),Zk4 (by omega) hx hc1 (by omega) W4 hc2 (by omega) h0 W7 W7 Y8 h1 rfl W,?_,Hl,fH⟩
       rw [htk,hlp]
       exact I.downNew h1' fl (.inl rfl)
     | true=>
       by_cases h2:sgR (Y9 (-c) a-most)<0
       ·refine .inl ⟨(low,true,least,Y9 (-c) a),ZkI (by omega) hx hc1 (by omega) W4 hc2 (by omega) h0 W7 W7 Y8 h1 rfl (Nat.le_trans fH (by omega)) (Nat.le_trans Hm (by omega)) h2 W,?_,Hl,fH⟩
        rw [htk,hlp]
        refine I.downNew h1' fl (.inr ?_)
        have:=Xa.1 h2
        grind
       ·refine .inl ⟨(low,true,least,most),ZlU (by omega) hx hc1 (by omega) W4 hc2 (by omega) h0 W7 W7 Y8 h1 rfl (Nat.le_trans fH (by omega)) (Nat.le_trans Hm (by omega)) h2 W,?_,Hl,Hm⟩
        rw [htk,hlp]
        refine I.downOld h1' fl ?_
        have:¬Y9 (-c) a-most<0:=fun h=>h2 (Xa.2 h)
        grind)
  (fun b hI=>by
   obtain ⟨I,Hl,Hm⟩:=hI
   rw [List.take_of_length_le (by simp)] at I
   exact ⟨.exit 0,_,by simp,ZkG (by omega),.inl ⟨rfl,b,rfl,I,Hl,Hm⟩⟩)
 have H0:H 0≤2:=by decide+kernel
 rcases hQ with ⟨rfl,⟨low,high,least,most⟩,rfl,I,Hl,Hm⟩|⟨rfl,⟨b,rfl⟩,hno⟩
 ·dsimp only at I Hl Hm L
  cases low with
  | false=>exact ⟨3,0,by rw [UJ];exact Zsy L rfl,.inr (.inl ⟨rfl,fun B=>I.free B⟩),fun _=>rfl,H0⟩
  | true=>
    cases high with
    | false=>
      obtain ⟨h1,h2⟩:=I.best (fun h=>by cases h)
      exact ⟨1,least,Zs9 L rfl rfl,.inr (.inr ⟨rfl,h1,h2⟩),fun h=>absurd rfl h,Hl⟩
    | true=>
      by_cases h:sgR (most-least)<0
      ·have h3:=Xa.1 h
       exact ⟨2,0,by rw [UJ];exact Zt0 L rfl rfl (Nat.le_trans Hm (by omega)) (Nat.le_trans Hl (by omega)) h,.inl ⟨rfl,fun t=>I.none rfl rfl (by grind) t⟩,fun _=>rfl,H0⟩
      ·have h3:¬most-least<0:=fun h9=>h (Xa.2 h9)
       obtain ⟨h1,h2⟩:=I.best (fun _=>by grind)
       exact ⟨1,least,Zup L rfl rfl (Nat.le_trans Hm (by omega)) (Nat.le_trans Hl (by omega)) h,.inr (.inr ⟨rfl,h1,h2⟩),fun h=>absurd rfl h,Hl⟩
 ·exact ⟨2,0,by rw [UJ];exact ZtC L,.inl ⟨rfl,hno⟩,fun _=>rfl,H0⟩
theorem Zjd{X:List Rat}{k:Nat}:∀{F:List (Int × Rat)},Srt F→InR k F→evS X F=Yn (fun j=>cof F (j:Int)*X.getD j 0) k
 | [],_,_=>by
   rw [evS,ZS (g:=fun _=>0) (fun i _=>by rw [YO];grind),Wx]
 | t::F,hs,hi=>by
   have ht:=hi t List.mem_cons_self
   have h0:cof F t.1=0:=Vn fun u hu e=>by have:=hs.head u hu;omega
   have ih:=Zjd (X:=X) (k:=k) hs.tail (fun u hu=>hi u (List.mem_cons_of_mem _ hu))
   have hc:∀j:Nat,cof (t::F) (j:Int)*X.getD j 0=cof F (j:Int)*X.getD j 0+(if j=t.1.toNat then t.2*X.getD j 0 else 0):=fun j=>by
    by_cases h:j=t.1.toNat
    ·have e:(j:Int)=t.1:=by omega
     rw [if_pos h,YZ e,e,h0];grind
    ·have e:(j:Int)≠t.1:=by omega
     rw [if_neg h,QS e];grind
   rw [evS,ih,ZS (fun i _=>hc i),Wm,VV (k:=t.1.toNat) (by omega) (fun i _ h=>if_neg h),if_pos rfl]
   grind
theorem ZtN{X:List Rat}{k:Nat}{f:Zf}(hs:Srt f.1)(hi:InR k f.1):Xn X f=f.2+Yn (fun j=>cof f.1 (j:Int)*X.getD j 0) k:=by
 unfold Xn
 rw [Zjd hs hi]
def oF(l:List ZI)(i u:Nat):Rat:=(((l.getD i ⟨[],0⟩).c.getD u 0:Int):Rat)
def AtT(m:Nat)(R:List Zf)(t:Rat):Prop:=∃X:List Rat,X.length=m+1∧X.getD m 0=t∧KQ X R
section
variable {m : Nat} {R : List Zf} {l : List ZI}
theorem Zjk{f:Zf}{c:List Int}{X:List Rat}{t:Rat}(hs:Srt f.1)(hi:InR (m+1) f.1)(hd:Zn5 f (m+1) c)(hX:X.getD m 0=t):∃g:Rat,0<g∧(((c.getD m 0:Int):Rat)*t+((c.getD (m+1) 0:Int):Rat))+Yn (fun j=>((c.getD j 0:Int):Rat)*X.getD j 0) m=g*Xn X f:=by
 obtain ⟨g,hg,hm⟩:=hd.mul
 refine ⟨g,hg,?_⟩
 have e1:∀j,j<m+1→((c.getD j 0:Int):Rat)=g*cof f.1 (j:Int):=fun j hj=>by
  rw [hm j (by omega)]
  unfold cAt
  rw [if_pos hj]
 have e2:((c.getD (m+1) 0:Int):Rat)=g*f.2:=by
  rw [hm (m+1) (Nat.le_refl _)]
  unfold cAt
  rw [if_neg (by omega)]
 have e3:Yn (fun j=>((c.getD j 0:Int):Rat)*X.getD j 0) m=g*Yn (fun j=>cof f.1 (j:Int)*X.getD j 0) m:=by
  rw [←XX]
  exact ZS fun i hi=>by rw [e1 i (by omega)];grind
 rw [ZtN hs hi,e1 m (by omega),e2,e3]
 show _=g*(f.2+(Yn (fun j=>cof f.1 (j:Int)*X.getD j 0) m+cof f.1 (m:Int)*X.getD m 0))
 rw [hX]
 grind
theorem ZcH{g x:Rat}(hg:0<g):0≤g*x↔0≤x:=by
 constructor
 ·intro h
  false_or_by_contra
  have h1:0 < -x:=by grind
  have:=Rat.mul_pos hg h1
  grind
 ·intro h;exact Rat.mul_nonneg (by grind) h
theorem ZkN(h:∀f∈R,Srt f.1∧InR (m+1) f.1)(hl:l.length=R.length)(hd:∀(i:Nat) (f:Zf) (r:ZI),R[i]?=some f→l[i]?=some r→Zn5 f (m+1) r.c)(t:Rat):
  (∃x:Nat→Rat,∀i,i<R.length→0≤(oF l i m*t+oF l i (m+1))+Yn (fun j=>oF l i j*x j) m)↔AtT m R t:=by
 have hr:∀i,i<R.length→∃f r,R[i]?=some f∧l[i]?=some r∧l.getD i ⟨[],0⟩=r:=fun i hi=>⟨R[i],l[i]'(by omega),gEt hi,gEt (by omega),by rw [List.getD_eq_getElem?_getD,gEt (by omega)];rfl⟩
 constructor
 ·rintro ⟨x,hx⟩
  have hml:((List.range m).map x).length=m:=by rw [List.length_map,List.length_range]
  have hlen:((List.range m).map x++[t]).length=m+1:=by rw [List.length_append,hml];rfl
  have hlast:((List.range m).map x++[t]).getD m 0=t:=by
   rw [List.getD_eq_getElem?_getD,List.getElem?_append_right (by omega),hml,Nat.sub_self];rfl
  have hj:∀j,j<m→((List.range m).map x++[t]).getD j 0=x j:=fun j hj=>by
   rw [List.getD_eq_getElem?_getD,List.getElem?_append_left (by omega),List.getElem?_map,List.getElem?_range hj];rfl
  refine ⟨(List.range m).map x++[t],hlen,hlast,fun f hf=>⟨by rw [hlen];exact (h f hf).2,?_⟩⟩
  obtain ⟨i,hi⟩:=List.mem_iff_getElem?.1 hf
  have hil:=(gEi hi).1
  obtain ⟨f',r,a1,a2,a3⟩:=hr i hil
  rw [hi] at a1;cases a1
  obtain ⟨g,hg,e⟩:=Zjk (h f hf).1 (h f hf).2 (hd i f r hi a2) hlast
  have h2:=hx i hil
  unfold oF at h2
  rw [a3,ZS (g:=fun j=>((r.c.getD j 0:Int):Rat)*((List.range m).map x++[t]).getD j 0) (fun j hj'=>by rw [hj j hj']),e] at h2
  exact (ZcH hg).1 h2
 ·rintro ⟨X,hX,ht,hs⟩
  refine ⟨fun j=>X.getD j 0,fun i hi=>?_⟩
  obtain ⟨f,r,a1,a2,a3⟩:=hr i hi
  have hf:=gMe a1
  obtain ⟨g,hg,e⟩:=Zjk (h f hf).1 (h f hf).2 (hd i f r a1 a2) ht
  unfold oF
  rw [a3,e]
  exact (ZcH hg).2 (hs f hf).2
end
def cnB(d:List Bool):Nat→Nat
 | 0=>0
 | n+1=>cnB d n+(if d.getD n false=true then 1 else 0)
theorem ZpP(d:List Bool):∀n,cnB d n≤n
 | 0=>Nat.le_refl _
 | n+1=>by
   have:=ZpP d n
   rw [cnB];split <;>omega
theorem ZjB{d:List Bool}:∀{n},cnB d n=n→∀j,j<n→d.getD j false=true
 | 0,_,j,hj=>absurd hj (by omega)
 | n+1,h,j,hj=>by
   have h1:=ZpP d n
   rw [cnB] at h
   split at h
   ·next h2=>
    by_cases e:j=n
    ·subst e;exact h2
    ·exact ZjB (n:=n) (by omega) j (by omega)
   ·omega
theorem ZhI{d:List Bool}:∀{n},(∀j,j<n→d.getD j false=true)→cnB d n=n
 | 0,_=>rfl
 | n+1,h=>by rw [cnB,ZhI (fun j hj=>h j (by omega)),if_pos (h n (by omega))]
theorem Zrs{d:List Bool}{v j:Nat}(hv:v<d.length):(d.set v true).getD j false=if j=v then true else d.getD j false:=by
 rw [List.getD_eq_getElem?_getD,List.getElem?_set,List.getD_eq_getElem?_getD]
 by_cases h:v=j
 ·subst h;simp [hv]
 ·rw [if_neg h,if_neg (fun h2=>h h2.symm)]
theorem Zkn{d:List Bool}{v:Nat}(hv:v<d.length)(h0:d.getD v false=false):∀n,cnB (d.set v true) n=cnB d n+(if v<n then 1 else 0)
 | 0=>by rw [cnB,cnB,if_neg (by omega)]
 | n+1=>by
   rw [cnB,cnB,Zkn hv h0 n,Zrs hv]
   by_cases h:n=v
   ·subst h
    rw [if_pos rfl,h0];simp
   ·rw [if_neg h]
    by_cases h2:v<n
    ·have h3:v<n+1:=by omega
     simp only [h2,h3,if_true];omega
    ·have h3:¬v<n+1:=by omega
     simp only [h2,h3,if_false];omega
theorem ZgG(m:Nat):∀n,cnB (List.replicate m false) n=0
 | 0=>rfl
 | n+1=>by
   rw [cnB,ZgG m n,List.getD_eq_getElem?_getD,List.getElem?_replicate]
   split <;>rfl
theorem Zqb{l:List Bool}{i:Nat}(h:i<l.length):l[i]?=some (l.getD i false):=by rw [List.getD_eq_getElem?_getD,gEt h];rfl
theorem ZCD{i:Nat}(h:i≤62):IntKind.u64.wrap (1*2 ^ min ((i:Int):Int).toNat IntKind.u64.bits)=((2 ^ i:Nat):Int):=by
 have e:IntKind.u64.bits=64:=rfl
 have h2:(2:Nat) ^ i≤2 ^ 62:=Nat.pow_le_pow_right (by omega) h
 rw [e,Int.toNat_natCast,Nat.min_eq_left (by omega),Int.one_mul,show (2:Int) ^ i=((2 ^ i:Nat):Int) by push_cast;rfl]
 obtain ⟨w,hw⟩:∃w:Nat,(2:Nat) ^ i=w:=⟨_,rfl⟩
 rw [hw] at h2 ⊢
 exact wru (by omega) (by omega)
structure ZiO (m:Nat) (R:List Zf) (i:Nat) (l:List ZI):Prop where
 len:l.length=i
 row:∀(j:Nat) (f:Zf) (r:ZI),R[j]?=some f→l[j]?=some r→Zn5 f (m+1) r.c∧r.from_=((2 ^ j:Nat):Int)
section
variable {n m : Nat} {p : ZO} {R : List Zf}
theorem Zz5(hp:p.Vars=(m:Int))(hm:m≤3)(hR:∀f∈R,f.1.length≤100)(hn:R.length≤62):
  ∃ex t,Zl Tryz.prog (tab (n+4)) 0 115 (Za 29) 8 QZ (YU p R [] 0)=some (ex,t)∧
  ((ex=.exit 0∧∃l,t=Wc p l∧ZiO m R R.length l)∨(ex=.ret∧∃l,t=Jh p l)):=
 Qr (O:=tab (n+4)) (P:= Tryz.prog) (m:=0) (N:=115) (lives:=Za 29) (r:=8) (C:=QZ) (M:=R.length) (enc:=fun i (l:List ZI)=>YU p R l i)
  (fun i l=>ZiO m R i l) (fun ex t=>(ex=.exit 0∧∃l,t=Wc p l∧ZiO m R R.length l)∨(ex=.ret∧∃l,t=Jh p l))
  [] ⟨rfl,fun j f r _ h=>by simp at h⟩ (by omega)
  (fun i l hi I=>by
   have hx:R[i]?=some R[i]:=gEt hi
   obtain ⟨f,hf⟩:∃f,R[i]=f:=⟨_,rfl⟩
   rw [hf] at hx
   have hfl:=hR f (gMe hx)
   obtain ⟨F,q⟩:=f
   obtain ⟨c,ok,K,hK⟩:=Ztl (n:=n+1) (vars:=m+1) (f:=(F,q)) (by omega) (by omega)
   have e1:p.Vars+1=((m+1:Nat):Int):=by rw [hp];push_cast;rfl
   rw [←e1] at K
   have hil:=I.len
   cases ok with
   | false=>exact .inr ⟨.ret,_,by simp,ZnR (by omega) hi hx (by rw [hp];exact ⟨by omega,by omega⟩) K rfl,.inr ⟨rfl,_,rfl⟩⟩
   | true=>
     refine .inl ⟨l++[⟨c,((2 ^ i:Nat):Int)⟩],ZnC (by omega) hi hx (by rw [hp];exact ⟨by omega,by omega⟩) K rfl (ZCD (by omega)) (by omega) ⟨by omega,by omega⟩,by simp [I.len],fun j g r hg hr=>?_⟩
     by_cases hj:j<i
     ·rw [List.getElem?_append_left (by omega)] at hr
      exact I.row j g r hg hr
     ·have hj2:j<(l++[(⟨c,((2 ^ i:Nat):Int)⟩:ZI)]).length:=(gEi hr).1
      simp at hj2
      obtain rfl:j=i:=by omega
      rw [List.getElem?_append_right (by omega),hil,Nat.sub_self] at hr
      rw [hx] at hg
      cases hg;cases hr
      exact ⟨hK rfl,rfl⟩)
  (fun l I=>⟨.exit 0,_,by simp,ZnU (by omega),.inl ⟨rfl,l,rfl,I⟩⟩)
def BestI(d:List Bool)(i:Nat)(b:Int):Prop:=(b=-1∧∀v,v<i→d.getD v false=true)∨∃v:Nat,b=(v:Int)∧v<i∧d.getD v false=false
theorem BestI.out{d:List Bool}{b:Int}(h:BestI d m b)(hc:cnB d m<m):∃v:Nat,b=(v:Int)∧v<m∧d.getD v false=false:=by
 rcases h with ⟨_,h⟩|h
 ·have:=ZhI h;omega
 ·exact h
theorem Zwm{l:List ZI}{d:List Bool}(hp:p.Vars=(m:Int))(hm:m≤3)(hd:d.length=m)(hT:∀r∈l,TrB (m+2) r)(hl:l.length≤100000000):
  ∃b fz,Zl Tryz.prog (tab (n+4)) 0 115 (Za 29) 20 ZW (Yw p l d (-1) 0 0)=some (.exit 4,Va p l d b fz)∧BestI d m b:=by
 obtain ⟨b,L,I⟩:=QV (O:=tab (n+4)) (P:= Tryz.prog) (m:=0) (N:=115) (lives:=Za 29) (r:=20) (C:=ZW) (exN:=.exit 4) (M:=m) (enc:=fun i (b:Int × Nat)=>Yw p l d b.1 i b.2) (out:=fun b=>Va p l d b.1 b.2)
  (fun i b=>BestI d i b.1) (-1,0) (.inl ⟨rfl,fun v hv=>absurd hv (by omega)⟩) (by omega) (by simp)
  (fun i b hi I=>by
   obtain ⟨b,fz⟩:=b
   dsimp only at I
   have hx:=Zqb (l:=d) (i:=i) (by omega)
   have W:InI ((i:Int)+1):=⟨by omega,by omega⟩
   cases hdi:d.getD i false with
   | true=>
     rw [hdi] at hx
     refine ⟨(b,fz),ZlR (by rw [hp];omega) (by omega) hx rfl W,?_⟩
     rcases I with ⟨h1,h2⟩|⟨v,h1,h2,h3⟩
     ·refine .inl ⟨h1,fun v hv=>?_⟩
      by_cases e:v=i
      ·subst e;exact hdi
      ·exact h2 v (by omega)
     ·exact .inr ⟨v,h1,by omega,h3⟩
   | false=>
     rw [hdi] at hx
     have new:BestI d (i+1) (i:Int):=.inr ⟨i,rfl,by omega,hdi⟩
     by_cases hb:b<0
     ·exact ⟨((i:Int),fz),ZmV (by rw [hp];omega) (by omega) hx rfl hb W,new⟩
     ·obtain ⟨v,h1,h2,h3⟩:∃v:Nat,b=(v:Int)∧v<i∧d.getD v false=false:=by
       rcases I with ⟨h1,h2⟩|h
       ·omega
       ·exact h
      subst h1
      obtain ⟨z1,K6⟩:=Jd (n:=n+3) (v:=i) hT (by omega) hl
      obtain ⟨z2,K7⟩:=Jd (n:=n+3) (v:=v) hT (by omega) hl
      by_cases c:(z1:Int)<(z2:Int)
      ·exact ⟨((i:Int),l.length),Zmv (by rw [hp];omega) (by omega) hx rfl hb K6 K7 c W,new⟩
      ·exact ⟨((v:Int),l.length),ZkW (by rw [hp];omega) (by omega) hx rfl hb K6 K7 c W,.inr ⟨v,rfl,by omega,h3⟩⟩)
  (fun b I=>Zlg (by rw [hp];omega))
 exact ⟨b.1,b.2,L,I⟩
theorem Zuf{l:List ZI}{d:List Bool}{k:Nat}(hp:p.Vars=(m:Int))(hm:m≤3)(hd:d.length=m)(hT:∀r∈l,TrB (m+2) r)(hl:l.length≤100000000):
  ∃b,Zl Tryz.prog (tab (n+4)) 0 115 (Za 29) 20 ZW (Z0 p l d k (-1) 0)=some (.exit 4,Qm p l d k b)∧BestI d m b:=by
 exact QV (O:=tab (n+4)) (P:= Tryz.prog) (m:=0) (N:=115) (lives:=Za 29) (r:=20) (C:=ZW) (exN:=.exit 4) (M:=m) (enc:=fun i (b:Int)=>Z0 p l d k b i) (out:=fun b=>Qm p l d k b)
  (fun i b=>BestI d i b) (-1) (.inl ⟨rfl,fun v hv=>absurd hv (by omega)⟩) (by omega) (by simp)
  (fun i b hi I=>by
   have hx:=Zqb (l:=d) (i:=i) (by omega)
   have W:InI ((i:Int)+1):=⟨by omega,by omega⟩
   cases hdi:d.getD i false with
   | true=>
     rw [hdi] at hx
     refine ⟨b,ZiF (by rw [hp];omega) (by omega) hx rfl W,?_⟩
     rcases I with ⟨h1,h2⟩|⟨v,h1,h2,h3⟩
     ·refine .inl ⟨h1,fun v hv=>?_⟩
      by_cases e:v=i
      ·subst e;exact hdi
      ·exact h2 v (by omega)
     ·exact .inr ⟨v,h1,by omega,h3⟩
   | false=>
     rw [hdi] at hx
     have new:BestI d (i+1) (i:Int):=.inr ⟨i,rfl,by omega,hdi⟩
     by_cases hb:b<0
     ·exact ⟨(i:Int),ZhZ (by rw [hp];omega) (by omega) hx rfl hb W,new⟩
     ·obtain ⟨v,h1,h2,h3⟩:∃v:Nat,b=(v:Int)∧v<i∧d.getD v false=false:=by
       rcases I with ⟨h1,h2⟩|h
       ·omega
       ·exact h
      subst h1
      obtain ⟨z1,K6⟩:=Jd (n:=n+3) (v:=i) hT (by omega) hl
      obtain ⟨z2,K7⟩:=Jd (n:=n+3) (v:=v) hT (by omega) hl
      by_cases c:(z1:Int)<(z2:Int)
      ·exact ⟨(i:Int),Zih (by rw [hp];omega) (by omega) hx rfl hb K6 K7 c W,new⟩
      ·exact ⟨(v:Int),Ziy (by rw [hp];omega) (by omega) hx rfl hb K6 K7 c W,.inr ⟨v,rfl,by omega,h3⟩⟩)
  (fun b I=>ZiR (by rw [hp];omega))
def ZbF:Nat→Nat
 | 0=>9
 | 1=>90
 | 2=>8190
 | _=>67084290
structure OutI (m M:Nat) (o:Nat→Nat→Rat) (i:Nat) (l:List ZI) (d:List Bool):Prop where
 dl:d.length=m
 T:∀r∈l,TrB (m+2) r
 len:l.length≤ZbF i
 cn:cnB d m=i
 K:∃E:List Nat,E.length=i∧(∀v,v<m→(d.getD v false=true↔v∈E))∧(∀v∈E,v<m)∧Inv M (m+2) o E (l.map kr)
theorem OutI.next{M:Nat}{o:Nat→Nat→Rat}{i v:Nat}{l l':List ZI}{d:List Bool}(I:OutI m M o i l d)(hM:M≤64)(hi:i<m)(hm:m≤3)(hv:v<m)(h0:d.getD v false=false)(hT:∀r∈l',TrB (m+2) r)(hl:l'.length≤l.length+l.length*l.length)(he:Zpu (m+2) (l.map kr) v (i+1) (l'.map kr)):OutI m M o (i+1) l' (d.set v true):=by
 obtain ⟨E,e1,e2,e3,e4⟩:=I.K
 have hvd:v<d.length:=by rw [I.dl];exact hv
 have hlen:=I.len
 have hsq:l.length*l.length≤ZbF i*ZbF i:=Nat.mul_le_mul hlen hlen
 refine ⟨by rw [List.length_set];exact I.dl,hT,?_,by rw [Zkn hvd h0,I.cn,if_pos hv],v::E,by rw [List.length_cons,e1],fun u hu=>?_,fun u hu=>?_,e4.step hM (by omega) (by rw [e1]) he⟩
 ·match i,hi with
  | 0,_=>simp only [ZbF] at*;omega
  | 1,_=>simp only [ZbF] at*;omega
  | 2,_=>simp only [ZbF] at*;omega
  | i+3,h=>omega
 ·rw [Zrs hvd,List.mem_cons]
  by_cases h:u=v
  ·rw [if_pos h];exact ⟨fun _=>.inl h,fun _=>rfl⟩
  ·rw [if_neg h,e2 u hu];exact ⟨fun h9=>.inr h9,fun h9=>h9.resolve_left h⟩
 ·rcases List.mem_cons.1 hu with h|h
  ·subst h;exact hv
  ·exact e3 u h
def ZqF(p:ZO)(i:Nat)(b:List ZI × List Bool):St:=if i=0 then Yb p b.1 b.2 else Y7 p b.1 b.2 (i+1)
theorem ZvH{i:Nat}(h:i≤2):ZbF i≤9000:=by
 match i,h with
 | 0,_=>simp [ZbF]
 | 1,_=>simp [ZbF]
 | 2,_=>simp [ZbF]
theorem Ztu(i:Nat):ZbF i≤100000000:=by
 unfold ZbF;split <;>omega
theorem Zxw{M:Nat}{o:Nat→Nat→Rat}{l0:List ZI}{d0:List Bool}(hp:p.Vars=(m:Int))(hm:m≤3)(hM:M≤64)(I0:OutI m M o 0 l0 d0):
  ∃ex t,Zl Tryz.prog (tab (n+4)) 0 115 (Za 29) 16 ZM (Yb p l0 d0)=some (ex,t)∧
  ((ex=.exit 2∧∃l d,(t=WT p l∨t=WY p l)∧(m=0→l=l0∧t=WT p l)∧(m≠0→t=WY p l)∧OutI m M o m l d)∨(ex=.ret∧∃l,t=Uz p l∨t=UD p l∨t=Ul p l∨t=Uf p l)):=
 Qr (O:=tab (n+4)) (P:= Tryz.prog) (m:=0) (N:=115) (lives:=Za 29) (r:=16) (C:=ZM) (M:=m) (enc:=fun i b=>ZqF p i b)
  (fun i b=>OutI m M o i b.1 b.2∧(i=0→b.1=l0)) (fun ex t=>(ex=.exit 2∧∃l d,(t=WT p l∨t=WY p l)∧(m=0→l=l0∧t=WT p l)∧(m≠0→t=WY p l)∧OutI m M o m l d)∨(ex=.ret∧∃l,t=Uz p l∨t=UD p l∨t=Ul p l∨t=Uf p l))
  (l0,d0) ⟨I0,fun _=>rfl⟩ (by omega)
  (fun i b hi hI=>by
   obtain ⟨l,d⟩:=b
   obtain ⟨I,_⟩:=hI
   dsimp only at I
   have hll:=I.len
   have h9000:=ZvH (i:=i) (by omega)
   by_cases h0:i=0
   ·subst h0
    obtain ⟨b,fz,L2,B⟩:=Zwm (n:=n) hp hm I.dl I.T (by omega)
    obtain ⟨v,rfl,hv,hdv⟩:=B.out (by rw [I.cn];exact hi)
    obtain ⟨z,K3⟩:=Jd (n:=n+3) (v:=v) I.T (by omega) (by omega)
    by_cases c4:(20000:Int)<(z:Int)
    ·exact .inr ⟨.ret,_,by simp,ZkM (by rw [hp];omega) L2 K3 c4,.inr ⟨rfl,_,.inl rfl⟩⟩
    ·obtain ⟨l',ok,K5,h5⟩:=ZhN (n:=n+1) (v:=v) (k:=1) I.T (by omega) (by omega) (by omega) (by omega)
     cases ok with
     | false=>exact .inr ⟨.ret,_,by simp,Zl4 (by rw [hp];omega) L2 K3 c4 K5 rfl,.inr ⟨rfl,_,.inr (.inl rfl)⟩⟩
     | true=>
       obtain ⟨a1,a2,a3⟩:=h5 rfl
       have R:=ZmP (n:=n) (out_16:=d) (by rw [hp];omega) L2 K3 c4 K5 rfl (by rw [Int.toNat_natCast,I.dl];exact hv) (by omega)
       rw [Int.toNat_natCast] at R
       exact .inl ⟨(l',d.set v true),R,I.next hM hi hm hv hdv a1 a2 a3,fun h=>by omega⟩
   ·obtain ⟨b,L2,B⟩:=Zuf (n:=n) (k:=i+1) hp hm I.dl I.T (by omega)
    obtain ⟨v,rfl,hv,hdv⟩:=B.out (by rw [I.cn];exact hi)
    obtain ⟨z,K3⟩:=Jd (n:=n+3) (v:=v) I.T (by omega) (by omega)
    have e1:ZqF p i (l,d)=Y7 p l d (i+1):=if_neg h0
    have e2:∀b,ZqF p (i+1) b=Y7 p b.1 b.2 (i+1+1):=fun b=>if_neg (by omega)
    by_cases c4:(20000:Int)<(z:Int)
    ·exact .inr ⟨.ret,_,by simp,by rw [e1];exact ZiC (by rw [hp];omega) L2 K3 c4,.inr ⟨rfl,_,.inr (.inr (.inl rfl))⟩⟩
    ·obtain ⟨l',ok,K5,h5⟩:=ZhN (n:=n+1) (v:=v) (k:=i+1) I.T (by omega) (by omega) (by omega) (by omega)
     cases ok with
     | false=>exact .inr ⟨.ret,_,by simp,by rw [e1];exact Zh9 (by rw [hp];omega) L2 K3 c4 K5 rfl,.inr ⟨rfl,_,.inr (.inr (.inr rfl))⟩⟩
     | true=>
       obtain ⟨a1,a2,a3⟩:=h5 rfl
       have R:=Zid (n:=n) (i_16b:=i+1) (out_16b:=d) (by rw [hp];omega) L2 K3 c4 K5 rfl (by rw [Int.toNat_natCast,I.dl];exact hv) (by omega) ⟨by omega,by omega⟩
       rw [Int.toNat_natCast] at R
       exact .inl ⟨(l',d.set v true),by rw [e1,e2];exact R,I.next hM hi hm hv hdv a1 a2 a3,fun h=>by omega⟩)
  (fun b hI=>by
   obtain ⟨l,d⟩:=b
   obtain ⟨I,h0⟩:=hI
   dsimp only at I h0
   by_cases hm0:m=0
   ·have e1:ZqF p m (l,d)=Yb p l d:=if_pos hm0
    exact ⟨.exit 2,_,by simp,by rw [e1];exact ZmE (by rw [hp];omega),.inl ⟨rfl,l,d,.inl rfl,fun _=>⟨h0 hm0,rfl⟩,fun h=>absurd hm0 h,I⟩⟩
   ·have e1:ZqF p m (l,d)=Y7 p l d (m+1):=if_neg hm0
    exact ⟨.exit 2,_,by simp,by rw [e1];exact Ziz (by rw [hp];omega),.inl ⟨rfl,l,d,.inr rfl,fun h=>absurd h hm0,fun _=>rfl,I⟩⟩)
theorem Zsk{f:Zf}{Q:List Zf}(hm:m≤3)(hQ:∀g∈Q,FB 2 g∧InR m g.1)(hn:Q.length≤7)(hf:FB 2 f)(hi:InR m f.1):
  ∃(s:Int) (z:Rat),run (n+4) 29 [WR ⟨(m:Int),Q,f⟩]=some (.tup [.lit (.int .i64 s),Zk z])∧(s=0∨MinG (AtT m (Xl m f Q)) s z)∧(s≠1→z=0)∧H z≤2:=by
 obtain ⟨p,hpe⟩:∃p:ZO,p=⟨(m:Int),Q,f⟩:=⟨_,rfl⟩
 have hp:p.Vars=(m:Int):=by rw [hpe]
 have hpR:p.Rows=Q:=by rw [hpe]
 have hpO:p.Objective=f:=by rw [hpe]
 rw [←hpe]
 have H0:H 0≤2:=by decide+kernel
 have K1:run (n+3) 62 [.lit (.int .i64 p.Vars)]=some (Zc (JS (m:Int))):=by rw [hp];exact Zzm _
 obtain ⟨K20,K4⟩:=Zu6 (n:=n) hf hi (by omega)
 have K2:run (n+3) 61 [Zc (JS (m:Int)),Zc p.Objective]=some (Zc (VP m f)):=by rw [hpO];exact K20
 have hT:=ZpF hf hi (by omega) hQ
 have e7:[VP m f,ZdY m f]++p.Rows=Xl m f Q:=by rw [hpR];rfl
 have M5:p.Rows.length+2≤100000000:=by rw [hpR];omega
 have C6:¬(62:Int)<((p.Rows.length:Int)+2):=by rw [hpR];omega
 have hlen:(Xl m f Q).length=Q.length+2:=by unfold Xl;simp
 obtain ⟨ex,t,L8,h8⟩:=Zz5 (n:=n) (m:=m) (p:=p) (R:=Xl m f Q) hp hm (fun g hg=>(hT g hg).1.l) (by omega)
 rcases h8 with ⟨rfl,l0,rfl,S⟩|⟨rfl,l0,rfl⟩
 ·have hrow:∀r∈l0,∃j g,(Xl m f Q)[j]?=some g∧l0[j]?=some r∧Zn5 g (m+1) r.c∧r.from_=((2 ^ j:Nat):Int)∧j<(Xl m f Q).length:=fun r hr=>by
   obtain ⟨j,hj⟩:=List.mem_iff_getElem?.1 hr
   have hjl:=(gEi hj).1
   rw [S.len] at hjl
   have hg:(Xl m f Q)[j]?=some (Xl m f Q)[j]:=gEt hjl
   obtain ⟨a,b⟩:=S.row j _ r hg hj
   exact ⟨j,_,hg,hj,a,b,hjl⟩
  have hT0:∀r∈l0,TrB (m+2) r:=fun r hr=>by
   obtain ⟨j,g,a1,a2,a3,a4,a5⟩:=hrow r hr
   have h2:(2:Nat) ^ j≤2 ^ 9:=Nat.pow_le_pow_right (by omega) (by omega)
   obtain ⟨w,hw⟩:∃w:Nat,(2:Nat) ^ j=w:=⟨_,rfl⟩
   rw [hw] at h2 a4
   exact ⟨by rw [a3.len],a3.bd,by rw [a4];omega,by rw [a4];omega⟩
  have hl0:l0.length=(Xl m f Q).length:=S.len
  have hInv:Inv (Xl m f Q).length (m+2) (oF l0) [] (l0.map kr):=Inv.start
   (fun r hr=>by
    obtain ⟨s,hs,rfl⟩:=List.mem_map.1 hr
    obtain ⟨j,g,a1,a2,a3,a4,a5⟩:=hrow s hs
    refine ⟨j,a5,by show s.from_.toNat=_;rw [a4];exact Int.toNat_natCast _,fun u hu=>?_⟩
    have e:l0.getD j ⟨[],0⟩=s:=by rw [List.getD_eq_getElem?_getD,a2];rfl
    show ((s.c.getD u 0:Int):Rat)=oF l0 j u
    unfold oF
    rw [e])
   (fun i hi=>by
    have hx:l0[i]?=some (l0[i]'(by omega)):=gEt (by omega)
    obtain ⟨_,b⟩:=S.row i _ _ (gEt hi) hx
    exact ⟨kr _,List.mem_map_of_mem (gMe hx),by show (l0[i]'(by omega)).from_.toNat=_;rw [b];exact Int.toNat_natCast _⟩)
  have I0:OutI m (Xl m f Q).length (oF l0) 0 l0 (List.replicate p.Vars.toNat false):=by
   rw [hp,Int.toNat_natCast]
   exact ⟨List.length_replicate,hT0,by rw [hl0,hlen];simp only [ZbF];omega,ZgG m m,[],rfl,fun v hv=>by rw [List.getD_eq_getElem?_getD,List.getElem?_replicate,if_pos hv];simp,(fun v hv=>by cases hv),hInv⟩
  have M8:p.Vars.toNat≤100000000:=by rw [hp];omega
  have C9:0≤p.Vars:=by rw [hp];omega
  obtain ⟨ex,t,L16,h16⟩:=Zxw (n:=n) hp hm (by omega) I0
  rw [←e7] at L8
  have fin:∀(l:List ZI) (d:List Bool),OutI m (Xl m f Q).length (oF l0) m l d→∃(s:Int) (z:Rat),run (n+3) 66 [.sl 2 (l.map Yi),.lit (.int .i64 p.Vars)]=some (.tup [.lit (.int .i64 s),Zk z])∧MinG (AtT m (Xl m f Q)) s z∧(s≠1→z=0)∧H z≤2:=fun l d I=>by
   obtain ⟨s,z,K,G,h1,h2⟩:=ZxS (n:=n+3) (m:=m) I.T (by have:=I.len;have:=Ztu m;omega) (by omega)
   rw [←hp] at K
   refine ⟨s,z,K,G.congr fun t=>?_,h1,h2⟩
   obtain ⟨E,e1,e2,e3,e4⟩:=I.K
   rw [←ZkN (fun g hg=>⟨(hT g hg).1.s,(hT g hg).2⟩) hl0 (fun i g r a b=>(S.row i g r a b).1) t,←e4.project (fun j hj=>(e2 j hj).1 (ZjB I.cn j hj)) e3 t]
   constructor
   ·intro h r hr
    obtain ⟨s,hs,rfl⟩:=List.mem_map.1 hr
    exact h _ (List.mem_map_of_mem hs)
   ·intro h r hr
    obtain ⟨s,hs,rfl⟩:=List.mem_map.1 hr
    exact h _ (List.mem_map_of_mem hs)
  have K4':=K4
  rcases h16 with ⟨rfl,l,d,_,hc1,hc2,I⟩|⟨rfl,l,hc⟩
  ·obtain ⟨s,z,K,G,h1,h2⟩:=fin l d I
   by_cases hm0:m=0
   ·obtain ⟨rfl,rfl⟩:=hc1 hm0
    exact ⟨s,z,Zxm K1 K2 K4 M5 C6 L8 M8 C9 L16 K,.inr G,h1,h2⟩
   ·obtain rfl:=hc2 hm0
    exact ⟨s,z,Zx1 K1 K2 K4 M5 C6 L8 M8 C9 L16 K,.inr G,h1,h2⟩
  ·refine ⟨0,0,?_,.inl rfl,fun _=>rfl,H0⟩
   rw [UJ]
   rcases hc with rfl|rfl|rfl|rfl
   ·exact Zxx K1 K2 K4 M5 C6 L8 M8 C9 L16
   ·exact Zwf K1 K2 K4 M5 C6 L8 M8 C9 L16
   ·exact ZvQ K1 K2 K4 M5 C6 L8 M8 C9 L16
   ·exact ZwH K1 K2 K4 M5 C6 L8 M8 C9 L16
 ·rw [←e7] at L8
  exact ⟨0,0,by rw [UJ];exact ZvT K1 K2 K4 M5 C6 L8,.inl rfl,fun _=>rfl,H0⟩
end
def ZCy(m:Nat)(L:List Zf)(i:Nat):Option Rat × Option Rat→St
 | (none,none)=>Yc (m:Int) L
 | (some s,none)=>QF (m:Int) L i s
 | (none,some s)=>QG (m:Int) L i s
 | (some s,some t)=>YK (m:Int) L i s t
def Zwl:Option Rat × Option Rat→St
 | (none,none)=>Zag
 | (some s,none)=>J7 s
 | (none,some s)=>Zaj s
 | (some s,some t)=>Jf s t
def Zv6:Option Rat × Option Rat→St
 | (none,none)=>ZaW
 | (some s,none)=>Za3 s
 | (none,some s)=>Zav s
 | (some s,some t)=>J6 s t
def HO(o:Option Rat):Prop:=∀s,o=some s→H s≤2340
structure Zks (m:Nat) (L:List Zf):Prop where
 left:∀f∈L,(f.1=[]∧f.2=-1)∨isP m f∨isM m f
 fb:∀f∈L,FB 2340 f
 len:L.length≤100000
theorem Zcl:sgR 1=1:=by decide+kernel
theorem Zqw:sgR (-1)=-1:=by decide+kernel
theorem Znn:sgR 0=0:=by decide+kernel
section
variable {n m : Nat} {L : List Zf}
theorem Zwb{f:Zf}(h:isP m f):cof f.1 (m:Int)=1:=by rw [show f.1=[((m:Int),1)] from h];exact Zji m
theorem Zvo{f:Zf}(h:isM m f):cof f.1 (m:Int)=-1:=by rw [show f.1=[((m:Int),-1)] from h];exact Zjx m
structure ZvC (m:Nat) (L:List Zf) (i:Nat) (b:Option Rat × Option Rat):Prop where
 lo:LoI m (L.take i) b.1
 hi:HiI m (L.take i) b.2
 pm:∀e∈L.take i,isP m e∨isM m e
 z:b=(none,none)→i=0
 h1:HO b.1
 h2:HO b.2
theorem HO.some{s:Rat}(h:H s≤2340):HO (some s):=fun t ht=>by cases ht;exact h
theorem HO.none:HO none:=fun t ht=>by cases ht
theorem ZcA{P:List Zf}{f:Zf}(h:∀e∈P,isP m e∨isM m e)(hf:isP m f∨isM m f):∀e∈P++[f],isP m e∨isM m e:=fun e he=>by
 rcases List.mem_append.1 he with h1|h1
 ·exact h e h1
 ·rw [List.mem_singleton] at h1;subst h1;exact hf
theorem Zz1(hL:Zks m L):∃ex t,Zl Tryz.prog (tab (n+11)) 0 118 (Za 30) 9 Zz (Yc (m:Int) L)=some (ex,t)∧
  ((ex=.exit 0∧∃b,t=Zwl b∧ZvC m L L.length b)∨(ex=.ret∧(∃b,t=Zv6 b)∧∃f∈L,f.1=[]∧f.2=-1)):=by
 have hlen:=hL.len
 exact Qr (O:=tab (n+11)) (P:= Tryz.prog) (m:=0) (N:=118) (lives:=Za 30) (r:=9) (C:=Zz) (M:=L.length) (enc:=fun i b=>ZCy m L i b)
  (fun i b=>ZvC m L i b) (fun ex t=>(ex=.exit 0∧∃b,t=Zwl b∧ZvC m L L.length b)∨(ex=.ret∧(∃b,t=Zv6 b)∧∃f∈L,f.1=[]∧f.2=-1))
  (none,none) ⟨LoI.nil m,HiI.nil m,fun e he=>(by cases he),fun _=>rfl,HO.none,HO.none⟩ (by omega)
  (fun i b hi I=>by
   have hx:L[i]?=some L[i]:=gEt hi
   obtain ⟨f,hf⟩:∃f,L[i]=f:=⟨_,rfl⟩
   rw [hf] at hx
   have hm:=gMe hx
   have fb:=hL.fb f hm
   have lf:=hL.left f hm
   have htk:L.take (i+1)=L.take i++[f]:=by rw [List.take_add_one,hx];rfl
   have K:=Zj3 (n:=n+7) (f:=f) (v:=(m:Int)) (fb.bd (by omega))
   have W:InI ((i:Int)+1):=⟨by omega,by omega⟩
   have hq:=fb.h.2
   have hnq:H (-f.2)≤2340:=by rw [Zbb];exact hq
   obtain ⟨Il,Ih,Ip,Iz,I1,I2⟩:=I
   obtain ⟨lo,hi2⟩:=b
   dsimp only at Il Ih I1 I2
   rcases lf with ⟨f1,f2⟩|hp|hmm
   ·have c0:cof f.1 (m:Int)=0:=by rw [f1,YO]
    rw [c0] at K
    have B:H 0≤17179869184:=by decide
    refine .inr ⟨.ret,Zv6 (lo,hi2),by simp,?_,.inr ⟨rfl,⟨_,rfl⟩,f,hm,f1,f2⟩⟩
    obtain ⟨F,q⟩:=f
    match lo,hi2,Iz with
    | none,none,Iz=>
      obtain rfl:=Iz rfl
      exact Zo2 (by omega) hx K B Znn
    | some s,none,_=>exact ZmT (by omega) hx K B Znn
    | none,some s,_=>exact ZmI (by omega) hx K B Znn
    | some s,some t,_=>exact Zll (by omega) hx K B Znn
   ·rw [Zwb hp] at K
    have B:H 1≤17179869184:=by decide+kernel
    have n0:¬sgR 1=0:=by rw [Zcl];omega
    have nm:¬isM m f:=fun h=>ZjJ hp h
    have pm':∀e∈L.take (i+1),isP m e∨isM m e:=by rw [htk];exact ZcA Ip (.inl hp)
    have hi':HiI m (L.take (i+1)) hi2:=by rw [htk];exact Ih.skip nm
    have new:(∀l,lo=some l→l < -f.2)→LoI m (L.take (i+1)) (some (-f.2)):=fun h=>by rw [htk];exact Il.put hp h
    have old:∀l,lo=some l→-f.2≤l→LoI m (L.take (i+1)) (some l):=fun l h h2=>by subst h;rw [htk];exact Il.stay h2
    obtain ⟨F,q⟩:=f
    match lo,hi2,Iz,I1,I2,hi',new,old with
    | none,none,Iz,I1,I2,hi',new,old=>
      obtain rfl:=Iz rfl
      exact .inl ⟨(some (-q),none),ZnE (by omega) hx K B n0 Zcl (Nat.le_trans hq (by omega)),new (fun l h=>by cases h),hi',pm',(fun h=>by cases h),HO.some hnq,I2⟩
    | some s,none,_,I1,I2,hi',new,old=>
      have hs:=I1 s rfl
      by_cases c:0<sgR (-q-s)
      ·exact .inl ⟨(some (-q),none),ZmH (by omega) hx K B n0 Zcl (Nat.le_trans hq (by omega)) (Nat.le_trans hnq (by omega)) (Nat.le_trans hs (by omega)) c W,new (fun l h=>by
        cases h
        rcases YH (-q-s) with ⟨d1,d2⟩|⟨d1,d2⟩|⟨d1,d2⟩
        ·show s < -q;grind
        ·omega
        ·omega),hi',pm',(fun h=>by cases h),HO.some hnq,I2⟩
      ·exact .inl ⟨(some s,none),ZkZ (by omega) hx K B n0 Zcl (Nat.le_trans hq (by omega)) (Nat.le_trans hnq (by omega)) (Nat.le_trans hs (by omega)) c W,old s rfl (by
        rcases YH (-q-s) with ⟨d1,d2⟩|⟨d1,d2⟩|⟨d1,d2⟩
        ·omega
        ·show -q≤s;grind
        ·show -q≤s;grind),hi',pm',(fun h=>by cases h),I1,I2⟩
    | none,some s,_,I1,I2,hi',new,old=>
      exact .inl ⟨(some (-q),some s),ZmS (by omega) hx K B n0 Zcl (Nat.le_trans hq (by omega)) W,new (fun l h=>by cases h),hi',pm',(fun h=>by cases h),HO.some hnq,I2⟩
    | some s,some t,_,I1,I2,hi',new,old=>
      have hs:=I1 s rfl
      by_cases c:0<sgR (-q-s)
      ·exact .inl ⟨(some (-q),some t),Zlk (by omega) hx K B n0 Zcl (Nat.le_trans hq (by omega)) (Nat.le_trans hnq (by omega)) (Nat.le_trans hs (by omega)) c W,new (fun l h=>by
        cases h
        rcases YH (-q-s) with ⟨d1,d2⟩|⟨d1,d2⟩|⟨d1,d2⟩
        ·show s < -q;grind
        ·omega
        ·omega),hi',pm',(fun h=>by cases h),HO.some hnq,I2⟩
      ·exact .inl ⟨(some s,some t),ZmN (by omega) hx K B n0 Zcl (Nat.le_trans hq (by omega)) (Nat.le_trans hnq (by omega)) (Nat.le_trans hs (by omega)) c W,old s rfl (by
        rcases YH (-q-s) with ⟨d1,d2⟩|⟨d1,d2⟩|⟨d1,d2⟩
        ·omega
        ·show -q≤s;grind
        ·show -q≤s;grind),hi',pm',(fun h=>by cases h),I1,I2⟩
   ·rw [Zvo hmm] at K
    have B:H (-1)≤17179869184:=by decide+kernel
    have n0:¬sgR (-1)=0:=by rw [Zqw];omega
    have n1:¬sgR (-1)=1:=by rw [Zqw];omega
    have np:¬isP m f:=fun h=>ZjJ h hmm
    have pm':∀e∈L.take (i+1),isP m e∨isM m e:=by rw [htk];exact ZcA Ip (.inr hmm)
    have lo':LoI m (L.take (i+1)) lo:=by rw [htk];exact Il.skip np
    have new:(∀l,hi2=some l→f.2<l)→HiI m (L.take (i+1)) (some f.2):=fun h=>by rw [htk];exact Ih.put hmm h
    have old:∀l,hi2=some l→l≤f.2→HiI m (L.take (i+1)) (some l):=fun l h h2=>by subst h;rw [htk];exact Ih.stay h2
    obtain ⟨F,q⟩:=f
    match lo,hi2,Iz,I1,I2,lo',new,old with
    | none,none,Iz,I1,I2,lo',new,old=>
      obtain rfl:=Iz rfl
      exact .inl ⟨(none,some q),Zm9 (by omega) hx K B n0 n1,lo',new (fun l h=>by cases h),pm',(fun h=>by cases h),I1,HO.some hq⟩
    | some s,none,_,I1,I2,lo',new,old=>
      exact .inl ⟨(some s,some q),ZlL (by omega) hx K B n0 n1 W,lo',new (fun l h=>by cases h),pm',(fun h=>by cases h),I1,HO.some hq⟩
    | none,some s,_,I1,I2,lo',new,old=>
      have hs:=I2 s rfl
      by_cases c:sgR (q-s)<0
      ·exact .inl ⟨(none,some q),Zk9 (by omega) hx K B n0 n1 (Nat.le_trans hq (by omega)) (Nat.le_trans hs (by omega)) c W,lo',new (fun l h=>by
        cases h
        have:=Xa.1 c
        show q<s;grind),pm',(fun h=>by cases h),I1,HO.some hq⟩
      ·exact .inl ⟨(none,some s),Zk2 (by omega) hx K B n0 n1 (Nat.le_trans hq (by omega)) (Nat.le_trans hs (by omega)) c W,lo',old s rfl (by
        have:¬q-s<0:=fun h=>c (Xa.2 h)
        show s≤q;grind),pm',(fun h=>by cases h),I1,I2⟩
    | some s,some t,_,I1,I2,lo',new,old=>
      have hs:=I2 t rfl
      by_cases c:sgR (q-t)<0
      ·exact .inl ⟨(some s,some q),Zlv (by omega) hx K B n0 n1 (Nat.le_trans hq (by omega)) (Nat.le_trans hs (by omega)) c W,lo',new (fun l h=>by
        cases h
        have:=Xa.1 c
        show q<t;grind),pm',(fun h=>by cases h),I1,HO.some hq⟩
      ·exact .inl ⟨(some s,some t),ZmM (by omega) hx K B n0 n1 (Nat.le_trans hq (by omega)) (Nat.le_trans hs (by omega)) c W,lo',old t rfl (by
        have:¬q-t<0:=fun h=>c (Xa.2 h)
        show t≤q;grind),pm',(fun h=>by cases h),I1,I2⟩)
  (fun b I=>by
   refine ⟨.exit 0,Zwl b,by simp,?_,.inl ⟨rfl,b,rfl,I⟩⟩
   obtain ⟨lo,hi2⟩:=b
   match lo,hi2,I with
   | none,none,I=>
     have:=I.z rfl
     exact ZoB (by omega)
   | some s,none,_=>exact Zk3 (by omega)
   | none,some s,_=>exact ZkS (by omega)
   | some s,some t,_=>exact ZlW (by omega))
end
def Zuy(m:Nat)(f:Zf)(Q:List Zf)(s:Int)(v:Rat):Prop:=MinG (AtT m (Xl m f Q)) s v∧(s≠1→v=0)∧H v≤2340
section
variable {n m : Nat} {f : Zf} {Q : List Zf}
theorem ZnW(hm:m≤3)(hQ:∀g∈Q,FB 2 g∧InR m g.1)(hn:Q.length≤7)(hf:FB 2 f)(hi:InR m f.1):Zks m (Zb0 m (Xl m f Q))∧RowV (m+1) 2 (Xl m f Q)∧(Xl m f Q).length≤9∧Zb0 m (Xl m f Q)=Zb2 m (Xl m f Q)∧∀t,Zb4 m (Zb0 m (Xl m f Q)) t↔AtT m (Xl m f Q) t:=by
 have hT:=ZpF hf hi (by omega) hQ
 have hV:RowV (m+1) 2 (Xl m f Q):=⟨hT⟩
 have hl:(Xl m f Q).length≤9:=by unfold Xl;simp;omega
 have e:=ZsB (n:=m) (R:=Xl m f Q) fun g hg=>(hT g hg).1.s
 have hb:=Zcz hV (by omega) hl (by omega) m hm
 obtain ⟨c1,c2⟩:=hb.1.col (Zdz (by omega) m)
 have hh3:hh 2 m+hh 2 m≤2340:=by
  match m,hm with
  | 0,_=>simp only [hh];omega
  | 1,_=>simp only [hh];omega
  | 2,_=>simp only [hh];omega
  | 3,_=>simp only [hh];omega
 have hcc:cc m≤2500:=by unfold cc;split <;>omega
 have hT':∀g∈Xl m f Q,Srt g.1∧InR (m+1) g.1:=fun g hg=>⟨(hT g hg).1.s,(hT g hg).2⟩
 refine ⟨⟨?_,fun g hg=>((c1.r g hg).1).mono hh3,?_⟩,hV,hl,e,fun t=>?_⟩
 ·rw [e];exact Zk1 hT'
 ·have:=hb.2
  show ((Qp m (Xl m f Q)).foldl ZU []).length≤_
  omega
 ·rw [e];exact (ZtV hT').symm
theorem ZwY(hm:m≤3)(hQ:∀g∈Q,FB 2 g∧OkFm g (m:Int))(hn:Q.length≤7)(hf:FB 2 f)(hok:OkFm f (m:Int)):
  ∃s v,run (n+11) 30 [Zc f,.sl 4 (Q.map Zh),.lit (.int .i64 (m:Int))]=some (.tup [.lit (.int .i64 s),Zk v,.lit (.int .i64 0)])∧Zuy m f Q s v:=by
 have hi:InR m f.1:=fun t ht=>hok.srt.2 t ht
 have hQ':∀g∈Q,FB 2 g∧InR m g.1:=fun g hg=>⟨(hQ g hg).1,fun t ht=>(hQ g hg).2.srt.2 t ht⟩
 obtain ⟨hL,hV,hl9,e,hA⟩:=ZnW hm hQ' hn hf hi
 have K2:=ZiS (n:=n+9) (vars:=(m:Int)) (R:=Q) (fun g hg=>(hQ g hg).1.bd (by omega)) (by omega)
 rw [Xk (fun g hg=>(hQ g hg).2)] at K2
 have K4:=ZdT (n:=n+10) (f:=f) (vars:=(m:Int)) (hf.bd (by omega))
 rw [Xk hok] at K4
 obtain ⟨K7,K9⟩:=Zze (n:=n+7) hf hi (by omega)
 rw [Zu9] at K7
 have K11:=Zmi (n:=n) (vars:=m) hV (by omega) hl9 (by omega) (by omega) hm
 have M10:Q.length+2≤100000000:=by omega
 have c1:¬(m:Int)<0:=by omega
 have H0:H 0≤2340:=by decide+kernel
 obtain ⟨ex,t,L9,h9⟩:=Zz1 (n:=n) hL
 have fin:∀{s:Int} {v:Rat},MinG (Zb4 m (Zb0 m (Xl m f Q))) s v→(s≠1→v=0)→H v≤2340→Zuy m f Q s v:=fun h1 h2 h3=>⟨h1.congr hA,h2,h3⟩
 rcases h9 with ⟨rfl,⟨lo,hi2⟩,rfl,I⟩|⟨rfl,⟨⟨lo,hi2⟩,rfl⟩,g,hg,g1,g2⟩
 ·obtain ⟨Il,Ih,Ip,Iz,I1,I2⟩:=I
  rw [List.take_length] at Il Ih Ip
  have R:=Zxo Ip Il Ih
  dsimp only at R I1 I2
  match lo,hi2,R,L9,I1,I2 with
  | none,none,R,L9,_,_=>exact ⟨3,0,by rw [UJ];exact ZwE c1 K2 rfl K4 rfl K7 K9 M10 K11 rfl L9,fin R (fun _=>rfl) H0⟩
  | some s,none,R,L9,I1,_=>exact ⟨1,s,Zvt c1 K2 rfl K4 rfl K7 K9 M10 K11 rfl L9,fin R (fun h=>absurd rfl h) (I1 s rfl)⟩
  | none,some s,R,L9,_,_=>exact ⟨3,0,by rw [UJ];exact ZsQ c1 K2 rfl K4 rfl K7 K9 M10 K11 rfl L9,fin R (fun _=>rfl) H0⟩
  | some s,some t,R,L9,I1,I2=>
    have hs:=I1 s rfl
    have ht:=I2 t rfl
    have eR:Zoi (some s) (some t)=if t<s then (2,0) else (1,s):=rfl
    rw [eR] at R
    by_cases c:0<sgR (s-t)
    ·have:t<s:=by
      rcases YH (s-t) with ⟨d1,d2⟩|⟨d1,d2⟩|⟨d1,d2⟩
      ·grind
      ·omega
      ·omega
     rw [if_pos this] at R
     exact ⟨2,0,by rw [UJ];exact Ztm c1 K2 rfl K4 rfl K7 K9 M10 K11 rfl L9 (Nat.le_trans hs (by omega)) (Nat.le_trans ht (by omega)) c,fin R (fun _=>rfl) H0⟩
    ·have:¬t<s:=fun h=>by
      rcases YH (s-t) with ⟨d1,d2⟩|⟨d1,d2⟩|⟨d1,d2⟩
      ·omega
      ·grind
      ·grind
     rw [if_neg this] at R
     exact ⟨1,s,ZtO c1 K2 rfl K4 rfl K7 K9 M10 K11 rfl L9 (Nat.le_trans hs (by omega)) (Nat.le_trans ht (by omega)) c,fin R (fun h=>absurd rfl h) hs⟩
 ·have R:=fin (ZgN hg g1 g2 0) (fun _=>rfl) H0
  refine ⟨2,0,?_,R⟩
  rw [UJ]
  match lo,hi2,L9 with
  | none,none,L9=>exact Zxp c1 K2 rfl K4 rfl K7 K9 M10 K11 rfl L9
  | some s,none,L9=>exact Zv8 c1 K2 rfl K4 rfl K7 K9 M10 K11 rfl L9
  | none,some s,L9=>exact Zwv c1 K2 rfl K4 rfl K7 K9 M10 K11 rfl L9
  | some s,some t,L9=>exact Ztn c1 K2 rfl K4 rfl K7 K9 M10 K11 rfl L9
def loB(b:Bool × Rat):Option Rat:=if b.1=true then some b.2 else none
structure ZxY (m:Nat) (L:List Zf) (i:Nat) (b:Bool × Rat):Prop where
 lo:LoI m (L.take i) (loB b)
 pm:∀e∈L.take i,isP m e∨isM m e
 h:H b.2≤2340
theorem Zxa{L:List Zf}(hL:Zks m L):∃ex t,Zl Tryz.prog (tab (n+11)) 0 110 (Za 31) 10 YQ (Yd (m:Int) L false 0 0)=some (ex,t)∧
  ((ex=.exit 0∧∃b:Bool × Rat,t=W0 (m:Int) L b.1 b.2∧ZxY m L L.length b)∨(ex=.ret∧(∃b:Bool × Rat,t=Un (m:Int) L b.1 b.2)∧∃f∈L,f.1=[]∧f.2=-1)):=by
 have hlen:=hL.len
 exact Qr (O:=tab (n+11)) (P:= Tryz.prog) (m:=0) (N:=110) (lives:=Za 31) (r:=10) (C:=YQ) (M:=L.length) (enc:=fun i (b:Bool × Rat)=>Yd (m:Int) L b.1 i b.2)
  (fun i b=>ZxY m L i b) (fun ex t=>(ex=.exit 0∧∃b:Bool × Rat,t=W0 (m:Int) L b.1 b.2∧ZxY m L L.length b)∨(ex=.ret∧(∃b:Bool × Rat,t=Un (m:Int) L b.1 b.2)∧∃f∈L,f.1=[]∧f.2=-1))
  (false,0) ⟨LoI.nil m,fun e he=>(by cases he),by decide+kernel⟩ (by omega)
  (fun i b hi I=>by
   have hx:L[i]?=some L[i]:=gEt hi
   obtain ⟨f,hf⟩:∃f,L[i]=f:=⟨_,rfl⟩
   rw [hf] at hx
   have hm:=gMe hx
   have fb:=hL.fb f hm
   have lf:=hL.left f hm
   have htk:L.take (i+1)=L.take i++[f]:=by rw [List.take_add_one,hx];rfl
   have K:=ZeM (n:=n+10) (f:=f) (v:=(m:Int)) (by have:=fb.l;omega)
   have W:InI ((i:Int)+1):=⟨by omega,by omega⟩
   have hq:=fb.h.2
   have hnq:H (-f.2)≤2340:=by rw [Zbb];exact hq
   obtain ⟨Il,Ip,I1⟩:=I
   obtain ⟨d,s⟩:=b
   dsimp only at I1
   rcases lf with ⟨f1,f2⟩|hp|hmm
   ·have c0:cof f.1 (m:Int)=0:=by rw [f1,YO]
    rw [c0] at K
    have B:H 0≤17179869184:=by decide
    obtain ⟨F,q⟩:=f
    exact .inr ⟨.ret,_,by simp,ZlH (by omega) hx K B Znn,.inr ⟨rfl,⟨(d,s),rfl⟩,(F,q),hm,f1,f2⟩⟩
   ·rw [Zwb hp] at K
    have B:H 1≤17179869184:=by decide+kernel
    have n0:¬sgR 1=0:=by rw [Zcl];omega
    have pm':∀e∈L.take (i+1),isP m e∨isM m e:=by rw [htk];exact ZcA Ip (.inl hp)
    have new:(∀l,loB (d,s)=some l→l < -f.2)→LoI m (L.take (i+1)) (loB (true,-f.2)):=fun h=>by rw [htk];exact Il.put hp h
    have old:d=true→-f.2≤s→LoI m (L.take (i+1)) (loB (true,s)):=fun h h2=>by subst h;rw [htk];exact Il.stay h2
    obtain ⟨F,q⟩:=f
    cases d with
    | false=>exact .inl ⟨(true,-q),Zmd (by omega) hx K B n0 Zcl (Nat.le_trans hq (by omega)) rfl W,new (fun l h=>by cases h),pm',hnq⟩
    | true=>
      by_cases c:0<sgR (-q-s)
      ·exact .inl ⟨(true,-q),ZkA (by omega) hx K B n0 Zcl (Nat.le_trans hq (by omega)) rfl (Nat.le_trans hnq (by omega)) (Nat.le_trans I1 (by omega)) c W,new (fun l h=>by
        cases h
        rcases YH (-q-s) with ⟨d1,d2⟩|⟨d1,d2⟩|⟨d1,d2⟩
        ·show s < -q;grind
        ·omega
        ·omega),pm',hnq⟩
      ·exact .inl ⟨(true,s),ZlP (by omega) hx K B n0 Zcl (Nat.le_trans hq (by omega)) rfl (Nat.le_trans hnq (by omega)) (Nat.le_trans I1 (by omega)) c W,old rfl (by
        rcases YH (-q-s) with ⟨d1,d2⟩|⟨d1,d2⟩|⟨d1,d2⟩
        ·omega
        ·show -q≤s;grind
        ·show -q≤s;grind),pm',I1⟩
   ·rw [Zvo hmm] at K
    have B:H (-1)≤17179869184:=by decide+kernel
    have n0:¬sgR (-1)=0:=by rw [Zqw];omega
    have n1:¬sgR (-1)=1:=by rw [Zqw];omega
    have np:¬isP m f:=fun h=>ZjJ h hmm
    have pm':∀e∈L.take (i+1),isP m e∨isM m e:=by rw [htk];exact ZcA Ip (.inr hmm)
    have lo':LoI m (L.take (i+1)) (loB (d,s)):=by rw [htk];exact Il.skip np
    obtain ⟨F,q⟩:=f
    exact .inl ⟨(d,s),Zmk (by omega) hx K B n0 n1 W,lo',pm',I1⟩)
  (fun b I=>⟨.exit 0,_,by simp,ZkY (by omega),.inl ⟨rfl,b,rfl,I⟩⟩)
theorem Zw8{L:List Zf}{d:Bool}{s:Rat}(hL:Zks m L)(hpm:∀e∈L,isP m e∨isM m e)(hs:H s≤2340):∃ex t,Zl Tryz.prog (tab (n+11)) 0 110 (Za 31) 21 Qf (YA (m:Int) L d 0 s)=some (ex,t)∧
  ((ex=.exit 3∧t=VG d s∧(d=true→∀e∈L,isM m e→s≤e.2))∨(ex=.ret∧t=Ud d s∧d=true∧∃e∈L,isM m e∧e.2<s)):=by
 have hlen:=hL.len
 exact Qr (O:=tab (n+11)) (P:= Tryz.prog) (m:=0) (N:=110) (lives:=Za 31) (r:=21) (C:=Qf) (M:=L.length) (enc:=fun i (_:Unit)=>YA (m:Int) L d i s)
  (fun i _=>d=true→∀e∈L.take i,isM m e→s≤e.2) (fun ex t=>(ex=.exit 3∧t=VG d s∧(d=true→∀e∈L,isM m e→s≤e.2))∨(ex=.ret∧t=Ud d s∧d=true∧∃e∈L,isM m e∧e.2<s))
  () (fun _ e he=>by cases he) (by omega)
  (fun i _ hi I=>by
   have hx:L[i]?=some L[i]:=gEt hi
   obtain ⟨f,hf⟩:∃f,L[i]=f:=⟨_,rfl⟩
   rw [hf] at hx
   have hm:=gMe hx
   have fb:=hL.fb f hm
   have htk:L.take (i+1)=L.take i++[f]:=by rw [List.take_add_one,hx];rfl
   have K:=ZeM (n:=n+10) (f:=f) (v:=(m:Int)) (by have:=fb.l;omega)
   have W:InI ((i:Int)+1):=⟨by omega,by omega⟩
   have hq:=fb.h.2
   have nxt:(d=true→isM m f→s≤f.2)→d=true→∀e∈L.take (i+1),isM m e→s≤e.2:=fun h hd e he hme=>by
    rw [htk] at he
    rcases List.mem_append.1 he with h1|h1
    ·exact I hd e h1 hme
    ·rw [List.mem_singleton] at h1;subst h1;exact h hd hme
   cases d with
   | false=>exact .inl ⟨(),ZlD (by omega) rfl W,fun h=>by cases h⟩
   | true=>
     rcases hpm f hm with hp|hmm
     ·rw [Zwb hp] at K
      have B:H 1≤17179869184:=by decide+kernel
      have n0:¬sgR 1<0:=by rw [Zcl];omega
      have nx:=nxt fun _ h=>absurd h (fun h=>ZjJ hp h)
      obtain ⟨F,q⟩:=f
      exact .inl ⟨(),ZlA (by omega) rfl hx K B n0 W,nx⟩
     ·rw [Zvo hmm] at K
      have B:H (-1)≤17179869184:=by decide+kernel
      have n0:sgR (-1)<0:=by rw [Zqw];omega
      obtain ⟨F,q⟩:=f
      by_cases c:sgR (q-s)<0
      ·refine .inr ⟨.ret,_,by simp,Zml (by omega) rfl hx K B n0 (Nat.le_trans hq (by omega)) (Nat.le_trans hs (by omega)) c,.inr ⟨rfl,rfl,rfl,(F,q),hm,hmm,?_⟩⟩
       have:=Xa.1 c
       show q<s;grind
      ·refine .inl ⟨(),ZkX (by omega) rfl hx K B n0 (Nat.le_trans hq (by omega)) (Nat.le_trans hs (by omega)) c W,nxt fun _ _=>?_⟩
       have:¬q-s<0:=fun h=>c (Xa.2 h)
       show s≤q;grind)
  (fun _ I=>⟨.exit 3,_,by simp,Zl7 (by omega),.inl ⟨rfl,rfl,by rw [List.take_length] at I;exact I⟩⟩)
theorem ZwT(hm:m≤3)(hQ:∀g∈Q,FB 2 g∧OkFm g (m:Int))(hn:Q.length≤7)(hf:FB 2 f)(hok:OkFm f (m:Int)):
  ∃s v,run (n+11) 31 [Zc f,.sl 4 (Q.map Zh),.lit (.int .i64 (m:Int))]=some (.tup [.lit (.int .i64 s),Zk v,.lit (.int .i64 0)])∧Zuy m f Q s v:=by
 have hi:InR m f.1:=fun t ht=>hok.srt.2 t ht
 have hQ':∀g∈Q,FB 2 g∧InR m g.1:=fun g hg=>⟨(hQ g hg).1,fun t ht=>(hQ g hg).2.srt.2 t ht⟩
 obtain ⟨hL,hV,hl9,e,hA⟩:=ZnW hm hQ' hn hf hi
 have K2:=Zgp (n:=n+9) (v:=(m:Int)) (R:=[f]++Q) (fun g hg=>by
  rcases List.mem_append.1 hg with h|h
  ·rw [List.mem_singleton] at h;subst h;exact hf.bd (by omega)
  ·exact (hQ g h).1.bd (by omega)) (by simp;omega)
 rw [Xk ⟨by omega,fun g hg=>by
  rcases List.mem_append.1 hg with h|h
  ·rw [List.mem_singleton] at h;subst h;exact hok
  ·exact (hQ g h).2⟩] at K2
 have K4:=Zzm (n:=n+10) (m:Int)
 obtain ⟨K5,K7⟩:=Zu6 (n:=n+7) hf hi (by omega)
 have K9:=ZwC (n:=n) (vars:=m) hV (by omega) hl9 (by omega) (by omega) hm
 rw [←e] at K9
 have M1:Q.length+1≤100000000:=by omega
 have M8:Q.length+2≤100000000:=by omega
 have H0:H 0≤2340:=by decide+kernel
 have fin:∀{s:Int} {v:Rat},MinG (Zb4 m (Zb0 m (Xl m f Q))) s v→(s≠1→v=0)→H v≤2340→Zuy m f Q s v:=fun h1 h2 h3=>⟨h1.congr hA,h2,h3⟩
 obtain ⟨ex,t,L10,h10⟩:=Zxa (n:=n) hL
 rcases h10 with ⟨rfl,⟨d,s⟩,rfl,I⟩|⟨rfl,⟨b,rfl⟩,g,hg,g1,g2⟩
 ·obtain ⟨Il,Ip,I1⟩:=I
  rw [List.take_length] at Il Ip
  dsimp only at I1 L10
  obtain ⟨ex,t,L21,h21⟩:=Zw8 (n:=n) (d:=d) (s:=s) hL Ip I1
  rcases h21 with ⟨rfl,rfl,h⟩|⟨rfl,rfl,rfl,g,hg,gm,hlt⟩
  ·cases d with
   | false=>exact ⟨3,0,by rw [UJ];exact Zwo M1 K2 rfl K4 K5 K7 M8 K9 rfl L10 L21 rfl,fin (ZjS (fun e he=>(Ip e he).resolve_left (Il.no rfl e he)) 0) (fun _=>rfl) H0⟩
   | true=>
     obtain ⟨⟨g,hg,gp,hgs⟩,a⟩:=Il.so s rfl
     subst hgs
     exact ⟨1,_,Zxq M1 K2 rfl K4 K5 K7 M8 K9 rfl L10 L21 rfl,fin (Zfa Ip hg gp a (h rfl)) (fun h=>absurd rfl h) I1⟩
  ·obtain ⟨⟨p,hp,pp,hps⟩,a⟩:=Il.so s rfl
   subst hps
   exact ⟨2,0,by rw [UJ];exact Zv2 M1 K2 rfl K4 K5 K7 M8 K9 rfl L10 L21,fin (Zjq hp hg pp gm hlt 0) (fun _=>rfl) H0⟩
 ·exact ⟨2,0,by rw [UJ];exact Zvq M1 K2 rfl K4 K5 K7 M8 K9 rfl L10,fin (ZgN hg g1 g2 0) (fun _=>rfl) H0⟩
theorem ZsW{v:Int}(hQ:∀g∈Q,FB 2 g)(hn:Q.length≤7)(hf:FB 2 f)(h:¬(0≤v∧OkFm f v∧∀g∈Q,OkFm g v)):
  run (n+11) 30 [Zc f,.sl 4 (Q.map Zh),.lit (.int .i64 v)]=some (.tup [.lit (.int .i64 0),Zk 0,.lit (.int .i64 1)])∧run (n+11) 31 [Zc f,.sl 4 (Q.map Zh),.lit (.int .i64 v)]=some (.tup [.lit (.int .i64 0),Zk 0,.lit (.int .i64 1)]):=by
 rw [UJ]
 have K2:=ZiS (n:=n+9) (vars:=v) (R:=Q) (fun g hg=>(hQ g hg).bd (by omega)) (by omega)
 have K4:=ZdT (n:=n+10) (f:=f) (vars:=v) (hf.bd (by omega))
 have KV:=Zgp (n:=n+9) (v:=v) (R:=[f]++Q) (fun g hg=>by
  rcases List.mem_append.1 hg with h|h
  ·rw [List.mem_singleton] at h;subst h;exact hf.bd (by omega)
  ·exact (hQ g h).bd (by omega)) (by simp;omega)
 have M1:Q.length+1≤100000000:=by omega
 rw [XJ (fun h9=>h ⟨h9.1,h9.2 f (by simp),fun g hg=>h9.2 g (List.mem_append_right _ hg)⟩)] at KV
 refine ⟨?_,ZvE M1 KV rfl⟩
 by_cases c1:v<0
 ·exact ZxT c1
 ·by_cases c2:∀g∈Q,OkFm g v
  ·rw [Xk c2] at K2
   rw [XJ (fun h9=>h ⟨by omega,h9,c2⟩)] at K4
   exact Zvz c1 K2 rfl K4 rfl
  ·rw [XJ c2] at K2
   exact ZxA c1 K2 rfl
end
end
section
set_option maxHeartbeats 6400000
open Go.RowKit
end
section
set_option maxHeartbeats 6400000
open Go.RowKit
attribute [local irreducible] run Zr Zl exec
end
section
open Go.RowKit
attribute [local irreducible] run Zr Zl exec
theorem Zw6{n:Nat}{a0:Yo}{a1:List Yo}{v:Int}(h0:ZkQ a0)(hl:a1.length≤1000000000)(hB:∀f∈a1,ZkQ f):lmR n [frV a0,.sl 4 (a1.map Ys),.lit (.int .i64 v)]=some (.lit (.bool true)):=by
 have K1:=Zww (n:=n+9) hl hB
 by_cases hf:(a1.length:Int)≤7∧∀f∈a1,SmR f
 ·rw [Xk hf] at K1
  obtain ⟨hR,hR7⟩:=Zvy hf
  have e:=(SmR.all hf.2).1
  have K3:=Zu5 (n:=n+11) h0
  by_cases hs:SmR a0
  ·rw [Xk hs] at K3
   obtain ⟨e0,s0⟩:=hs.un
   have hfb:=s0.fb
   by_cases hv:3<v
   ·exact ZxP K1 rfl K3 rfl hv
   ·have hZ:H 0≤17179869184:=by decide+kernel
    have hz0:sgR (0-0)=0:=by decide+kernel
    by_cases hok:0≤v∧OkFm (unR a0) v∧∀g∈a1.map unR,OkFm g v
    ·obtain ⟨m,rfl⟩:∃m:Nat,v=(m:Int):=⟨v.toNat,by omega⟩
     have hQ:∀g∈a1.map unR,FB 2 g∧OkFm g (m:Int):=fun g hg=>⟨(hR.r g hg).1,hok.2.2 g hg⟩
     have hQ':∀g∈a1.map unR,FB 2 g∧InR m g.1:=fun g hg=>⟨(hR.r g hg).1,fun t ht=>(hok.2.2 g hg).srt.2 t ht⟩
     have hi:InR m (unR a0).1:=fun t ht=>hok.2.1.srt.2 t ht
     obtain ⟨s,w,K6,G,G1,G2⟩:=ZwY (n:=n+1) (m:=m) (by omega) hQ hR7 hfb hok.2.1
     obtain ⟨s',w',K7,G',G1',G2'⟩:=ZwT (n:=n+1) (m:=m) (by omega) hQ hR7 hfb hok.2.1
     obtain ⟨u,z,K9,GL,L1,L2⟩:=Zsk (n:=n+8) (m:=m) (by omega) hQ' hR7 hfb hi
     rw [←e0,←e] at K6 K7
     have same:∀{s s':Int} {w w':Rat},MinG (AtT m (Xl m (unR a0) (a1.map unR))) s w→MinG (AtT m (Xl m (unR a0) (a1.map unR))) s' w'→(s≠1→w=0)→(s'≠1→w'=0)→s=s'∧w=w':=fun {s s' w w'} g g' c c'=>by
      obtain ⟨a,b⟩:=g.uniq g'
      refine ⟨a,?_⟩
      by_cases h:s=1
      ·exact b h
      ·rw [c h,c' (by omega)]
     obtain ⟨rfl,rfl⟩:=same G G' G1 G1'
     have hww:sgR (w-w)=0:=by rw [show w-w=0 from by grind];decide+kernel
     have K13:run (n+12) 29 [.agg [.lit (.int .i64 (m:Int)),.sl 4 (a1.map Ys),.sl 4 (a0.1.map Yj),.lit (.bool a0.2.s),Zd a0.2.l1,Zd a0.2.l2]]=some (.tup [.lit (.int .i64 u),Zk z]):=by
      have e2:=AV.agg.inj e0
      have K9':run (n+12) 29 [.agg (.lit (.int .i64 (m:Int))::.sl 4 ((a1.map unR).map Zh)::[.sl 4 ((unR a0).1.map Zs),.lit (.bool (Ze (unR a0).2).s),Zd (Ze (unR a0).2).l1,Zd (Ze (unR a0).2).l2])]=some (.tup [.lit (.int .i64 u),Zk z]):=K9
      rw [←e2,←e] at K9'
      exact K9'
     by_cases hu:u=0
     ·exact Zxb K1 rfl K3 rfl hv K6 K7 rfl rfl (Nat.le_trans G2 (by omega)) (Nat.le_trans G2 (by omega)) hww rfl K13 hu
     ·obtain ⟨rfl,rfl⟩:=same G (GL.resolve_left hu) G1 L1
      have R:=Zws K1 rfl K3 rfl hv K6 K7 rfl rfl (Nat.le_trans G2 (by omega)) (Nat.le_trans G2 (by omega)) hww rfl K13 hu rfl (Nat.le_trans L2 (by omega))
      rw [hww] at R
      exact R
    ·obtain ⟨K6,K7⟩:=ZsW (n:=n+1) (fun g hg=>(hR.r g hg).1) hR7 hfb hok
     rw [←e0,←e] at K6 K7
     exact ZxC K1 rfl K3 rfl hv K6 K7 rfl rfl hZ hZ hz0 (by omega)
  ·rw [XJ hs] at K3
   exact Zya K1 rfl K3 rfl
 ·rw [XJ hf] at K1
  exact Zvm K1 rfl
end
section
open Go.ChangeShapes Go.WideShapes Go.RowKit Go.Deep
def okT:Nat→Nat→Prop:=fun _ _=>True
theorem Zgw{H:Type}(d:DataW H):1≤Rows.uptoBulk d:=by
 cases d with
 | lit l=>cases l <;>simp [Rows.uptoBulk]
 | nil=>simp [Rows.uptoBulk]
 | ptr d=>simp [Rows.uptoBulk]
 | slice ZhH spare=>simp [Rows.uptoBulk]
 | agg parts=>simp [Rows.uptoBulk]
 | iface t d=>simp [Rows.uptoBulk]
 | map entries=>simp [Rows.uptoBulk]
 | held h=>simp [Rows.uptoBulk]
theorem Zas{H:Type}{d:DataW H}{l:List (DataW H)}(h:d∈l):Rows.uptoBulk d≤Rows.uptoBulkAll l:=by
 induction l with
 | nil=>cases h
 | cons x r ih=>
   simp only [Rows.uptoBulkAll]
   cases List.mem_cons.1 h with
   | inl e=>subst e;omega
   | inr e=>have:=ih e;omega
theorem ZcB{H:Type}(l:List (DataW H)):l.length≤Rows.uptoBulkAll l:=by
 induction l with
 | nil=>simp [Rows.uptoBulkAll]
 | cons x r ih=>have:=Zgw x;simp only [Rows.uptoBulkAll,List.length_cons];omega
theorem ZpY{H:Type}{d:DataW H}{l:List (DataW H)}(h:d∈l):Rows.uptoBulk d≤Rows.uptoBulk (.agg l):=by
 have:=Zas h
 simp only [Rows.uptoBulk]
 omega
theorem ZiA{H:Type}{d:DataW H}{l r:List (DataW H)}(h:d∈l):Rows.uptoBulk d≤Rows.uptoBulk (.slice l r):=by
 have:=Zas h
 simp only [Rows.uptoBulk]
 omega
theorem ZcV{H:Type}(l r:List (DataW H)):l.length≤Rows.uptoBulk (.slice l r):=by
 have:=ZcB l
 simp only [Rows.uptoBulk]
 omega
def Opens(w:World)(t:TypeId)(A:Nat→List AV→Prop):Prop:=
 ∀(H:Type) (enc:TypeId × Value→H) (base:Nat) (spare:Nat→Bool) (held:Bool) (fuel:Nat) (cs:List Value) (x:DataW H × List MemPlace),DataW.trod enc Tryz.prog w base spare held fuel t cs=some x→∃us,A (Rows.uptoBulk x.1) us∧RV (RepT w okT) us cs
def Up1(A:Nat→List AV→Prop):Prop:=∀N M us,N≤M→A N us→A M us
theorem Opens.mono{w:World}{t:TypeId}{A B:Nat→List AV→Prop}(h:Opens w t A)(hA:∀N us,A N us→B N us):Opens w t B:=fun H enc base spare held fuel cs x hx=>by
 obtain ⟨us,h1,h2⟩:=h H enc base spare held fuel cs x hx
 exact ⟨us,hA _ _ h1,h2⟩
theorem Zpw{R:AV→Value→Prop}{a:AV}{v:Value}(h:R a v):RV R [a] [v]:=⟨rfl,fun i d hi=>by
 match i,hi with
 | 0,hi=>cases hi;exact ⟨v,rfl,h⟩
 | i+1,hi=>simp at hi⟩
theorem JV{R:AV→Value→Prop}{us bs:List AV}{cs:List Value}{o n:Nat}(h1:RV R us ((cs.drop o).take n))(h2:RV R bs (cs.drop (o+n)))(hn:o+n≤cs.length):RV R (us++bs) (cs.drop o):=by
 have l1:=h1.1
 have l2:=h2.1
 rw [List.length_take,List.length_drop] at l1
 rw [List.length_drop] at l2
 refine ⟨by rw [List.length_append,List.length_drop];omega,fun i d hi=>?_⟩
 by_cases hl:i<us.length
 ·rw [List.getElem?_append_left hl] at hi
  obtain ⟨u,h3,h4⟩:=h1.2 i d hi
  rw [List.getElem?_take,if_pos (by omega)] at h3
  exact ⟨u,h3,h4⟩
 ·rw [List.getElem?_append_right (by omega)] at hi
  obtain ⟨u,h3,h4⟩:=h2.2 _ d hi
  refine ⟨u,?_,h4⟩
  rw [List.getElem?_drop] at h3 ⊢
  rw [←h3]
  congr 1
  omega
theorem Zh0{R:AV→Value→Prop}{cs:List Value}{N:Nat}(h:cs.length=N):RV R [] (cs.drop N):=by
 rw [List.drop_of_length_le (by omega)]
 exact ⟨rfl,fun i d hi=>by simp at hi⟩
section
variable {w : World}
theorem Zqq{t:TypeId}{k:IntKind}(ht: Tryz.prog.underlying t=some (.int k)):Opens w t (fun _ us=>∃z,us=[.lit (.int k z)]∧(Lit.int k z).wf=true):=fun H enc base spare held fuel cs x hx=>by
 obtain ⟨n,rfl,rfl,hw⟩:=DataW.trod_int ht hx
 exact ⟨_,⟨n,rfl,hw⟩,Zpw (.lit _)⟩
theorem Ztc{t:TypeId}(ht: Tryz.prog.underlying t=some .bool):Opens w t (fun _ us=>∃b,us=[.lit (.bool b)]):=fun H enc base spare held fuel cs x hx=>by
 obtain ⟨b,rfl,_⟩:=DataW.trod_bool ht hx
 exact ⟨_,⟨b,rfl⟩,Zpw (.lit _)⟩
theorem Zxi{H:Type}{enc:TypeId × Value→H}{base:Nat}{spare:Nat→Bool}{held:Bool}{t:TypeId}{fs:Array Field}{fuel:Nat}{cs:List Value}{x:DataW H × List MemPlace}(hs: Tryz.prog.underlying t=some (.struct fs))(h:DataW.trod enc Tryz.prog w base spare held fuel t cs=some x):
  cs.length= Tryz.prog.cellsOf t∧∀(i:Nat) (f:Field) (T:TypeId) (o:Nat),fs[i]?=some f→f.type=T→f.offset=o→∃n y,DataW.trod enc Tryz.prog w base spare held n T ((cs.drop o).take (Tryz.prog.cellsOf T))=some y∧Rows.uptoBulk y.1≤Rows.uptoBulk x.1:=by
 obtain ⟨xs,n,_,hx,hl,hlen,hg⟩:=DataW.trod_struct hs h
 refine ⟨hl,fun i f T o hf hT ho=>⟨n,xs[i]'(by rw [hlen];exact (Array.getElem?_eq_some_iff.1 hf).1),?_,?_⟩⟩
 ·subst hT ho
  rw [hg i f hf]
  exact gEt _
 ·subst hx
  exact ZpY (List.mem_map_of_mem (List.getElem_mem _))
theorem ZjM{b o i:Nat}:(⟨b,o,none⟩:Addr).add i=⟨b,o+i,none⟩:=by
 unfold Addr.add
 split
 ·rename_i h;subst h;rfl
 ·rfl
theorem Zy0{t e:TypeId}{k:Nat}{A:Nat→List AV→Prop}(ht: Tryz.prog.underlying t=some (.slice e))(hk: Tryz.prog.cellsOf e=k)(h0k:0<k)(he:Opens w e A)(hA:Up1 A):
  Opens w t (fun N us=>∃es:List (List AV),us=[.sl k es]∧es.length≤N∧∀e∈es,A N e):=fun H enc base spare held fuel cs x hx=>by
 rcases open_slice ht hx with ⟨rfl,_⟩|⟨a,len,cap,m,n,D,Pl,rfl,_,hl,hm,hmm,hxe,hi⟩
 ·exact ⟨_,⟨[],rfl,by simp,fun e he=>by cases he⟩,Zpw (.nil none 0)⟩
 ·have hlm:len≤m:=by rw [hmm];split <;>omega
  have hb:∀i,i<len→Rows.uptoBulk (D i)≤Rows.uptoBulk x.1:=fun i hil=>by
   subst hxe
   exact ZiA (List.mem_map.2 ⟨i,List.mem_range.2 hil,rfl⟩)
  have hbl:len≤Rows.uptoBulk x.1:=by
   subst hxe
   have:=ZcV ((List.range len).map D) ((List.range (m-len)).map fun j=>D (len+j))
   rw [List.length_map,List.length_range] at this
   exact this
  obtain ⟨U,hU⟩:=choose_lt (n:=len) (p:=fun i (u:List AV)=>A (Rows.uptoBulk x.1) u∧∃cs',RV (RepT w okT) u cs'∧w.cells? base (a.add (i*k)) k=some cs') (fun i hil=>by
   obtain ⟨cs',h1,h2⟩:=hi i (by omega)
   rw [hk] at h1
   obtain ⟨u,hu,hr⟩:=he H enc base spare held _ _ _ h2
   exact ⟨u,hA _ _ _ (hb i hil) hu,cs',hr,h1⟩)
  refine ⟨[.sl k ((List.range len).map U)],⟨_,rfl,by rw [List.length_map,List.length_range];exact hbl,fun e he=>?_⟩,?_⟩
  ·obtain ⟨i,hir,rfl⟩:=List.mem_map.1 he
   exact (hU i (List.mem_range.1 hir)).1
  ·by_cases h0:len=0
   ·subst h0;exact Zpw (.nil (some a) cap)
   ·have hz:=(hU 0 (by omega)).2.choose_spec.2
    obtain ⟨_,hz1,hz2⟩:=World.cells?_some hz
    have hz3:=hz2 0 h0k
    rw [gEt (by omega)] at hz3
    have hs0:=World.cell?_spot hz3
    obtain ⟨b,o,sp⟩:=a
    have hsp:sp=none:=by
     simp [Addr.add] at hs0
     exact hs0
    subst hsp
    have key:∀(i j:Nat) (e:List AV) (d:AV),((List.range len).map U)[i]?=some e→e[j]?=some d→∃u,w.cell? ⟨b,o+i*k+j,none⟩=some u∧RepT w okT d u:=fun i j e d hie hjd=>by
     have hil:i<len:=by have:=(gEi hie).1;rw [List.length_map,List.length_range] at this;exact this
     rw [List.getElem?_map,List.getElem?_range hil] at hie
     cases hie
     obtain ⟨_,cs',hr,hc⟩:=hU i hil
     obtain ⟨_,q1,q2⟩:=World.cells?_some hc
     obtain ⟨u,g1,g2⟩:=hr.2 j d hjd
     have hj:j<k:=by
      have:=(gEi g1).1
      omega
     have:=q2 j hj
     rw [ZjM,ZjM] at this
     exact ⟨u,this.trans g1,g2⟩
    have R:=RepT.sl (w:=w) (ok:=okT) (k:=k) (b:=b) (o:=o) (c:=cap) (es:=(List.range len).map U) (fun e he=>by
      obtain ⟨i,hir,rfl⟩:=List.mem_map.1 he
      obtain ⟨_,cs',hr,hc⟩:=hU i (List.mem_range.1 hir)
      obtain ⟨_,q1,_⟩:=World.cells?_some hc
      have:=hr.1
      omega) (by rw [List.length_map,List.length_range];exact hl) (fun i j e d he hd=>by
      obtain ⟨u,h1,_⟩:=key i j e d he hd
      exact ⟨trivial,by rw [h1];rfl⟩) (fun i j e d he hd=>by
      obtain ⟨u,h1,h2⟩:=key i j e d he hd
      rw [h1]
      exact h2)
    rw [List.length_map,List.length_range] at R
    exact Zpw R
theorem Zju{α:Type}{enc:α→List AV}{ok:α→Prop}:∀{es:List (List AV)},(∀e∈es,∃x,e=enc x∧ok x)→∃L:List α,es=L.map enc∧∀x∈L,ok x
 | [],_=>⟨[],rfl,fun x hx=>by cases hx⟩
 | e::es,h=>by
   obtain ⟨x,rfl,hx⟩:=h e (List.mem_cons_self ..)
   obtain ⟨L,rfl,hL⟩:=Zju fun e he=>h e (List.mem_cons_of_mem _ he)
   exact ⟨x::L,rfl,fun y hy=>by
    rcases List.mem_cons.1 hy with rfl|hy
    ·exact hx
    ·exact hL y hy⟩
theorem Zfj{α:Type}{t e:TypeId}{k:Nat}{enc:α→List AV}{ok:Nat→α→Prop}(ht: Tryz.prog.underlying t=some (.slice e))(hk: Tryz.prog.cellsOf e=k)(h0k:0<k)(he:Opens w e (fun N us=>∃x,us=enc x∧ok N x))(hm:∀N M x,N≤M→ok N x→ok M x):
  Opens w t (fun N us=>∃L:List α,us=[.sl k (L.map enc)]∧L.length≤N∧∀x∈L,ok N x):=
 (Zy0 ht hk h0k he (fun N M us hN ⟨x,h1,h2⟩=>⟨x,h1,hm N M x hN h2⟩)).mono fun N us ⟨es,h1,h2,h3⟩=>by
  obtain ⟨L,rfl,hL⟩:=Zju h3
  exact ⟨L,h1,by simpa using h2,hL⟩
def okInt(k:IntKind)(_:Nat)(z:Int):Prop:=(Lit.int k z).wf=true
theorem okInt.up{k:IntKind}{N M:Nat}{z:Int}(hN:N≤M)(h:okInt k N z):okInt k M z:=h
def okBool(_:Nat)(_:Bool):Prop:=True
theorem okBool.up{N M:Nat}{b:Bool}(hN:N≤M)(h:okBool N b):okBool M b:=h
theorem Ztb{t:TypeId}{k:IntKind}(ht: Tryz.prog.underlying t=some (.int k)):Opens w t (fun N us=>∃z,us=[.lit (.int k z)]∧okInt k N z):=Zqq ht
theorem ZqS{t:TypeId}(ht: Tryz.prog.underlying t=some .bool):Opens w t (fun N us=>∃b,us=[.lit (.bool b)]∧okBool N b):=(Ztc ht).mono fun N us ⟨b,h⟩=>⟨b,h,trivial⟩
def okNat(N:Nat)(l:List Nat):Prop:=Lim l∧l.length≤N
theorem okNat.up{N M:Nat}{l:List Nat}(hN:N≤M)(h:okNat N l):okNat M l:=⟨h.1,Nat.le_trans h.2 hN⟩
theorem ZCM: Tryz.prog.cellsOf 114=1:=by kernel_rfl
theorem Zj4:Opens w 24 (fun N us=>∃l,us=[Zd l]∧okNat N l):=
 (Zfj (α:=Nat) (enc:=fun x=>[.lit (.int .u32 (x:Int))]) (ok:=fun _ x=>x<4294967296) Tryz.underlying24 ZCM (by omega) ((Zqq Tryz.underlying114).mono fun N us ⟨z,h1,h2⟩=>by
  have h3:0≤z∧z≤4294967295:=by simpa [Lit.wf,IntKind.min,IntKind.max,IntKind.signed,IntKind.bits] using h2
  exact ⟨z.toNat,by rw [h1,Int.toNat_of_nonneg h3.1],by omega⟩) (fun N M x _ h=>h)).mono fun N us ⟨L,h1,h2,h3⟩=>⟨L,h1,fun x hx=>h3 x hx,h2⟩
def okRaw(N:Nat)(r:Raw):Prop:=okNat N r.l1∧okNat N r.l2
theorem okRaw.up{N M:Nat}{r:Raw}(hN:N≤M)(h:okRaw N r):okRaw M r:=⟨h.1.up hN,h.2.up hN⟩
theorem ZtS{d:AV}{v:Value}(hv:v.cells=#[v])(h:RV (RepT w okT) [d] v.cells.toList):RepT w okT d v:=by
 rw [hv] at h
 obtain ⟨u,h1,h2⟩:=h.2 0 d rfl
 cases h1
 exact h2
theorem ZsI{us:List AV}{cs:Array Value}(h:RV (RepT w okT) us (Value.agg cs).cells.toList):RepT w okT (.agg us) (.agg cs):=by
 have h1:(Value.agg cs).cells=cs:=rfl
 rw [h1] at h
 refine .agg (by have:=h.1;simpa using this) fun i d hi=>?_
 obtain ⟨u,h2,h3⟩:=h.2 i d hi
 have h4:cs[i]?=some u:=by simpa using h2
 rw [Array.getD_eq_getD_getElem?,h4]
 exact h3
theorem Ztg{R:AV→Value→Prop}:RV R [] []:=⟨rfl,fun i d hi=>by simp at hi⟩
theorem Zdw{R:AV→Value→Prop}{a:AV}{v:Value}{l:List AV}{vs:List Value}(h:R a v)(hl:RV R l vs):RV R (a::l) (v::vs):=⟨by simp [hl.1],fun i d hi=>by
 match i,hi with
 | 0,hi=>cases hi;exact ⟨v,rfl,h⟩
 | i+1,hi=>exact hl.2 i d (by simpa using hi)⟩
end
section
variable {w : World}
theorem ZwB: Tryz.prog.cellsOf 26=3:=by kernel_rfl
theorem ZqG: Tryz.prog.cellsOf 4=1:=by kernel_rfl
theorem Zny: Tryz.prog.cellsOf 24=1:=by kernel_rfl
theorem Zqn: Tryz.prog.cellsOf 24=1:=by kernel_rfl
theorem ZoZ:Opens w 26 (fun N us=>∃x:Raw,us=ZtD x∧okRaw N x):=fun H enc base spare held fuel cs x hx=>by
 obtain ⟨hl,hf⟩:=Zxi Tryz.underlying26 hx
 rw [ZwB] at hl
 obtain ⟨n0,y0,g0,b0⟩:=hf 0 _ 4 0 rfl rfl rfl
 obtain ⟨a0,⟨x0,e0,p0⟩,r0⟩:=(ZqS Tryz.underlying4) _ _ _ _ _ _ _ _ g0
 rw [ZqG] at r0
 subst e0
 obtain ⟨n1,y1,g1,b1⟩:=hf 1 _ 24 1 rfl rfl rfl
 obtain ⟨a1,⟨x1,e1,p1⟩,r1⟩:=Zj4 _ _ _ _ _ _ _ _ g1
 rw [Zny] at r1
 subst e1
 obtain ⟨n2,y2,g2,b2⟩:=hf 2 _ 24 2 rfl rfl rfl
 obtain ⟨a2,⟨x2,e2,p2⟩,r2⟩:=Zj4 _ _ _ _ _ _ _ _ g2
 rw [Zqn] at r2
 subst e2
 exact ⟨_,⟨(⟨x0,x1,x2⟩:Raw),rfl,⟨okNat.up b1 p1,okNat.up b2 p2⟩⟩,JV (o:=0) (n:=1) r0 (JV (o:=1) (n:=1) r1 (JV (o:=2) (n:=1) r2 (Zh0 hl) (by omega)) (by omega)) (by omega)⟩
def okO_Term(N:Nat)(x:Int × Raw):Prop:=okInt .i64 N x.1∧okRaw N x.2
theorem okO_Term.up{N M:Nat}{x:Int × Raw}(hN:N≤M)(h:okO_Term N x):okO_Term M x:=⟨okInt.up hN h.1,okRaw.up hN h.2⟩
theorem Zte: Tryz.prog.cellsOf 68=4:=by kernel_rfl
theorem Zlo: Tryz.prog.cellsOf 3=1:=by kernel_rfl
theorem Zkz: Tryz.prog.cellsOf 26=3:=by kernel_rfl
theorem ZtQ:Opens w 68 (fun N us=>∃x:Int × Raw,us=Yj x∧okO_Term N x):=fun H enc base spare held fuel cs x hx=>by
 obtain ⟨hl,hf⟩:=Zxi Tryz.underlying68 hx
 rw [Zte] at hl
 obtain ⟨n0,y0,g0,b0⟩:=hf 0 _ 3 0 rfl rfl rfl
 obtain ⟨a0,⟨x0,e0,p0⟩,r0⟩:=(Ztb Tryz.underlying3) _ _ _ _ _ _ _ _ g0
 rw [Zlo] at r0
 subst e0
 obtain ⟨n1,y1,g1,b1⟩:=hf 1 _ 26 1 rfl rfl rfl
 obtain ⟨a1,⟨x1,e1,p1⟩,r1⟩:=ZoZ _ _ _ _ _ _ _ _ g1
 rw [Zkz] at r1
 subst e1
 exact ⟨_,⟨(⟨x0,x1⟩:Int × Raw),rfl,⟨okInt.up b0 p0,okRaw.up b1 p1⟩⟩,JV (o:=0) (n:=1) r0 (JV (o:=1) (n:=3) r1 (Zh0 hl) (by omega)) (by omega)⟩
def okO_LTerm(N:Nat)(L:List (Int × Raw)):Prop:=L.length≤N∧∀x∈L,okO_Term N x
theorem okO_LTerm.up{N M:Nat}{L:List (Int × Raw)}(hN:N≤M)(h:okO_LTerm N L):okO_LTerm M L:=⟨Nat.le_trans h.1 hN,fun x hx=>okO_Term.up hN (h.2 x hx)⟩
theorem ZkE: Tryz.prog.cellsOf 68=4:=by kernel_rfl
theorem ZqR:Opens w 22 (fun N us=>∃L:List (Int × Raw),us=[.sl 4 (L.map Yj)]∧okO_LTerm N L):=
 (Zfj (α:=Int × Raw) (enc:=Yj) (ok:=okO_Term) Tryz.underlying22 ZkE (by omega) ZtQ (fun N M x h g=>okO_Term.up h g)).mono fun N us ⟨L,h1,h2,h3⟩=>⟨L,h1,h2,h3⟩
def okO_Affine(N:Nat)(x:Yo):Prop:=okO_LTerm N x.1∧okRaw N x.2
theorem okO_Affine.up{N M:Nat}{x:Yo}(hN:N≤M)(h:okO_Affine N x):okO_Affine M x:=⟨okO_LTerm.up hN h.1,okRaw.up hN h.2⟩
theorem ZmB: Tryz.prog.cellsOf 28=4:=by kernel_rfl
theorem ZgC: Tryz.prog.cellsOf 22=1:=by kernel_rfl
theorem Zgf: Tryz.prog.cellsOf 26=3:=by kernel_rfl
theorem Zes:Opens w 28 (fun N us=>∃x:Yo,us=Ys x∧okO_Affine N x):=fun H enc base spare held fuel cs x hx=>by
 obtain ⟨hl,hf⟩:=Zxi Tryz.underlying28 hx
 rw [ZmB] at hl
 obtain ⟨n0,y0,g0,b0⟩:=hf 0 _ 22 0 rfl rfl rfl
 obtain ⟨a0,⟨x0,e0,p0⟩,r0⟩:=ZqR _ _ _ _ _ _ _ _ g0
 rw [ZgC] at r0
 subst e0
 obtain ⟨n1,y1,g1,b1⟩:=hf 1 _ 26 1 rfl rfl rfl
 obtain ⟨a1,⟨x1,e1,p1⟩,r1⟩:=ZoZ _ _ _ _ _ _ _ _ g1
 rw [Zgf] at r1
 subst e1
 exact ⟨_,⟨(⟨x0,x1⟩:Yo),rfl,⟨okO_LTerm.up b0 p0,okRaw.up b1 p1⟩⟩,JV (o:=0) (n:=1) r0 (JV (o:=1) (n:=3) r1 (Zh0 hl) (by omega)) (by omega)⟩
def okO_LRat(N:Nat)(L:List (Raw)):Prop:=L.length≤N∧∀x∈L,okRaw N x
theorem okO_LRat.up{N M:Nat}{L:List (Raw)}(hN:N≤M)(h:okO_LRat N L):okO_LRat M L:=⟨Nat.le_trans h.1 hN,fun x hx=>okRaw.up hN (h.2 x hx)⟩
def okO_LAffine(N:Nat)(L:List (Yo)):Prop:=L.length≤N∧∀x∈L,okO_Affine N x
theorem okO_LAffine.up{N M:Nat}{L:List (Yo)}(hN:N≤M)(h:okO_LAffine N L):okO_LAffine M L:=⟨Nat.le_trans h.1 hN,fun x hx=>okO_Affine.up hN (h.2 x hx)⟩
theorem Zgv: Tryz.prog.cellsOf 28=4:=by kernel_rfl
theorem Zh5:Opens w 40 (fun N us=>∃L:List (Yo),us=[.sl 4 (L.map Ys)]∧okO_LAffine N L):=
 (Zfj (α:=Yo) (enc:=Ys) (ok:=okO_Affine) Tryz.underlying40 Zgv (by omega) Zes (fun N M x h g=>okO_Affine.up h g)).mono fun N us ⟨L,h1,h2,h3⟩=>⟨L,h1,h2,h3⟩
end
theorem gT: Tryz.prog.globalNamed "internal/strconv.uint64pow10"=some 0:=by kernel_rfl
theorem tT:(Tryz.prog.globals[0]?).map (·.type)=some 178:=by kernel_rfl
theorem Zrp{g:Nat}{cs:List AV}(h:Zlh g=some cs):g= 0∧cs=Lib.pow10Tab.map fun z=>AV.lit (.int .u64 z):=by
 unfold Zlh at h
 split at h
 ·rename_i e
  subst e
  cases h
  exact ⟨rfl,rfl⟩
 ·cases h
theorem Zky {w:World} (hT:Lib.TabIs Tryz.prog w "internal/strconv.uint64pow10" .u64 Lib.pow10Tab):Glob w okT:=by
 refine ⟨fun g cs hg=>?_,fun g hg=>?_,fun g hg=>absurd hg (by simp [ZyG])⟩
 ·obtain ⟨rfl,rfl⟩:=Zrp hg
  unfold Lib.TabIs World.var? at hT
  rw [gT] at hT
  simp only [Option.bind_some] at hT
  split at hT
  ·rename_i c t fr hc
   cases hT
   have key:∀(j:Nat) (d:AV),(Lib.pow10Tab.map fun z=>AV.lit (.int .u64 z))[j]?=some d→∃v,w.cell? ⟨0,0+j,none⟩=some v∧d=.lit v:=fun j d hj=>by
    rw [List.getElem?_map] at hj
    obtain ⟨z,hz,rfl⟩:=Option.map_eq_some_iff.1 hj
    refine ⟨.int .u64 z,?_,rfl⟩
    rw [Nat.zero_add]
    simp only [World.cell?,hc]
    simp [hz]
   refine ⟨.mem (fun j d hj=>?_) (fun j d hj=>?_),t,?_⟩
   ·obtain ⟨v,h1,_⟩:=key j d hj
    exact ⟨trivial,by rw [h1];rfl⟩
   ·obtain ⟨v,h1,rfl⟩:=key j d hj
    rw [h1]
    exact .lit _
   ·simp [World.shape?,hc]
  ·cases hT
 ·exact absurd hg (by simp [ZAs])
theorem ZlF {W:World} (h:laidMet Tryz.prog [("math/bits.deBruijn32tab",Rows.laid_math_bits_deBruijn32tab),("math/bits.deBruijn64tab",Rows.laid_math_bits_deBruijn64tab),("internal/strconv.uint64pow10",Rows.laid_internal_strconv_uint64pow10)] W):Glob W okT:=by
 have h3:=laidMet.tail (laidMet.tail h)
 have hT:Lib.TabIs Tryz.prog W "internal/strconv.uint64pow10" .u64 Lib.pow10Tab:=Lib.tabIs_of_head gT tT Tryz.underlying178 Tryz.underlying91 (by kernel_rfl) (by kernel_rfl) h3
 exact Zky hT
theorem Zq3{w:World}{ok:Nat→Nat→Prop}{e:Ending}{w':World}(h:∃v,e=.returned v∧RepT w' (okN ok w w') (.lit (.bool true)) v∧Below w.heap.size w w'):RetB true w e w':=by
 obtain ⟨v,rfl,h2,h3⟩:=h
 cases h2
 exact ⟨rfl,h3⟩
theorem ZuG{N:Nat}{r:Raw}(h:okRaw N r)(hN:N≤1048576):RawB r:=⟨h.1.1,h.2.1,by have:=h.1.2;omega,by have:=h.2.2;omega⟩
theorem ZuV{N:Nat}{f:Yo}(h:okO_Affine N f)(hN:N≤1048576):ZkQ f:=⟨fun t ht=>ZuG (h.1.2 t ht).2 hN,ZuG h.2 hN⟩
theorem ZwL(w:World){v0 v1:Value}{f:Yo}{l:List Yo}{z:Int}{N M:Nat}(r0:RepT w okT (.agg (Ys f)) v0)(r1:RepT w okT (.sl 4 (l.map Ys)) v1)(k0:okO_Affine N f)(k1:okO_LAffine M l)(hN:N≤1048576)(hM:M≤1048576)(hG:Glob w okT):
  Calls Tryz.prog 7 #[v0,v1,.int .i64 z] w (RetB true w):=
 (Zt1 (Zw6 (n:=0) (ZuV k0 hN) (by have:=k1.1;omega) (fun f hf=>ZuV (k1.2 f hf) hM)) w okT _ hG (Zdw r0 (Zdw r1 (Zdw (.lit _) Ztg)))).mono fun _ _ h=>Zq3 h
end
end Go.Proofs.YtdaonnnlgfhlaaaGreatDoor
