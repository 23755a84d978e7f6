import Derived.Test.YtdaonnnlgfhlaaaGreatDoorGF7
import Derived.Test.YtdaonnnlgfhlaaaGreatDoorGF19
import Derived.Test.YtdaonnnlgfhlaaaGreatDoorGF17
set_option linter.all false
set_option maxHeartbeats 1600000
set_option maxRecDepth 100000
namespace Go.Proofs.YtdaonnnlgfhlaaaGreatDoor
def Ya(f:Nat→Rat):Nat→Rat
 | 0=>0
 | n+1=>Ya f n+f n
theorem ZH{f g:Nat→Rat}{n:Nat}(h:∀i,i<n→f i=g i):Ya f n=Ya g n:=by
 induction n with
 | zero=>rfl
 | succ n ih=>rw [Ya,Ya,ih (fun i hi=>h i (by omega)),h n (by omega)]
theorem QS(f g:Nat→Rat)(n:Nat):Ya (fun i=>f i+g i) n=Ya f n+Ya g n:=by
 induction n with
 | zero=>simp [Ya,Rat.add_zero]
 | succ n ih=>simp only [Ya,ih];grind
theorem QN(c:Rat)(f:Nat→Rat)(n:Nat):Ya (fun i=>c*f i) n=c*Ya f n:=by
 induction n with
 | zero=>simp [Ya]
 | succ n ih=>simp only [Ya,ih];grind
theorem Wm(n:Nat):Ya (fun _=>0) n=0:=by
 induction n with
 | zero=>rfl
 | succ n ih=>simp only [Ya,ih];grind
theorem Zk3(f:Nat→Nat→Rat)(m n:Nat):Ya (fun i=>Ya (fun j=>f i j) n) m=Ya (fun j=>Ya (fun i=>f i j) m) n:=by
 induction m with
 | zero=>simp only [Ya];exact (Wm n).symm
 | succ m ih=>simp only [Ya];rw [ih,←QS]
theorem ZfE{f:Nat→Rat}{n:Nat}(h:∀i,i<n→0≤f i):0≤Ya f n:=by
 induction n with
 | zero=>exact Rat.le_refl
 | succ n ih=>
   have h1:=ih (fun i hi=>h i (by omega))
   have h2:=h n (by omega)
   simp only [Ya]
   grind
theorem WH{f:Nat→Rat}{n k:Nat}(hk:k<n)(h:∀i,i<n→i≠k→f i=0):Ya f n=f k:=by
 induction n with
 | zero=>omega
 | succ n ih=>
   simp only [Ya]
   rcases Nat.lt_or_ge k n with h1|h1
   ·rw [ih h1 (fun i hi=>h i (by omega)),h n (by omega) (by omega)];grind
   ·have e:k=n:=by omega
    subst e
    rw [ZH (g:=fun _=>0) (fun i hi=>h i (by omega) (by omega)),Wm];grind
inductive Cone (R:(Nat→Rat) × Rat→Prop):(Nat→Rat) × Rat→Prop
 | base (r:(Nat→Rat) × Rat) (h:R r):Cone R r
 | zero:Cone R (fun _=>0,0)
 | add (r s:(Nat→Rat) × Rat) (h:Cone R r) (k:Cone R s):Cone R (fun j=>r.1 j+s.1 j,r.2+s.2)
 | mul (c:Rat) (r:(Nat→Rat) × Rat) (hc:0≤c) (h:Cone R r):Cone R (fun j=>c*r.1 j,c*r.2)
theorem Cone.sub{R R':(Nat→Rat) × Rat→Prop}(h:∀r,R r→Cone R' r){r:(Nat→Rat) × Rat}(hr:Cone R r):Cone R' r:=by
 induction hr with
 | base r hr=>exact h r hr
 | zero=>exact .zero
 | add r s _ _ h1 h2=>exact .add _ _ h1 h2
 | mul c r hc _ h1=>exact .mul _ _ hc h1
theorem Cone.coef{R:(Nat→Rat) × Rat→Prop}{n:Nat}(h:∀r,R r→r.1 n=0){r:(Nat→Rat) × Rat}(hr:Cone R r):r.1 n=0:=by
 induction hr with
 | base r hr=>exact h r hr
 | zero=>rfl
 | add r s _ _ h1 h2=>show r.1 n+s.1 n=0;rw [h1,h2];grind
 | mul c r hc _ h1=>show c*r.1 n=0;rw [h1];grind
theorem ZrM{L U:List Rat}(h:∀l∈L,∀u∈U,l≤u):∃y,(∀l∈L,l≤y)∧∀u∈U,y≤u:=by
 have top:∀L:List Rat,L≠[]→∃m∈L,∀l∈L,l≤m:=by
  intro L
  induction L with
  | nil=>intro h;exact absurd rfl h
  | cons a L ih=>
    intro _
    rcases L with _|⟨b,L⟩
    ·exact ⟨a,by simp,fun l hl=>by simp at hl;subst hl;exact Rat.le_refl⟩
    ·obtain ⟨m,hm,X8⟩:=ih (by simp)
     by_cases hc:a≤m
     ·exact ⟨m,by simp [hm],fun l hl=>by
       rcases List.mem_cons.1 hl with rfl|hl
       ·exact hc
       ·exact X8 l hl⟩
     ·exact ⟨a,by simp,fun l hl=>by
       rcases List.mem_cons.1 hl with rfl|hl
       ·exact Rat.le_refl
       ·have:=X8 l hl;grind⟩
 have bot:∀L:List Rat,L≠[]→∃m∈L,∀l∈L,m≤l:=by
  intro L hL
  obtain ⟨m,hm,X8⟩:=top (L.map fun x=>-x) (by simpa using hL)
  obtain ⟨x,hx,rfl⟩:=List.mem_map.1 hm
  exact ⟨x,hx,fun l hl=>by have:=X8 (-l) (List.mem_map.2 ⟨l,hl,rfl⟩);grind⟩
 by_cases hL:L=[]
 ·by_cases hU:U=[]
  ·exact ⟨0,by simp [hL],by simp [hU]⟩
  ·obtain ⟨m,hm,X8⟩:=bot U hU
   exact ⟨m,by simp [hL],X8⟩
 ·obtain ⟨m,hm,X8⟩:=top L hL
  exact ⟨m,X8,fun u hu=>h m hm u hu⟩
def Xc(n:Nat)(r:(Nat→Rat) × Rat)(x:Nat→Rat):Rat:=r.2+Ya (fun j=>r.1 j*x j) n
theorem Zkp(n:Nat)(r:(Nat→Rat) × Rat)(x:Nat→Rat):Xc (n+1) r x=Xc n r x+r.1 n*x n:=by
 unfold Xc
 simp only [Ya]
 grind
theorem ZhK{n:Nat}{r:(Nat→Rat) × Rat}{x y:Nat→Rat}(h:∀j,j<n→x j=y j):Xc n r x=Xc n r y:=by
 unfold Xc
 rw [ZH (fun j hj=>by rw [h j hj])]
theorem ZoA(n:Nat)(r s:(Nat→Rat) × Rat)(x:Nat→Rat):Xc n (fun j=>r.1 j+s.1 j,r.2+s.2) x=Xc n r x+Xc n s x:=by
 unfold Xc
 have:Ya (fun j=>(r.1 j+s.1 j)*x j) n=Ya (fun j=>r.1 j*x j) n+Ya (fun j=>s.1 j*x j) n:=by
  rw [←QS];exact ZH (fun j _=>by grind)
 rw [this];grind
theorem Zgo(n:Nat)(c:Rat)(r:(Nat→Rat) × Rat)(x:Nat→Rat):Xc n (fun j=>c*r.1 j,c*r.2) x=c*Xc n r x:=by
 unfold Xc
 have:Ya (fun j=>c*r.1 j*x j) n=c*Ya (fun j=>r.1 j*x j) n:=by
  rw [←QN];exact ZH (fun j _=>by grind)
 rw [this];grind
def ZlR(n:Nat)(p q:(Nat→Rat) × Rat):(Nat→Rat) × Rat:=(fun j=>-(q.1 n)*p.1 j+p.1 n*q.1 j,-(q.1 n)*p.2+p.1 n*q.2)
theorem ZjR(m n:Nat)(p q:(Nat→Rat) × Rat)(x:Nat→Rat):Xc m (ZlR n p q) x=-(q.1 n)*Xc m p x+p.1 n*Xc m q x:=by
 have h:=ZoA m (fun j=>-(q.1 n)*p.1 j,-(q.1 n)*p.2) (fun j=>p.1 n*q.1 j,p.1 n*q.2) x
 rw [Zgo,Zgo] at h
 exact h
theorem ZlZ:∀(n:Nat) (rows:List ((Nat→Rat) × Rat)),(∃x:Nat→Rat,∀r∈rows,0≤Xc n r x)∨∃r,Cone (fun r=>r∈rows) r∧(∀j,j<n→r.1 j=0)∧r.2<0
 | 0,rows=>by
   by_cases h:∃r∈rows,r.2<0
   ·obtain ⟨r,hr,h0⟩:=h
    exact .inr ⟨r,.base r hr,fun j hj=>by omega,h0⟩
   ·refine .inl ⟨fun _=>0,fun r hr=>?_⟩
    have:¬r.2<0:=fun h0=>h ⟨r,hr,h0⟩
    unfold Xc
    simp only [Ya]
    grind
 | n+1,rows=>by
   have key:=ZlZ n (rows.filter (fun r=>decide (r.1 n=0))++(rows.filter (fun r=>decide (0<r.1 n))).flatMap fun p=>(rows.filter (fun r=>decide (r.1 n<0))).map fun q=>ZlR n p q)
   rcases key with ⟨x,hx⟩|⟨r,hr,hz,hneg⟩
   ·left
    have hp:∀p∈rows,0<p.1 n→∀q∈rows,q.1 n<0→0≤-(q.1 n)*Xc n p x+p.1 n*Xc n q x:=fun p hp h1 q hq h2=>by
     rw [←ZjR]
     refine hx _ (List.mem_append.2 (.inr (List.mem_flatMap.2 ⟨p,?_,List.mem_map.2 ⟨q,?_,rfl⟩⟩)))
     ·exact List.mem_filter.2 ⟨hp,by simpa using h1⟩
     ·exact List.mem_filter.2 ⟨hq,by simpa using h2⟩
    obtain ⟨y,hl,hu⟩:=ZrM (L:=(rows.filter (fun r=>decide (0<r.1 n))).map fun p=>-(Xc n p x) / p.1 n) (U:=(rows.filter (fun r=>decide (r.1 n<0))).map fun q=>-(Xc n q x) / q.1 n) (by
     intro l hl u hu
     obtain ⟨p,hp',rfl⟩:=List.mem_map.1 hl
     obtain ⟨q,hq',rfl⟩:=List.mem_map.1 hu
     obtain ⟨hp1,hp2⟩:=List.mem_filter.1 hp'
     obtain ⟨hq1,hq2⟩:=List.mem_filter.1 hq'
     have hp2:0<p.1 n:=by simpa using hp2
     have hq2:q.1 n<0:=by simpa using hq2
     have h:=hp p hp1 hp2 q hq1 hq2
     generalize Xc n p x=a at*
     generalize Xc n q x=b at*
     generalize p.1 n=s at*
     generalize q.1 n=t at*
     have h1:s≠0:=by grind
     have h2:t≠0:=by grind
     have e1:-a / s=(-(a*t)) / (s*t):=by grind
     have e2:-b / t=(-(b*s)) / (s*t):=by grind
     have hst:0<s*(-t):=Rat.mul_pos hp2 (by grind)
     have e3:(-b / t - -a / s)*(s*(-t))=-t*a+s*b:=by grind
     rcases @Rat.le_total (-a / s) (-b / t) with h9|h9
     ·exact h9
     ·have h8:0≤-a / s - -b / t:=by grind
      have h7:0≤(-a / s - -b / t)*(s*(-t)):=Rat.mul_nonneg h8 (by grind)
      have h6:(-a / s - -b / t)*(s*(-t))=-(-t*a+s*b):=by grind
      have h5:-t*a+s*b=0:=by grind
      have h4:(-b / t - -a / s)*(s*(-t))=0:=by rw [e3,h5]
      have h3:-b / t - -a / s=0:=by
       rcases Rat.mul_eq_zero.1 h4 with h|h
       ·exact h
       ·grind
      grind)
    refine ⟨fun j=>if j=n then y else x j,fun r hr=>?_⟩
    rw [Zkp,ZhK (y:=x) (fun j hj=>by rw [if_neg (by omega)]),if_pos rfl]
    by_cases h0:r.1 n=0
    ·have:=hx r (List.mem_append.2 (.inl (List.mem_filter.2 ⟨hr,by simpa using h0⟩)))
     rw [h0];grind
    ·by_cases h1:0<r.1 n
     ·have h2:=hl (-(Xc n r x) / r.1 n) (List.mem_map.2 ⟨r,List.mem_filter.2 ⟨hr,by simpa using h1⟩,rfl⟩)
      have h3:0≤(y - -(Xc n r x) / r.1 n)*r.1 n:=Rat.mul_nonneg (by grind) (by grind)
      have h4:(y - -(Xc n r x) / r.1 n)*r.1 n=Xc n r x+r.1 n*y:=by grind
      grind
     ·have h1':r.1 n<0:=by grind
      have h2:=hu (-(Xc n r x) / r.1 n) (List.mem_map.2 ⟨r,List.mem_filter.2 ⟨hr,by simpa using h1'⟩,rfl⟩)
      have h3:0≤(-(Xc n r x) / r.1 n-y)*(-(r.1 n)):=Rat.mul_nonneg (by grind) (by grind)
      have h4:(-(Xc n r x) / r.1 n-y)*(-(r.1 n))=Xc n r x+r.1 n*y:=by grind
      grind
   ·right
    refine ⟨r,hr.sub (fun s hs=>?_),fun j hj=>?_,hneg⟩
    ·rcases List.mem_append.1 hs with h|h
     ·exact .base s (List.mem_filter.1 h).1
     ·obtain ⟨p,hp,h2⟩:=List.mem_flatMap.1 h
      obtain ⟨q,hq,rfl⟩:=List.mem_map.1 h2
      obtain ⟨hp1,hp2⟩:=List.mem_filter.1 hp
      obtain ⟨hq1,hq2⟩:=List.mem_filter.1 hq
      have hp2:0<p.1 n:=by simpa using hp2
      have hq2:q.1 n<0:=by simpa using hq2
      exact .add _ _ (.mul (-(q.1 n)) p (by grind) (.base p hp1)) (.mul (p.1 n) q (by grind) (.base q hq1))
    ·rcases Nat.lt_or_ge j n with h|h
     ·exact hz j h
     ·have e:j=n:=by omega
      subst e
      refine Cone.coef (fun s hs=>?_) hr
      rcases List.mem_append.1 hs with h|h
      ·have:=(List.mem_filter.1 h).2;simpa using this
      ·obtain ⟨p,hp,h2⟩:=List.mem_flatMap.1 h
       obtain ⟨q,hq,rfl⟩:=List.mem_map.1 h2
       show -(q.1 j)*p.1 j+p.1 j*q.1 j=0
       grind
theorem Cone.fam{m:Nat}{a:Nat→Nat→Rat}{b:Nat→Rat}{r:(Nat→Rat) × Rat}(h:Cone (fun r=>∃i,i<m∧r=(a i,b i)) r):
  ∃l:Nat→Rat,(∀i,0≤l i)∧(∀j,r.1 j=Ya (fun i=>l i*a i j) m)∧r.2=Ya (fun i=>l i*b i) m:=by
 induction h with
 | base r hr=>
   obtain ⟨k,hk,rfl⟩:=hr
   refine ⟨fun i=>if i=k then 1 else 0,fun i=>by dsimp only;split <;>grind,fun j=>?_,?_⟩
   ·rw [WH hk (fun i _ hi=>by dsimp only;rw [if_neg hi];grind)];dsimp only;rw [if_pos rfl];grind
   ·rw [WH hk (fun i _ hi=>by dsimp only;rw [if_neg hi];grind)];dsimp only;rw [if_pos rfl];grind
 | zero=>exact ⟨fun _=>0,fun _=>Rat.le_refl,fun j=>by rw [ZH (g:=fun _=>0) (fun i _=>by grind),Wm],by rw [ZH (g:=fun _=>0) (fun i _=>by grind),Wm]⟩
 | add r s _ _ h1 h2=>
   obtain ⟨l1,p1,q1,s1⟩:=h1
   obtain ⟨l2,p2,q2,s2⟩:=h2
   refine ⟨fun i=>l1 i+l2 i,fun i=>by have:=p1 i;have:=p2 i;grind,fun j=>?_,?_⟩
   ·show r.1 j+s.1 j=_
    rw [q1 j,q2 j,←QS];exact ZH (fun i _=>by grind)
   ·show r.2+s.2=_
    rw [s1,s2,←QS];exact ZH (fun i _=>by grind)
 | mul c r hc _ h1=>
   obtain ⟨l1,p1,q1,s1⟩:=h1
   refine ⟨fun i=>c*l1 i,fun i=>Rat.mul_nonneg hc (p1 i),fun j=>?_,?_⟩
   ·show c*r.1 j=_
    rw [q1 j,←QN];exact ZH (fun i _=>by grind)
   ·show c*r.2=_
    rw [s1,←QN];exact ZH (fun i _=>by grind)
theorem Zh4(m n:Nat)(a:Nat→Nat→Rat)(b:Nat→Rat):(∃x:Nat→Rat,∀i,i<m→0≤b i+Ya (fun j=>a i j*x j) n)∨∃l:Nat→Rat,(∀i,0≤l i)∧(∀j,j<n→Ya (fun i=>l i*a i j) m=0)∧Ya (fun i=>l i*b i) m<0:=by
 rcases ZlZ n ((List.range m).map fun i=>(a i,b i)) with ⟨x,hx⟩|⟨r,hr,hz,hn⟩
 ·exact .inl ⟨x,fun i hi=>hx _ (List.mem_map.2 ⟨i,List.mem_range.2 hi,rfl⟩)⟩
 ·right
  obtain ⟨l,h1,h2,h3⟩:=Cone.fam (m:=m) (a:=a) (b:=b) (hr.sub (fun s hs=>by
   obtain ⟨i,hi,rfl⟩:=List.mem_map.1 hs
   exact .base _ ⟨i,List.mem_range.1 hi,rfl⟩))
  exact ⟨l,h1,fun j hj=>by rw [←h2 j];exact hz j hj,by rw [←h3];exact hn⟩
theorem Uy{a b:Rat}(ha:0<a)(hb:0<b):0<a / b:=by
 by_cases h:0<a / b
 ·exact h
 ·have h1:0≤-(a / b)*b:=Rat.mul_nonneg (by grind) (by grind)
  have h2:-(a / b)*b=-a:=by grind
  grind
def cmb(M:Nat)(o:Nat→Nat→Rat)(l:Nat→Rat)(v:Nat):Rat:=Ya (fun i=>l i*o i v) M
theorem Jc(M:Nat)(o:Nat→Nat→Rat)(l m:Nat→Rat)(v:Nat):cmb M o (fun i=>l i+m i) v=cmb M o l v+cmb M o m v:=by
 unfold cmb;rw [←QS];exact ZH (fun i _=>by grind)
theorem Vb(M:Nat)(o:Nat→Nat→Rat)(c:Rat)(m:Nat→Rat)(v:Nat):cmb M o (fun i=>c*m i) v=c*cmb M o m v:=by
 unfold cmb;rw [←QN];exact ZH (fun i _=>by grind)
theorem Zrq(M:Nat)(o:Nat→Nat→Rat)(l m:Nat→Rat)(t:Rat)(v:Nat):cmb M o (fun i=>l i-t*m i) v=cmb M o l v-t*cmb M o m v:=by
 have h1:=Vb M o (-t) m v
 have h2:=Jc M o l (fun i=>-t*m i) v
 have e:(fun i=>l i-t*m i)=fun i=>l i+-t*m i:=by funext i;grind
 rw [e,h2,h1];grind
structure InC (M:Nat) (o:Nat→Nat→Rat) (E:List Nat) (l:Nat→Rat):Prop where
 nn:∀i,0≤l i
 off:∀i,M≤i→l i=0
 zero:∀v∈E,cmb M o l v=0
def Nz(l:Nat→Rat):Prop:=∃i,l i≠0
def Jn(l m:Nat→Rat):Prop:=∀i,l i≠0→m i≠0
structure MinS (M:Nat) (o:Nat→Nat→Rat) (E:List Nat) (l:Nat→Rat):Prop where
 inC:InC M o E l
 nz:Nz l
 least:∀m,InC M o E m→Nz m→Jn m l→Jn l m
def X9(l:Nat→Rat):Nat→Nat
 | 0=>0
 | n+1=>X9 l n+if l n=0 then 0 else 1
theorem Zi8{l m:Nat→Rat}(h:Jn m l):∀n,X9 m n≤X9 l n
 | 0=>Nat.le_refl _
 | n+1=>by
   have ih:=Zi8 h n
   rw [X9,X9]
   by_cases h0:m n=0
   ·rw [if_pos h0];split <;>omega
   ·rw [if_neg h0,if_neg (h n h0)];omega
theorem ZaV{l m:Nat→Rat}(h:Jn m l){k:Nat}(h1:l k≠0)(h2:m k=0):∀n,k<n→X9 m n<X9 l n
 | 0,hk=>by omega
 | n+1,hk=>by
   rw [X9,X9]
   by_cases e:k=n
   ·subst e
    have:=Zi8 h k
    rw [if_pos h2,if_neg h1];omega
   ·have ih:=ZaV h h1 h2 n (by omega)
    by_cases h0:m n=0
    ·rw [if_pos h0];split <;>omega
    ·rw [if_neg h0,if_neg (h n h0)];omega
theorem Zpb{P:Nat→Prop}(f:Nat→Rat):∀(M:Nat),(∃i,i<M∧P i)→∃k,k<M∧P k∧∀i,i<M→P i→f k≤f i
 | 0,⟨i,hi,_⟩=>by omega
 | M+1,⟨i,hi,hp⟩=>by
   by_cases h:∃i,i<M∧P i
   ·obtain ⟨k,hk,hpk,hmin⟩:=Zpb f M h
    by_cases hM:P M∧f M≤f k
    ·refine ⟨M,by omega,hM.1,fun j hj hpj=>?_⟩
     by_cases e:j=M
     ·subst e;exact Rat.le_refl
     ·have:=hmin j (by omega) hpj;have:=hM.2;grind
    ·refine ⟨k,by omega,hpk,fun j hj hpj=>?_⟩
     by_cases e:j=M
     ·subst e
      have:¬f j≤f k:=fun h9=>hM ⟨hpj,h9⟩
      grind
     ·exact hmin j (by omega) hpj
   ·have e:i=M:=by
     by_cases e:i=M
     ·exact e
     ·exact absurd ⟨i,by omega,hp⟩ h
    subst e
    exact ⟨i,by omega,hp,fun j hj hpj=>by
     by_cases e:j=i
     ·subst e;exact Rat.le_refl
     ·exact absurd ⟨j,by omega,hpj⟩ h⟩
theorem cut{M:Nat}{o:Nat→Nat→Rat}{E:List Nat}{l n:Nat→Rat}(hl:InC M o E l)(h0:∀i,M≤i→n i=0)(hz:∀v∈E,cmb M o n v=0)(hs:Jn n l)(hp:∃i,0<n i):
  ∃t,0<t∧InC M o E (fun i=>l i-t*n i)∧Jn (fun i=>l i-t*n i) l∧∃k,k<M∧l k≠0∧l k-t*n k=0:=by
 obtain ⟨i0,hi0⟩:=hp
 have hi0M:i0<M:=by
  rcases Nat.lt_or_ge i0 M with h|h
  ·exact h
  ·have:=h0 i0 h;grind
 obtain ⟨k,hk,hpk,hmin⟩:=Zpb (P:=fun i=>0<n i) (fun i=>l i / n i) M ⟨i0,hi0M,hi0⟩
 have hlk:l k≠0:=hs k (by grind)
 have hlk0:=hl.nn k
 have hpk':0<n k:=hpk
 refine ⟨l k / n k,?_,⟨fun i=>?_,fun i hi=>?_,fun v hv=>?_⟩,fun i hi hli=>?_,k,hk,hlk,?_⟩
 ·have h1:0<l k:=by grind
  exact Uy h1 hpk'
 ·have ht:0≤l k / n k:=Rat.le_of_lt (Uy (by grind) hpk')
  have hli:=hl.nn i
  by_cases hn:0<n i
  ·have hiM:i<M:=by
    rcases Nat.lt_or_ge i M with h|h
    ·exact h
    ·have:=h0 i h;grind
   have h1:=hmin i hiM hn
   have h2:0≤(l i / n i-l k / n k)*n i:=Rat.mul_nonneg (by grind) (by grind)
   have h3:(l i / n i-l k / n k)*n i=l i-l k / n k*n i:=by grind
   show 0≤l i-l k / n k*n i
   grind
  ·have h2:0≤l k / n k*(-(n i)):=Rat.mul_nonneg ht (by grind)
   show 0≤l i-l k / n k*n i
   grind
 ·show l i-l k / n k*n i=0
  rw [hl.off i hi,h0 i hi];grind
 ·rw [Zrq,hl.zero v hv,hz v hv];grind
 ·refine hi ?_
  have hni:n i=0:=by
   by_cases h9:n i=0
   ·exact h9
   ·exact absurd hli (hs i h9)
  show l i-l k / n k*n i=0
  rw [hli,hni];grind
 ·grind
theorem MinS.uniq{M:Nat}{o:Nat→Nat→Rat}{E:List Nat}{l m:Nat→Rat}(h:MinS M o E l)(hm:InC M o E m)(hn:Nz m)(hs:Jn m l):∃c,0<c∧∀i,l i=c*m i:=by
 obtain ⟨i0,hi0⟩:=hn
 have hi0':0<m i0:=by have:=hm.nn i0;grind
 obtain ⟨t,ht,hc,hsub,k,hk,hlk,hz⟩:=cut h.inC hm.off hm.zero hs ⟨i0,hi0'⟩
 refine ⟨t,ht,fun i=>?_⟩
 by_cases h9:Nz (fun i=>l i-t*m i)
 ·exact absurd hz (h.least _ hc h9 hsub k hlk)
 ·by_cases e:l i-t*m i=0
  ·grind
  ·exact absurd ⟨i,e⟩ h9
theorem ZhW{M:Nat}{o:Nat→Nat→Rat}{E:List Nat}:∀(d:Nat) {l:Nat→Rat},X9 l M≤d→InC M o E l→Nz l→∃m,MinS M o E m∧Jn m l:=by
 intro d
 induction d with
 | zero=>
   intro l hd hl hn
   obtain ⟨i,hi⟩:=hn
   have hiM:i<M:=by
    rcases Nat.lt_or_ge i M with h|h
    ·exact h
    ·exact absurd (hl.off i h) hi
   have:=ZaV (m:=fun _=>0) (l:=l) (fun j hj=>absurd rfl hj) hi rfl M hiM
   omega
 | succ d ih=>
   intro l hd hl hn
   by_cases h:∃m,InC M o E m∧Nz m∧Jn m l∧¬Jn l m
   ·obtain ⟨m,h1,h2,h3,h4⟩:=h
    have:∃k,l k≠0∧m k=0:=by
     refine Classical.byContradiction fun h9=>h4 fun i hi h0=>h9 ⟨i,hi,h0⟩
    obtain ⟨k,hk1,hk2⟩:=this
    have hkM:k<M:=by
     rcases Nat.lt_or_ge k M with h|h
     ·exact h
     ·exact absurd (hl.off k h) hk1
    obtain ⟨m',h5,h6⟩:=ih (by have:=ZaV h3 hk1 hk2 M hkM;omega) h1 h2
    exact ⟨m',h5,fun i hi=>h3 i (h6 i hi)⟩
   ·exact ⟨l,⟨hl,hn,fun m h1 h2 h3=>Classical.byContradiction fun h4=>h ⟨m,h1,h2,h3,h4⟩⟩,fun i hi=>hi⟩
theorem Zer{M:Nat}{o:Nat→Nat→Rat}{E:List Nat}{P:(Nat→Rat)→Prop}(hadd:∀m m',P m→P m'→P (fun i=>m i+m' i))(hmul:∀c m,0<c→P m→P (fun i=>c*m i)):
  ∀(d:Nat) {l:Nat→Rat},X9 l M≤d→InC M o E l→Nz l→(∀m,MinS M o E m→Jn m l→P m)→P l:=by
 intro d
 induction d with
 | zero=>
   intro l hd hl hn _
   obtain ⟨i,hi⟩:=hn
   have hiM:i<M:=by
    rcases Nat.lt_or_ge i M with h|h
    ·exact h
    ·exact absurd (hl.off i h) hi
   have:=ZaV (m:=fun _=>0) (l:=l) (fun j hj=>absurd rfl hj) hi rfl M hiM
   omega
 | succ d ih=>
   intro l hd hl hn hb
   obtain ⟨m,hm,hs⟩:=ZhW (M:=M) (o:=o) (E:=E) (X9 l M) (Nat.le_refl _) hl hn
   obtain ⟨i0,hi0⟩:=hm.nz
   have hi0':0<m i0:=by have:=hm.inC.nn i0;grind
   obtain ⟨t,ht,hc,hsub,k,hk,hlk,hz⟩:=cut hl hm.inC.off hm.inC.zero hs ⟨i0,hi0'⟩
   have hPm:=hmul t m ht (hb m hm hs)
   by_cases h9:Nz (fun i=>l i-t*m i)
   ·have h1:=ih (l:=fun i=>l i-t*m i) (by have:=ZaV hsub hlk hz M hk;omega) hc h9 (fun m' h1 h2=>hb m' h1 (fun i hi=>hsub i (h2 i hi)))
    have h2:=hadd _ _ h1 hPm
    have e:(fun i=>(fun i=>l i-t*m i) i+(fun i=>t*m i) i)=l:=by funext i;dsimp only;grind
    rw [e] at h2
    exact h2
   ·have e:(fun i=>t*m i)=l:=by
     funext i
     by_cases e:l i-t*m i=0
     ·grind
     ·exact absurd ⟨i,e⟩ h9
    rw [e] at hPm
    exact hPm
def Qn(f:Nat→Rat):List Nat→Rat
 | []=>0
 | i::I=>f i+Qn f I
theorem Zcm{f g:Nat→Rat}{I:List Nat}(h:∀i∈I,f i=g i):Qn f I=Qn g I:=by
 induction I with
 | nil=>rfl
 | cons a I ih=>rw [Qn,Qn,h a (by simp),ih (fun i hi=>h i (by simp [hi]))]
theorem Zk4{f:Nat→Rat}{I:List Nat}(h:∀i∈I,f i=0):Qn f I=0:=by
 induction I with
 | nil=>rfl
 | cons a I ih=>rw [Qn,h a (by simp),ih (fun i hi=>h i (by simp [hi]))];grind
theorem Zc4{f:Nat→Rat}{I:List Nat}{p:Nat}(h:p∈I):Qn f I=f p+Qn f (I.erase p):=by
 induction I with
 | nil=>cases h
 | cons a I ih=>
   by_cases e:a=p
   ·subst e;simp [Qn]
   ·have:p∈I:=by rcases List.mem_cons.1 h with h|h;exact absurd h.symm e;exact h
    rw [List.erase_cons_tail (by simpa using e),Qn,Qn,ih this];grind
theorem Zgs(f:Nat→Rat)(I J:List Nat):Qn f (I++J)=Qn f I+Qn f J:=by
 induction I with
 | nil=>show _=0+_;grind
 | cons a I ih=>show f a+Qn f (I++J)=f a+Qn f I+_;rw [ih];grind
theorem ZhS(f:Nat→Rat)(M:Nat):Qn f (List.range M)=Ya f M:=by
 induction M with
 | zero=>rfl
 | succ M ih=>rw [List.range_succ,Zgs,ih];show Ya f M+(f M+0)=Ya f M+f M;grind
theorem Zgu{f:Nat→Rat}{p:Nat→Bool}(I:List Nat)(h:∀i∈I,p i=false→f i=0):Qn f (I.filter p)=Qn f I:=by
 induction I with
 | nil=>rfl
 | cons a I ih=>
   have ih':=ih (fun i hi=>h i (by simp [hi]))
   rcases hp:p a with _|_
   ·rw [List.filter_cons_of_neg (by simp [hp]),ih',Qn,h a (by simp) hp];grind
   ·rw [List.filter_cons_of_pos hp,Qn,Qn,ih']
theorem ZlU(f g:Nat→Rat)(I:List Nat):Qn (fun i=>f i+g i) I=Qn f I+Qn g I:=by
 induction I with
 | nil=>show (0:Rat)=0+0;grind
 | cons a I ih=>simp only [Qn,ih];grind
theorem Zm7(c:Rat)(f:Nat→Rat)(I:List Nat):Qn (fun i=>c*f i) I=c*Qn f I:=by
 induction I with
 | nil=>show (0:Rat)=c*0;grind
 | cons a I ih=>simp only [Qn,ih];grind
theorem dep:∀(E:List Nat) (o:Nat→Nat→Rat) (I:List Nat),I.Nodup→E.length<I.length→∃n:Nat→Rat,(∀i,i ∉ I→n i=0)∧(∃i,n i≠0)∧∀v∈E,Qn (fun i=>n i*o i v) I=0
 | [],o,I,hI,hl=>by
   rcases I with _|⟨a,I⟩
   ·simp at hl
   ·exact ⟨fun i=>if i=a then 1 else 0,fun i hi=>by dsimp only;rw [if_neg (fun e=>hi (by simp [e]))],⟨a,by dsimp only;rw [if_pos rfl];decide+kernel⟩,fun v hv=>by cases hv⟩
 | v::E,o,I,hI,hl=>by
   simp only [List.length_cons] at hl
   by_cases h:∃p∈I,o p v≠0
   ·obtain ⟨p,hp,hpv⟩:=h
    obtain ⟨n,h1,⟨i0,h2⟩,h3⟩:=dep E (fun i u=>o i u-o i v / o p v*o p u) (I.erase p) (hI.erase p) (by rw [List.length_erase_of_mem hp];omega)
    have hnp:n p=0:=h1 p (fun h9=>by have:=hI.mem_erase_iff.1 h9;exact this.1 rfl)
    have hne:∀i,i∈I.erase p→i≠p:=fun i hi e=>by subst e;exact (hI.mem_erase_iff.1 hi).1 rfl
    refine ⟨fun i=>if i=p then -(Qn (fun i=>n i*o i v) (I.erase p)) / o p v else n i,fun i hi=>?_,⟨i0,?_⟩,fun u hu=>?_⟩
    ·dsimp only
     rw [if_neg (fun e=>hi (by rw [e];exact hp))]
     exact h1 i (fun h9=>hi (List.mem_of_mem_erase h9))
    ·dsimp only
     rw [if_neg (fun e=>h2 (by rw [e];exact hnp))]
     exact h2
    ·rw [Zc4 hp]
     dsimp only
     have e2:Qn (fun i=>(if i=p then -(Qn (fun i=>n i*o i v) (I.erase p)) / o p v else n i)*o i u) (I.erase p)=Qn (fun i=>n i*o i u) (I.erase p):=Zcm (fun i hi=>by rw [if_neg (hne i hi)])
     rw [if_pos rfl,e2]
     rcases List.mem_cons.1 hu with rfl|hu
     ·grind
     ·have h4:=h3 u hu
      have e:Qn (fun i=>n i*(o i u-o i v / o p v*o p u)) (I.erase p)=Qn (fun i=>n i*o i u) (I.erase p)+-(o p u / o p v)*Qn (fun i=>n i*o i v) (I.erase p):=by
       rw [←Zm7,←ZlU]
       exact Zcm (fun i _=>by grind)
      rw [e] at h4
      generalize Qn (fun i=>n i*o i u) (I.erase p)=A at*
      generalize Qn (fun i=>n i*o i v) (I.erase p)=B at*
      grind
   ·have hz:∀i∈I,o i v=0:=fun i hi=>Classical.byContradiction fun h9=>h ⟨i,hi,h9⟩
    obtain ⟨n,h1,h2,h3⟩:=dep E o I hI (by omega)
    refine ⟨n,h1,h2,fun u hu=>?_⟩
    rcases List.mem_cons.1 hu with rfl|hu
    ·exact Zk4 (fun i hi=>by rw [hz i hi];grind)
    ·exact h3 u hu
theorem ZbM(l:Nat→Rat):∀M,((List.range M).filter (fun i=>decide (l i≠0))).length=X9 l M
 | 0=>rfl
 | M+1=>by
   rw [List.range_succ,List.filter_append,List.length_append,ZbM l M,X9]
   by_cases h:l M=0
   ·rw [if_pos h,List.filter_cons_of_neg (by simpa using h)];simp
   ·rw [if_neg h,List.filter_cons_of_pos (by simpa using h)];simp
theorem MinS.size{M:Nat}{o:Nat→Nat→Rat}{E:List Nat}{l:Nat→Rat}(h:MinS M o E l):X9 l M≤E.length+1:=by
 refine Classical.byContradiction fun hc=>?_
 obtain ⟨s0,hs0⟩:=h.nz
 have hs0M:s0<M:=by
  rcases Nat.lt_or_ge s0 M with h9|h9
  ·exact h9
  ·exact absurd (h.inC.off s0 h9) hs0
 have hmem:s0∈(List.range M).filter (fun i=>decide (l i≠0)):=List.mem_filter.2 ⟨List.mem_range.2 hs0M,by simpa using hs0⟩
 have hnd:((List.range M).filter (fun i=>decide (l i≠0))).Nodup:=List.nodup_range.filter _
 obtain ⟨n,h1,⟨i0,h2⟩,h3⟩:=dep E o (((List.range M).filter (fun i=>decide (l i≠0))).erase s0) (hnd.erase s0) (by rw [List.length_erase_of_mem hmem,ZbM];omega)
 have hn0:n s0=0:=h1 s0 (fun h9=>(hnd.mem_erase_iff.1 h9).1 rfl)
 have hsub:∀i,n i≠0→i<M∧l i≠0:=fun i hi=>by
  have:i∈((List.range M).filter (fun i=>decide (l i≠0))).erase s0:=Classical.byContradiction fun h9=>hi (h1 i h9)
  have:=(List.mem_filter.1 (List.mem_of_mem_erase this))
  exact ⟨List.mem_range.1 this.1,by simpa using this.2⟩
 have hz:∀v∈E,cmb M o n v=0:=fun v hv=>by
  have h4:=h3 v hv
  have h5:=Zc4 (f:=fun i=>n i*o i v) hmem
  rw [h4] at h5
  have h6:=Zgu (f:=fun i=>n i*o i v) (p:=fun i=>decide (l i≠0)) (List.range M) (fun i _ hp=>by
   have:n i=0:=Classical.byContradiction fun h9=>(hsub i h9).2 (by simpa using hp)
   rw [this];grind)
  unfold cmb
  rw [←ZhS,←h6,h5,hn0];grind
 have hoff:∀i,M≤i→n i=0:=fun i hi=>Classical.byContradiction fun h9=>by have:=(hsub i h9).1;omega
 have fin:∀n':Nat→Rat,(∀i,M≤i→n' i=0)→(∀v∈E,cmb M o n' v=0)→Jn n' l→(∃i,0<n' i)→n' s0=0→False:=fun n' a b c d e=>by
  obtain ⟨t,ht,hc',hs',k,hk,hlk,hzk⟩:=cut h.inC a b c d
  have hnz:Nz (fun i=>l i-t*n' i):=⟨s0,by dsimp only;rw [e];grind⟩
  exact h.least _ hc' hnz hs' k hlk hzk
 by_cases hpos:∃i,0<n i
 ·exact fin n hoff hz (fun i hi=>(hsub i hi).2) hpos hn0
 ·refine fin (fun i=>-1*n i) (fun i hi=>by rw [hoff i hi];grind) (fun v hv=>by rw [Vb,hz v hv];grind) (fun i hi=>(hsub i (fun h9=>hi (by show -1*n i=0;rw [h9];grind))).2) ⟨i0,?_⟩ (by rw [hn0];grind)
  have:¬0<n i0:=fun h9=>hpos ⟨i0,h9⟩
  try dsimp only
  grind
def WY:Nat→Nat→Nat
 | 0,_=>0
 | k+1,x=>x % 2+WY k (x / 2)
theorem Znv{l:Nat→Rat}:∀(M x:Nat),(∀i,i<M→(l i≠0↔x.testBit i=true))→WY M x=X9 l M:=by
 have key:∀(M x:Nat) (l:Nat→Rat),(∀i,i<M→(l i≠0↔x.testBit i=true))→WY M x=X9 l M:=by
  intro M
  induction M with
  | zero=>intro x l _;rfl
  | succ M ih=>
    intro x l h
    have h1:=ih (x / 2) (fun i=>l (i+1)) (fun i hi=>by rw [h (i+1) (by omega),Nat.testBit_succ])
    have h2:∀(k:Nat),X9 l (k+1)=(if l 0=0 then 0 else 1)+X9 (fun i=>l (i+1)) k:=by
     intro k
     induction k with
     | zero=>simp [X9]
     | succ k ih2=>rw [X9,ih2,X9];omega
    rw [WY,h1,h2]
    have h0:=h 0 (by omega)
    rw [Nat.testBit_zero] at h0
    by_cases e:l 0=0
    ·have:¬x % 2=1:=fun h9=>(h0.2 (by simpa using h9)) e
     rw [if_pos e];omega
    ·have:=h0.1 e
     rw [if_neg e];simp at this;omega
 exact fun M x h=>key M x l h
abbrev ZbT:=(Nat→Rat) × Nat
structure Snd (M N:Nat) (o:Nat→Nat→Rat) (r:ZbT) (l:Nat→Rat):Prop where
 nn:∀i,0≤l i
 off:∀i,M≤i→l i=0
 bits:∀i,l i≠0↔r.2.testBit i=true
 val:∀u,u<N→r.1 u=cmb M o l u
 nz:Nz l
structure Inv (M N:Nat) (o:Nat→Nat→Rat) (E:List Nat) (rows:List ZbT):Prop where
 snd:∀r∈rows,∃l,Snd M N o r l
 zero:∀r∈rows,∀v∈E,r.1 v=0
 all:∀m,MinS M o E m→∃r∈rows,∀i,m i≠0↔r.2.testBit i=true
 low:∀v∈E,v<N
structure Zp9 (N:Nat) (l:List ZbT) (v k:Nat) (l':List ZbT):Prop where
 from_:∀r∈l',(r∈l∧r.1 v=0)∨∃p∈l,∃q∈l,0<p.1 v∧q.1 v<0∧r.2=p.2 ||| q.2∧∃g:Rat,0<g∧∀u,u<N→r.1 u=g*(p.1 u*(-(q.1 v))+q.1 u*p.1 v)
 keep:∀r∈l,r.1 v=0→r∈l'
 pair:∀p∈l,∀q∈l,0<p.1 v→q.1 v<0→WY 64 (p.2 ||| q.2)≤k+1→∃r∈l',r.2=p.2 ||| q.2
theorem Snd.inC{M N:Nat}{o:Nat→Nat→Rat}{r:ZbT}{l:Nat→Rat}{E:List Nat}(h:Snd M N o r l)(hz:∀v∈E,r.1 v=0)(hl:∀v∈E,v<N):InC M o E l:=
 ⟨h.nn,h.off,fun v hv=>by rw [←h.val v (hl v hv)];exact hz v hv⟩
theorem Snd.mult{M N:Nat}{o:Nat→Nat→Rat}{r:ZbT}{l m:Nat→Rat}{E:List Nat}(h:Snd M N o r l)(hz:∀v∈E,r.1 v=0)(hl:∀v∈E,v<N)(hm:MinS M o E m)(hb:∀i,m i≠0↔r.2.testBit i=true):
  ∃c,0<c∧∀u,u<N→cmb M o m u=c*r.1 u:=by
 obtain ⟨c,hc,he⟩:=hm.uniq (h.inC hz hl) h.nz (fun i hi=>(hb i).2 ((h.bits i).1 hi))
 refine ⟨c,hc,fun u hu=>?_⟩
 have e:m=fun i=>c*l i:=funext he
 rw [e,Vb,h.val u hu]
theorem Zra{M:Nat}{l:Nat→Rat}{x:Nat}(hM:M≤64)(h:∀i,l i≠0↔x.testBit i=true)(hoff:∀i,M≤i→l i=0):WY 64 x=X9 l M:=by
 rw [Znv (l:=l) 64 x (fun i _=>h i)]
 have key:∀d,X9 l (M+d)=X9 l M:=by
  intro d
  induction d with
  | zero=>rfl
  | succ d ih=>rw [←Nat.add_assoc,X9,ih,if_pos (hoff (M+d) (by omega))];omega
 have:=key (64-M)
 rwa [show M+(64-M)=64 by omega] at this
theorem Inv.step{M N:Nat}{o:Nat→Nat→Rat}{E:List Nat}{l l':List ZbT}{v k:Nat}(h:Inv M N o E l)(hM:M≤64)(hv:v<N)(hk:k=E.length+1)(he:Zp9 N l v k l'):Inv M N o (v::E) l':=by
 have hlow:∀u∈v::E,u<N:=fun u hu=>by
  rcases List.mem_cons.1 hu with rfl|hu
  ·exact hv
  ·exact h.low u hu
 -- a pair of rows
 have pairS:∀(p q:ZbT) (lp lq:Nat→Rat),Snd M N o p lp→Snd M N o q lq→0<p.1 v→q.1 v<0→∀(f:Nat),f=p.2 ||| q.2→∀(g:Rat),0<g→
   Snd M N o ((fun u=>g*(p.1 u*(-(q.1 v))+q.1 u*p.1 v)),f) (fun i=>g*(-(q.1 v))*lp i+g*p.1 v*lq i):=by
  intro p q lp lq hp hq h1 h2 f hf g hg
  have c1:0<g*(-(q.1 v)):=Rat.mul_pos hg (by grind)
  have c2:0<g*p.1 v:=Rat.mul_pos hg h1
  obtain ⟨a,ha⟩:∃a,a=g*(-(q.1 v)):=⟨_,rfl⟩
  obtain ⟨b,hb⟩:∃b,b=g*p.1 v:=⟨_,rfl⟩
  rw [←ha] at c1
  rw [←hb] at c2
  rw [←ha,←hb]
  have bits:∀i,a*lp i+b*lq i≠0↔(lp i≠0∨lq i≠0):=fun i=>by
   have n1:=hp.nn i
   have n2:=hq.nn i
   have m1:0≤a*lp i:=Rat.mul_nonneg (by grind) n1
   have m2:0≤b*lq i:=Rat.mul_nonneg (by grind) n2
   constructor
   ·intro h9
    by_cases e1:lp i=0
    ·right;intro e2;exact h9 (by rw [e1,e2];grind)
    ·exact .inl e1
   ·intro h9 h8
    have z1:a*lp i=0:=by grind
    have z2:b*lq i=0:=by grind
    rcases h9 with h9|h9
    ·rcases Rat.mul_eq_zero.1 z1 with h7|h7
     ·grind
     ·exact h9 h7
    ·rcases Rat.mul_eq_zero.1 z2 with h7|h7
     ·grind
     ·exact h9 h7
  refine ⟨fun i=>?_,fun i hi=>?_,fun i=>?_,fun u hu=>?_,?_⟩
  ·have n1:=hp.nn i
   have n2:=hq.nn i
   have m1:0≤a*lp i:=Rat.mul_nonneg (by grind) n1
   have m2:0≤b*lq i:=Rat.mul_nonneg (by grind) n2
   show 0≤a*lp i+b*lq i
   grind
  ·show a*lp i+b*lq i=0
   rw [hp.off i hi,hq.off i hi];grind
  ·show a*lp i+b*lq i≠0↔f.testBit i=true
   rw [bits,hp.bits,hq.bits,hf,Nat.testBit_or,Bool.or_eq_true]
  ·show g*(p.1 u*(-(q.1 v))+q.1 u*p.1 v)=cmb M o (fun i=>a*lp i+b*lq i) u
   have e1:=Jc M o (fun i=>a*lp i) (fun i=>b*lq i) u
   rw [Vb,Vb,←hp.val u hu,←hq.val u hu] at e1
   rw [e1,ha,hb];grind
  ·obtain ⟨i,hi⟩:=hp.nz
   exact ⟨i,(bits i).2 (.inl hi)⟩
 have zeroP:∀(p q:ZbT) (u:Nat),p∈l→q∈l→u∈v::E→p.1 u*(-(q.1 v))+q.1 u*p.1 v=0:=fun p q u hp hq hu=>by
  rcases List.mem_cons.1 hu with rfl|hu
  ·grind
  ·rw [h.zero p hp u hu,h.zero q hq u hu];grind
 refine ⟨fun r hr=>?_,fun r hr u hu=>?_,fun m hm=>?_,hlow⟩
 ·rcases he.from_ r hr with ⟨h1,_⟩|⟨p,hp,q,hq,h1,h2,h3,g,hg,h4⟩
  ·exact h.snd r h1
  ·obtain ⟨lp,hlp⟩:=h.snd p hp
   obtain ⟨lq,hlq⟩:=h.snd q hq
   have hS:=pairS p q lp lq hlp hlq h1 h2 r.2 h3 g hg
   exact ⟨_,⟨hS.nn,hS.off,hS.bits,fun u hu=>(h4 u hu).trans (hS.val u hu),hS.nz⟩⟩
 ·rcases he.from_ r hr with ⟨h1,h2⟩|⟨p,hp,q,hq,_,_,_,g,_,h4⟩
  ·rcases List.mem_cons.1 hu with rfl|hu
   ·exact h2
   ·exact h.zero r h1 u hu
  ·rw [h4 u (hlow u hu),zeroP p q u hp hq hu];grind
 ·have hmE:InC M o E m:=⟨hm.inC.nn,hm.inC.off,fun u hu=>hm.inC.zero u (by simp [hu])⟩
  have hmv:cmb M o m v=0:=hm.inC.zero v (by simp)
  by_cases hA:∃μ,MinS M o E μ∧Jn μ m∧cmb M o μ v=0
  ·obtain ⟨μ,h1,h2,h3⟩:=hA
   have h4:=hm.least μ ⟨h1.inC.nn,h1.inC.off,fun u hu=>by
    rcases List.mem_cons.1 hu with rfl|hu
    ·exact h3
    ·exact h1.inC.zero u hu⟩ h1.nz h2
   obtain ⟨r,hr,hb⟩:=h.all μ h1
   obtain ⟨lr,hlr⟩:=h.snd r hr
   obtain ⟨c,hc,hcv⟩:=hlr.mult (fun u hu=>h.zero r hr u hu) h.low h1 hb
   have h5:=hcv v hv
   rw [h3] at h5
   have h6:r.1 v=0:=by
    rcases Rat.mul_eq_zero.1 h5.symm with h7|h7
    ·grind
    ·exact h7
   exact ⟨r,he.keep r hr h6,fun i=>⟨fun h9=>(hb i).1 (h4 i h9),fun h9=>h2 i ((hb i).2 h9)⟩⟩
  ·have hpos:∃μ,MinS M o E μ∧Jn μ m∧0<cmb M o μ v:=Classical.byContradiction fun h9=>by
    have:=Zer (M:=M) (o:=o) (E:=E) (P:=fun ν=>cmb M o ν v<0) (fun a b ha hb=>by show cmb M o (fun i=>a i+b i) v<0;rw [Jc];grind) (fun c a hc ha=>by
     show cmb M o (fun i=>c*a i) v<0
     rw [Vb]
     have:=Rat.mul_pos hc (show 0 < -(cmb M o a v) by grind)
     grind) (X9 m M) (Nat.le_refl _) hmE hm.nz (fun μ h1 h2=>by
     have n1:cmb M o μ v≠0:=fun e=>hA ⟨μ,h1,h2,e⟩
     have n2:¬0<cmb M o μ v:=fun e=>h9 ⟨μ,h1,h2,e⟩
     show cmb M o μ v<0
     grind)
    rw [hmv] at this
    grind
   have hneg:∃μ,MinS M o E μ∧Jn μ m∧cmb M o μ v<0:=Classical.byContradiction fun h9=>by
    have:=Zer (M:=M) (o:=o) (E:=E) (P:=fun ν=>0<cmb M o ν v) (fun a b ha hb=>by show 0<cmb M o (fun i=>a i+b i) v;rw [Jc];grind) (fun c a hc ha=>by
     show 0<cmb M o (fun i=>c*a i) v
     rw [Vb]
     exact Rat.mul_pos hc ha) (X9 m M) (Nat.le_refl _) hmE hm.nz (fun μ h1 h2=>by
     have n1:cmb M o μ v≠0:=fun e=>hA ⟨μ,h1,h2,e⟩
     have n2:¬cmb M o μ v<0:=fun e=>h9 ⟨μ,h1,h2,e⟩
     show 0<cmb M o μ v
     grind)
    rw [hmv] at this
    grind
   obtain ⟨μ,hμ1,hμ2,hμ3⟩:=hpos
   obtain ⟨η,hη1,hη2,hη3⟩:=hneg
   obtain ⟨p,hp,hpb⟩:=h.all μ hμ1
   obtain ⟨q,hq,hqb⟩:=h.all η hη1
   obtain ⟨lp,hlp⟩:=h.snd p hp
   obtain ⟨lq,hlq⟩:=h.snd q hq
   obtain ⟨c,hc,hcv⟩:=hlp.mult (fun u hu=>h.zero p hp u hu) h.low hμ1 hpb
   obtain ⟨d,hd,hdv⟩:=hlq.mult (fun u hu=>h.zero q hq u hu) h.low hη1 hqb
   have hpv:0<p.1 v:=by
    by_cases h9:0<p.1 v
    ·exact h9
    ·have:=hcv v hv
     have h8:0≤c*(-(p.1 v)):=Rat.mul_nonneg (by grind) (by grind)
     grind
   have hqv:q.1 v<0:=by
    by_cases h9:q.1 v<0
    ·exact h9
    ·have:=hdv v hv
     have h8:0≤d*q.1 v:=Rat.mul_nonneg (by grind) (by grind)
     grind
   have hS:=pairS p q lp lq hlp hlq hpv hqv (p.2 ||| q.2) rfl 1 (by decide+kernel)
   have hsub:Jn (fun i=>1*(-(q.1 v))*lp i+1*p.1 v*lq i) m:=fun i hi=>by
    have h1:=(hS.bits i).1 hi
    have h2:(p.2.testBit i || q.2.testBit i)=true:=by rw [←Nat.testBit_or];exact h1
    rcases Bool.or_eq_true_iff.1 h2 with h3|h3
    ·exact hμ2 i ((hpb i).2 h3)
    ·exact hη2 i ((hqb i).2 h3)
   have hin:=hS.inC (E:=v::E) (fun u hu=>by
    show 1*(p.1 u*(-(q.1 v))+q.1 u*p.1 v)=0
    rw [zeroP p q u hp hq hu];grind) hlow
   have hle:=hm.least _ hin hS.nz hsub
   have hbits:∀i,m i≠0↔(p.2 ||| q.2).testBit i=true:=fun i=>⟨fun h9=>(hS.bits i).1 (hle i h9),fun h9=>hsub i ((hS.bits i).2 h9)⟩
   have hsz:=hm.size
   rw [List.length_cons] at hsz
   obtain ⟨r,hr,hrf⟩:=he.pair p hp q hq hpv hqv (by rw [Zra hM hbits hm.inC.off];omega)
   exact ⟨r,hr,fun i=>by rw [hrf];exact hbits i⟩
theorem Inv.start{M N:Nat}{o:Nat→Nat→Rat}{l:List ZbT}(h1:∀r∈l,∃i,i<M∧r.2=2 ^ i∧∀u,u<N→r.1 u=o i u)(h2:∀i,i<M→∃r∈l,r.2=2 ^ i):Inv M N o [] l:=by
 refine ⟨fun r hr=>?_,fun r hr v hv=>(by cases hv),fun m hm=>?_,fun v hv=>(by cases hv)⟩
 ·obtain ⟨k,hk,hb,hv⟩:=h1 r hr
  refine ⟨fun i=>if i=k then 1 else 0,fun i=>by split <;>grind,fun i hi=>by rw [if_neg (by omega)],fun i=>?_,fun u hu=>?_,⟨k,by simp;try decide+kernel⟩⟩
  ·rw [hb,Nat.testBit_two_pow]
   by_cases e:i=k
   ·subst e;simp;try decide+kernel
   ·rw [if_neg e];simp;exact fun h9=>e h9.symm
  ·rw [hv u hu]
   unfold cmb
   rw [WH hk (fun i _ hi=>by dsimp only;rw [if_neg hi];grind)]
   dsimp only
   rw [if_pos rfl];grind
 ·-- a vector of least support is one unit
  obtain ⟨k,hk⟩:=hm.nz
  have hkM:k<M:=by
   rcases Nat.lt_or_ge k M with h|h
   ·exact h
   ·exact absurd (hm.inC.off k h) hk
  obtain ⟨r,hr,hb⟩:=h2 k hkM
  have hl:=hm.least (fun i=>if i=k then 1 else 0) ⟨fun i=>by split <;>grind,fun i hi=>by rw [if_neg (by omega)],fun v hv=>by cases hv⟩ ⟨k,by simp;try decide+kernel⟩ (fun i hi=>by
   by_cases e:i=k
   ·subst e;exact hk
   ·exact absurd (if_neg e) hi)
  refine ⟨r,hr,fun i=>?_⟩
  rw [hb,Nat.testBit_two_pow]
  by_cases e:i=k
  ·subst e;simp [hk]
  ·have:m i=0:=Classical.byContradiction fun h9=>hl i h9 (if_neg e)
   rw [this];simp;exact fun h9=>e h9.symm
theorem Inv.project{M n:Nat}{o:Nat→Nat→Rat}{E:List Nat}{l:List ZbT}(h:Inv M (n+2) o E l)(hE:∀j,j<n→j∈E)(hE2:∀v∈E,v<n)(t:Rat):
  (∀r∈l,0≤r.1 n*t+r.1 (n+1))↔∃x:Nat→Rat,∀i,i<M→0≤(o i n*t+o i (n+1))+Ya (fun j=>o i j*x j) n:=by
 constructor
 ·intro hr
  rcases Zh4 M n o (fun i=>o i n*t+o i (n+1)) with hx|⟨w,hw,hz,hneg⟩
  ·exact hx
  ·exfalso
   have hcut:∀f:Nat→Rat,Ya (fun i=>(if i<M then w i else 0)*f i) M=Ya (fun i=>w i*f i) M:=fun f=>ZH (fun i hi=>by rw [if_pos hi])
   have hin:InC M o E (fun i=>if i<M then w i else 0):=⟨fun i=>by split;exact hw i;grind,fun i hi=>by rw [if_neg (by omega)],fun v hv=>by
    unfold cmb
    rw [hcut];exact hz v (hE2 v hv)⟩
   have hval:∀m:Nat→Rat,Ya (fun i=>m i*(o i n*t+o i (n+1))) M=cmb M o m n*t+cmb M o m (n+1):=fun m=>by
    unfold cmb
    have e1:Ya (fun i=>m i*(o i n*t+o i (n+1))) M=Ya (fun i=>t*(m i*o i n)+m i*o i (n+1)) M:=ZH (fun i _=>by grind)
    rw [e1,QS,QN];grind
   have hnz:Nz (fun i=>if i<M then w i else 0):=Classical.byContradiction fun h9=>by
    have:Ya (fun i=>w i*(o i n*t+o i (n+1))) M=0:=by
     rw [←hcut,ZH (g:=fun _=>0) (fun i hi=>by
      have:(if i<M then w i else 0)=0:=Classical.byContradiction fun h8=>h9 ⟨i,h8⟩
      rw [this];grind),Wm]
    rw [this] at hneg
    exact absurd hneg (by decide+kernel)
   have hP:=Zer (M:=M) (o:=o) (E:=E) (P:=fun m=>0≤cmb M o m n*t+cmb M o m (n+1)) (fun a b ha hb=>by show 0≤cmb M o (fun i=>a i+b i) n*t+cmb M o (fun i=>a i+b i) (n+1);rw [Jc,Jc];grind) (fun c a hc ha=>by
    show 0≤cmb M o (fun i=>c*a i) n*t+cmb M o (fun i=>c*a i) (n+1)
    rw [Vb,Vb]
    have:=Rat.mul_nonneg (Rat.le_of_lt hc) ha
    grind) _ (Nat.le_refl _) hin hnz (fun m hm _=>by
    obtain ⟨r,hrl,hb⟩:=h.all m hm
    obtain ⟨lr,hlr⟩:=h.snd r hrl
    obtain ⟨c,hc,hcv⟩:=hlr.mult (fun u hu=>h.zero r hrl u hu) h.low hm hb
    show 0≤cmb M o m n*t+cmb M o m (n+1)
    rw [hcv n (by omega),hcv (n+1) (by omega)]
    have:=Rat.mul_nonneg (Rat.le_of_lt hc) (hr r hrl)
    grind)
   rw [←hval,hcut] at hP
   grind
 ·rintro ⟨x,hx⟩ r hr
  obtain ⟨lr,hlr⟩:=h.snd r hr
  have e:r.1 n*t+r.1 (n+1)=Ya (fun i=>lr i*((o i n*t+o i (n+1))+Ya (fun j=>o i j*x j) n)) M:=by
   rw [hlr.val n (by omega),hlr.val (n+1) (by omega)]
   have e1:Ya (fun i=>lr i*((o i n*t+o i (n+1))+Ya (fun j=>o i j*x j) n)) M=Ya (fun i=>(t*(lr i*o i n)+lr i*o i (n+1))+Ya (fun j=>lr i*(o i j*x j)) n) M:=ZH (fun i _=>by rw [QN];grind)
   rw [e1,QS,QS,QN,Zk3]
   have e2:Ya (fun j=>Ya (fun i=>lr i*(o i j*x j)) M) n=0:=by
    rw [ZH (g:=fun _=>0) (fun j hj=>?_),Wm]
    have h1:=h.zero r hr j (hE j hj)
    rw [hlr.val j (by omega)] at h1
    have e3:Ya (fun i=>lr i*(o i j*x j)) M=x j*cmb M o lr j:=by
     unfold cmb
     rw [←QN];exact ZH (fun i _=>by grind)
    rw [e3,h1];grind
   rw [e2]
   unfold cmb
   grind
  rw [e]
  exact ZfE (fun i hi=>Rat.mul_nonneg (hlr.nn i) (hx i hi))
structure EndsI (l:List (Rat × Rat)) (low high:Bool) (least most:Rat):Prop where
 z:∀r∈l,r.1=0→0≤r.2
 lo:low=true→(∃r∈l,0<r.1∧least*r.1+r.2=0)∧∀r∈l,0<r.1→0≤least*r.1+r.2
 nlo:low=false→∀r∈l,¬0<r.1
 hi:high=true→(∃r∈l,r.1<0∧most*r.1+r.2=0)∧∀r∈l,r.1<0→0≤most*r.1+r.2
 nhi:high=false→∀r∈l,¬r.1<0
def ZdQ(l:List (Rat × Rat))(t:Rat):Prop:=∀r∈l,0≤r.1*t+r.2
theorem VV{a x y:Rat}(ha:0≤a)(h:x≤y):a*x≤a*y:=by
 have:0≤a*(y-x):=Rat.mul_nonneg ha (by grind)
 grind
theorem EndsI.none{l:List (Rat × Rat)}{low high:Bool}{least most:Rat}(h:EndsI l low high least most)(h1:low=true)(h2:high=true)(h3:most<least)(t:Rat):¬ZdQ l t:=fun ht=>by
 obtain ⟨⟨p,hp,hp1,hp2⟩,_⟩:=h.lo h1
 obtain ⟨⟨q,hq,hq1,hq2⟩,_⟩:=h.hi h2
 have e1:=ht p hp
 have e2:=ht q hq
 have f1:0≤p.1*(t-least):=by grind
 have f2:0≤-(q.1)*(most-t):=by grind
 have g1:least≤t:=by
  by_cases h9:least≤t
  ·exact h9
  ·have:=Rat.mul_pos hp1 (show 0<least-t by grind);grind
 have g2:t≤most:=by
  by_cases h9:t≤most
  ·exact h9
  ·have:=Rat.mul_pos (show 0 < -(q.1) by grind) (show 0<t-most by grind);grind
 grind
theorem EndsI.free{l:List (Rat × Rat)}{high:Bool}{least most:Rat}(h:EndsI l false high least most)(B:Rat):∃t,ZdQ l t∧t≤B:=by
 have hl:=h.nlo rfl
 cases high
 ·have hh:=h.nhi rfl
  exact ⟨B,fun r hr=>by
   have e:r.1=0:=by have:=hl r hr;have:=hh r hr;grind
   have:=h.z r hr e
   rw [e];grind,Rat.le_refl⟩
 ·obtain ⟨_,X8⟩:=h.hi rfl
  obtain ⟨t,ht1,ht2⟩:∃t:Rat,t≤B∧t≤most:=by
   by_cases h9:B≤most
   ·exact ⟨B,Rat.le_refl,h9⟩
   ·exact ⟨most,by grind,Rat.le_refl⟩
  refine ⟨t,fun r hr=>?_,ht1⟩
  by_cases e:r.1=0
  ·have:=h.z r hr e
   rw [e];grind
  ·have hneg:r.1<0:=by have:=hl r hr;grind
   have h1:=X8 r hr hneg
   have h2:=VV (a:=-(r.1)) (by grind) ht2
   grind
theorem EndsI.best{l:List (Rat × Rat)}{high:Bool}{least most:Rat}(h:EndsI l true high least most)(hm:high=true→least≤most):ZdQ l least∧∀t,ZdQ l t→least≤t:=by
 obtain ⟨⟨p,hp,hp1,hp2⟩,X8⟩:=h.lo rfl
 refine ⟨fun r hr=>?_,fun t ht=>?_⟩
 ·by_cases e:r.1=0
  ·have:=h.z r hr e
   rw [e];grind
  ·by_cases h1:0<r.1
   ·have:=X8 r hr h1;grind
   ·have hneg:r.1<0:=by grind
    cases high
    ·exact absurd hneg (h.nhi rfl r hr)
    ·have h1:=(h.hi rfl).2 r hr hneg
     have h2:=VV (a:=-(r.1)) (by grind) (hm rfl)
     grind
 ·have e1:=ht p hp
  by_cases h9:least≤t
  ·exact h9
  ·have:=Rat.mul_pos hp1 (show 0<least-t by grind);grind
section
open Go.RowKit
attribute [local irreducible] run Zp Zk exec
def cAt(f:Zf)(vars j:Nat):Rat:=if j<vars then cof f.1 (j:Int) else f.2
theorem Zg4{q:Rat}{z:Nat}(h:val (Zd q).l2=z):(if (z:Int)<1 then (1:Int) else (z:Int))=(q.den:Int):=by
 have h1:val (QK q.den)=z:=h
 have hp:=q.den_pos
 unfold QK at h1
 split at h1
 ·next e=>
  have:z=0:=by rw [←h1];rfl
  rw [if_pos (by omega),e];rfl
 ·rw [Zg] at h1
  rw [if_neg (by omega),h1]
theorem ZfT{q:Rat}{z:Nat}(h:val (Zd q).l1=z):((Zd q).s=true→-(z:Int)=q.num)∧((Zd q).s=false→(z:Int)=q.num):=by
 have h1:val (lmb q.num.natAbs)=z:=h
 rw [Zg] at h1
 refine ⟨fun hs=>?_,fun hs=>?_⟩
 ·have:q.num<0:=of_decide_eq_true hs
  omega
 ·have:¬q.num<0:=of_decide_eq_false hs
  omega
theorem ZrI(q:Rat):q*(q.den:Rat)=(q.num:Rat):=by
 have e:(q.num:Rat) / (q.den:Rat)=q:=by
  have h1:=Rat.mkRat_self q
  rw [Rat.mkRat_eq_div] at h1
  exact h1
 have h:(q.den:Rat)≠0:=by exact_mod_cast q.den_nz
 grind
def ZbI(f:Zf)(vars:Nat)(o:List Int × List Int)(j:Nat):Prop:=o.1.getD j 0=(cAt f vars j).num∧o.2.getD j 0=((cAt f vars j).den:Int)∧(cAt f vars j).num.natAbs≤1073741824∧(cAt f vars j).den≤1073741824
section
variable {n vars : Nat} {f : Zf}
theorem J3{o:List Int × List Int}{i:Nat}(h1:i<o.1.length)(h2:i<o.2.length){x y:Int}(hx:x=(cAt f vars i).num)(hy:y=((cAt f vars i).den:Int))(hb:(cAt f vars i).num.natAbs≤1073741824∧(cAt f vars i).den≤1073741824)(hI:∀j,j<i→ZbI f vars o j):∀j,j<i+1→ZbI f vars (o.1.set i x,o.2.set i y) j:=fun j hj=>by
 unfold ZbI
 dsimp only
 rw [JG h1,JG h2]
 by_cases h:j=i
 ·subst h;rw [if_pos rfl,if_pos rfl];exact ⟨hx,hy,hb⟩
 ·rw [if_neg h,if_neg h];exact hI j (by omega)
theorem ZxY(hl:f.1.length≤100000000)(hv:vars≤1000000):
  ∃ex t,Zk Tryz.prog (tab (n+2)) 0 109 (Za 63) 4 YN (Yj f (vars:Int) (List.replicate (((vars:Int)+1).toNat) 0) (List.replicate (((vars:Int)+1).toNat) 0) 0)=some (ex,t)∧
  ((ex=.exit 0∧∃o:List Int × List Int,t=Uu (vars:Int) o.1 o.2∧o.1.length=vars+1∧o.2.length=vars+1∧∀j,j<vars+1→ZbI f vars o j)∨(ex=.ret∧∃o:List Int × List Int,t=Xj (vars:Int) o.1 o.2)):=by
 exact Q3 (O:=tab (n+2)) (P:= Tryz.prog) (m:=0) (N:=109) (lives:=Za 63) (r:=4) (C:=YN) (M:=vars+1) (enc:=fun i (o:List Int × List Int)=>Yj f (vars:Int) o.1 o.2 i)
  (fun i o=>o.1.length=vars+1∧o.2.length=vars+1∧∀j,j<i→ZbI f vars o j)
  (fun ex t=>(ex=.exit 0∧∃o:List Int × List Int,t=Uu (vars:Int) o.1 o.2∧o.1.length=vars+1∧o.2.length=vars+1∧∀j,j<vars+1→ZbI f vars o j)∨(ex=.ret∧∃o:List Int × List Int,t=Xj (vars:Int) o.1 o.2))
  (List.replicate (((vars:Int)+1).toNat) 0,List.replicate (((vars:Int)+1).toNat) 0) ⟨by rw [List.length_replicate];omega,by rw [List.length_replicate];omega,fun j hj=>absurd hj (by omega)⟩ (by omega)
  (fun i o hi hI=>by
   obtain ⟨h1,h2,h3⟩:=hI
   have W:InI ((i:Int)+1):=⟨by omega,by omega⟩
   obtain ⟨q,hq⟩:∃q,cAt f vars i=q:=⟨_,rfl⟩
   obtain ⟨z1,b1,K4,Z1,hb1⟩:=Zjj (n:=n+1) (l:=(Zd q).l1) (Yk _)
   obtain ⟨z2,b2,K5,Z2,hb2⟩:=Zjj (n:=n+1) (l:=(Zd q).l2) (Zck _)
   have hi1:i<o.1.length:=by omega
   have hi2:i<o.2.length:=by omega
   by_cases c:(i:Int)<(vars:Int)
   ·have e:cAt f vars i=cof f.1 (i:Int):=if_pos (by omega)
    have K3:=Zjk (n:=n+1) (f:=f) (v:=(i:Int)) hl
    rw [←e,hq] at K3
    cases b1 with
    | false=>exact .inr ⟨.ret,_,by simp,ZmY (by omega) c K3 K4 K5 rfl,.inr ⟨rfl,o,rfl⟩⟩
    | true=>
      cases b2 with
      | false=>exact .inr ⟨.ret,_,by simp,Zl2 (by omega) c K3 K4 K5 rfl rfl,.inr ⟨rfl,o,rfl⟩⟩
      | true=>
        obtain ⟨u1,u2⟩:=hb1 rfl
        obtain ⟨v1,v2⟩:=hb2 rfl
        have dc:=Zg4 v1
        have nc:=ZfT u1
        have hbd:q.num.natAbs≤1073741824∧q.den≤1073741824:=by
         have:val (lmb q.num.natAbs)=z1:=u1
         rw [Zg] at this
         refine ⟨by omega,?_⟩
         split at dc <;>omega
        cases hs:(Zd q).s with
        | true=>exact .inl ⟨_,Zpe (by omega) c K3 K4 K5 rfl rfl hs ⟨by omega,by omega⟩ hi1 hi2 W,by rw [List.length_set];exact h1,by rw [List.length_set];exact h2,J3 hi1 hi2 (by rw [hq];exact nc.1 hs) (by rw [hq];exact dc) (by rw [hq];exact hbd) h3⟩
        | false=>exact .inl ⟨_,Zmw (by omega) c K3 K4 K5 rfl rfl hs hi1 hi2 W,by rw [List.length_set];exact h1,by rw [List.length_set];exact h2,J3 hi1 hi2 (by rw [hq];exact nc.2 hs) (by rw [hq];exact dc) (by rw [hq];exact hbd) h3⟩
   ·have e:cAt f vars i=f.2:=if_neg (by omega)
    obtain rfl:f.2=q:=by rw [←e,hq]
    cases b1 with
    | false=>exact .inr ⟨.ret,_,by simp,Zmu (by omega) c K4 K5 rfl,.inr ⟨rfl,o,rfl⟩⟩
    | true=>
      cases b2 with
      | false=>exact .inr ⟨.ret,_,by simp,Zqa (by omega) c K4 K5 rfl rfl,.inr ⟨rfl,o,rfl⟩⟩
      | true=>
        obtain ⟨u1,u2⟩:=hb1 rfl
        obtain ⟨v1,v2⟩:=hb2 rfl
        have dc:=Zg4 v1
        have nc:=ZfT u1
        have hbd:f.2.num.natAbs≤1073741824∧f.2.den≤1073741824:=by
         have:val (lmb f.2.num.natAbs)=z1:=u1
         rw [Zg] at this
         refine ⟨by omega,?_⟩
         split at dc <;>omega
        cases hs:(Zd f.2).s with
        | true=>exact .inl ⟨_,Zof (by omega) c K4 K5 rfl rfl hs ⟨by omega,by omega⟩ hi1 hi2 W,by rw [List.length_set];exact h1,by rw [List.length_set];exact h2,J3 hi1 hi2 (by rw [hq];exact nc.1 hs) (by rw [hq];exact dc) (by rw [hq];exact hbd) h3⟩
        | false=>exact .inl ⟨_,Zqi (by omega) c K4 K5 rfl rfl hs hi1 hi2 W,by rw [List.length_set];exact h1,by rw [List.length_set];exact h2,J3 hi1 hi2 (by rw [hq];exact nc.2 hs) (by rw [hq];exact dc) (by rw [hq];exact hbd) h3⟩)
  (fun o hI=>by
   obtain ⟨h1,h2,h3⟩:=hI
   exact ⟨.exit 0,_,by simp,Zmo (by omega),.inl ⟨rfl,o,rfl,h1,h2,h3⟩⟩)
theorem Zvu{o:List Int × List Int}(hv:vars≤1000000)(h2:o.2.length=vars+1)(h3:∀j,j<vars+1→ZbI f vars o j):
  ∃ex t,Zk Tryz.prog (tab (n+2)) 0 109 (Za 63) 18 Xl (Qr (vars:Int) o.1 o.2 1 0)=some (ex,t)∧
  ((ex=.exit 2∧∃all:Nat,t=VT (vars:Int) o.1 o.2 (all:Int)∧1≤all∧all≤1073741824∧∀j,j<vars+1→(cAt f vars j).den ∣ all)∨(ex=.ret∧∃i r x,t=VU (vars:Int) o.1 o.2 i r x)):=by
 exact Q3 (O:=tab (n+2)) (P:= Tryz.prog) (m:=0) (N:=109) (lives:=Za 63) (r:=18) (C:=Xl) (M:=vars+1) (enc:=fun i (all:Nat)=>Qr (vars:Int) o.1 o.2 (all:Int) i)
  (fun i all=>1≤all∧all≤1073741824∧∀j,j<i→(cAt f vars j).den ∣ all)
  (fun ex t=>(ex=.exit 2∧∃all:Nat,t=VT (vars:Int) o.1 o.2 (all:Int)∧1≤all∧all≤1073741824∧∀j,j<vars+1→(cAt f vars j).den ∣ all)∨(ex=.ret∧∃i r x,t=VU (vars:Int) o.1 o.2 i r x))
  1 ⟨by omega,by omega,fun j hj=>absurd hj (by omega)⟩ (by omega)
  (fun i all hi hI=>by
   obtain ⟨g1,g2,g3⟩:=hI
   have hi2:i<o.2.length:=by omega
   obtain ⟨_,hd,_,hdb⟩:=h3 i hi
   have hx:=Xa hi2
   rw [hd] at hx
   have hp:=(cAt f vars i).den_pos
   obtain ⟨d,hde⟩:∃d,(cAt f vars i).den=d:=⟨_,rfl⟩
   rw [hde] at hx hdb hp
   have K:=Ztv (n:=n+1) (a:=all) (b:=d) (by omega) (by omega)
   have hg:0<Nat.gcd all d:=Nat.gcd_pos_of_pos_left _ (by omega)
   obtain ⟨g,hge⟩:∃g,Nat.gcd all d=g:=⟨_,rfl⟩
   have hga:g ∣ all:=by rw [←hge];exact Nat.gcd_dvd_left _ _
   have hgd:g ∣ d:=by rw [←hge];exact Nat.gcd_dvd_right _ _
   rw [hge] at K hg
   have ht:(all:Int).tdiv (g:Int)=((all / g:Nat):Int):=(Int.ofNat_tdiv _ _).symm
   have hle:all / g≤all:=Nat.div_le_self _ _
   have hpos:0<all / g:=Nat.div_pos (Nat.le_of_dvd (by omega) hga) hg
   have hm:all / g*d≤1073741824*1073741824:=Nat.mul_le_mul (by omega) (by omega)
   have hc:(all:Int).tdiv (g:Int)*(d:Int)=((all / g*d:Nat):Int):=by rw [ht];push_cast;rfl
   have hmp:0<all / g*d:=Nat.mul_pos hpos hp
   have W5:InI ((all:Int).tdiv (g:Int)):=by rw [ht];exact ⟨by omega,by omega⟩
   have W8:InI ((all:Int).tdiv (g:Int)*(d:Int)):=by rw [hc];exact ⟨by omega,by omega⟩
   by_cases c:1073741824<(all:Int).tdiv (g:Int)*(d:Int)
   ·exact .inr ⟨.ret,_,by simp,ZlN (by omega) hi2 hx K W5 (by omega) W8 c,.inr ⟨rfl,_,_,_,rfl⟩⟩
   ·have R:=Zkz (n:=n) (a1:=(vars:Int)) (i2_18:=i) (out2_4:=o.2) (i_18:=(all:Int)) (out_4:=o.1) (by omega) hi2 hx K W5 (by omega) W8 c ⟨by omega,by omega⟩
    rw [hc] at R c
    refine .inl ⟨all / g*d,R,by omega,by omega,fun j hj=>?_⟩
    by_cases hji:j=i
    ·subst hji;rw [hde];exact Nat.dvd_mul_left _ _
    ·refine Nat.dvd_trans (g3 j (by omega)) ?_
     obtain ⟨d2,hd2⟩:=hgd
     exact ⟨d2,by rw [hd2,←Nat.mul_assoc,Nat.div_mul_cancel hga]⟩)
  (fun all hI=>by
   obtain ⟨g1,g2,g3⟩:=hI
   exact ⟨.exit 2,_,by simp,ZjT (by omega),.inl ⟨rfl,all,rfl,g1,g2,g3⟩⟩)
theorem Zvq{o:List Int × List Int}{all:Nat}(hv:vars≤1000000)(h1:o.1.length=vars+1)(h2:o.2.length=vars+1)(h3:∀j,j<vars+1→ZbI f vars o j)(ha:all≤1073741824)(hdv:∀j,j<vars+1→(cAt f vars j).den ∣ all):
  ∃out:List Int,Zk Tryz.prog (tab (n+2)) 0 109 (Za 63) 24 VF (Wy (vars:Int) o.1 o.2 (all:Int) 0)=some (.exit 4,V3 out)∧out.length=vars+1∧∀j,j<vars+1→((out.getD j 0:Int):Rat)=(all:Rat)*cAt f vars j∧(out.getD j 0).natAbs≤1073741824*1073741824:=by
 obtain ⟨out,L,g1,g2,_⟩:=QJ (O:=tab (n+2)) (P:= Tryz.prog) (m:=0) (N:=109) (lives:=Za 63) (r:=24) (C:=VF) (exN:=.exit 4) (M:=vars+1) (enc:=fun i (out:List Int)=>Wy (vars:Int) out o.2 (all:Int) i) (out:=fun out=>V3 out)
  (fun i out=>out.length=vars+1∧(∀j,j<i→((out.getD j 0:Int):Rat)=(all:Rat)*cAt f vars j∧(out.getD j 0).natAbs≤1073741824*1073741824)∧∀j,i≤j→out.getD j 0=o.1.getD j 0)
  o.1 ⟨h1,fun j hj=>absurd hj (by omega),fun _ _=>rfl⟩ (by omega) (by simp)
  (fun i out hi hI=>by
   obtain ⟨g1,g2,g3⟩:=hI
   have hi1:i<out.length:=by omega
   have hi2:i<o.2.length:=by omega
   obtain ⟨hn,hd,hnb,hdb⟩:=h3 i hi
   have hx:=Xa hi1
   rw [g3 i (Nat.le_refl _),hn] at hx
   have hy:=Xa hi2
   rw [hd] at hy
   have hp:=(cAt f vars i).den_pos
   obtain ⟨y,hy2⟩:=hdv i hi
   have hyb:y≤all:=by rw [hy2];exact Nat.le_mul_of_pos_left _ hp
   have ht:(all:Int).tdiv ((cAt f vars i).den:Int)=(y:Int):=by
    rw [hy2];push_cast
    exact Int.mul_tdiv_cancel_left _ (by omega)
   have hb:((cAt f vars i).num*(y:Int)).natAbs≤1073741824*1073741824:=by
    rw [Int.natAbs_mul]
    exact Nat.mul_le_mul hnb (by omega)
   refine ⟨out.set i ((cAt f vars i).num*(all:Int).tdiv ((cAt f vars i).den:Int)),Zj4 (by omega) hi1 hx hi2 hy (by rw [ht];exact ⟨by omega,by omega⟩) (by omega) (by rw [ht];exact ⟨by omega,by omega⟩) ⟨by omega,by omega⟩,by rw [List.length_set];exact g1,fun j hj=>?_,fun j hj=>?_⟩
   ·rw [JG hi1]
    by_cases hji:j=i
    ·subst hji
     rw [if_pos rfl,ht]
     refine ⟨?_,hb⟩
     have e:=ZrI (cAt f vars j)
     rw [hy2]
     push_cast
     rw [←e]
     grind
    ·rw [if_neg hji];exact g2 j (by omega)
   ·rw [JG hi1,if_neg (by omega)];exact g3 j (by omega))
  (fun out hI=>ZkH (by omega))
 exact ⟨out,L,g1,g2⟩
structure Zmg (f:Zf) (vars:Nat) (R:List Int):Prop where
 len:R.length=vars+1
 mul:∃g:Rat,0<g∧∀j,j≤vars→((R.getD j 0:Int):Rat)=g*cAt f vars j
 bd:∀j,-1073741824≤R.getD j 0∧R.getD j 0≤1073741824
theorem Zrr(hl:f.1.length≤100000000)(hv:vars≤900000):∃(R:List Int) (ok:Bool),run (n+2) 63 [Ze f,.lit (.int .i64 (vars:Int))]=some (.tup [.sl 1 (R.map ZG),.lit (.bool ok)])∧(ok=true→Zmg f vars R):=by
 have W1:InI ((vars:Int)+1):=⟨by omega,by omega⟩
 obtain ⟨ex,t,L4,h4⟩:=ZxY (n:=n) (f:=f) (vars:=vars) hl (by omega)
 rcases h4 with ⟨rfl,o,rfl,h1,h2,h3⟩|⟨rfl,o,rfl⟩
 ·obtain ⟨ex,t,L18,h18⟩:=Zvu (n:=n) (f:=f) (vars:=vars) (o:=o) (by omega) h2 h3
  rcases h18 with ⟨rfl,all,rfl,a1,a2,a3⟩|⟨rfl,i,r,x,rfl⟩
  ·obtain ⟨out,L24,b1,b2⟩:=Zvq (n:=n) (f:=f) (vars:=vars) (o:=o) (all:=all) (by omega) h1 h2 h3 a2 a3
   obtain ⟨ok,R,K,hR,hred⟩:=Ztu (n:=n) (c:=out) (fun x hx=>by
    obtain ⟨j,hj⟩:=List.mem_iff_getElem?.1 hx
    have hjl:=(List.getElem?_eq_some_iff.1 hj).1
    have:=(b2 j (by omega)).2
    rw [ZiY hj] at this
    omega) (by omega)
   refine ⟨R,ok,Zt4 W1 (by omega) (by omega) (by omega) L4 L18 L24 K hR,fun hok=>⟨by omega,?_,fun j=>?_⟩⟩
   ·obtain ⟨d,hd,hdi⟩:=hred hok
    have hd0:(0:Rat)<(d:Rat):=by exact_mod_cast hd
    refine ⟨(all:Rat) / (d:Rat),Uy (by exact_mod_cast (show 0<all by omega)) hd0,fun j hj=>?_⟩
    have e1:=(b2 j (by omega)).1
    rw [(hdi j).1] at e1
    push_cast at e1
    grind
   ·obtain ⟨d,hd,hdi⟩:=hred hok
    exact (hdi j).2
  ·exact ⟨[],false,ZvT W1 (by omega) (by omega) (by omega) L4 L18,fun h=>by cases h⟩
 ·exact ⟨[],false,ZvB W1 (by omega) (by omega) (by omega) L4,fun h=>by cases h⟩
end
end
section
open Go.RowKit
attribute [local irreducible] run Zp Zk exec
theorem wru{z:Int}(h0:0≤z)(h1:z<18446744073709551616):IntKind.u64.wrap z=z:=by
 rw [ZA];omega
theorem Zhn:∀k,WY k 0=0
 | 0=>rfl
 | k+1=>by rw [WY,Zhn k]
theorem ZgB:∀k x,WY k x≤k
 | 0,_=>Nat.le_refl _
 | k+1,x=>by
   rw [WY]
   have:=ZgB k (x / 2)
   omega
theorem Zvb{n x:Nat}(hx:x<18446744073709551616):run n 95 [.lit (.int .u64 (x:Int))]=some (.lit (.int .i64 ((WY 64 x:Nat):Int))):=by
 obtain ⟨ex,t,h1,h2⟩:=Q3 (O:=tab n) (P:= Tryz.prog) (m:=0) (N:=14) (lives:=Za 95) (r:=2) (C:=Ju) (M:=64) (enc:=fun _ (p:Nat × Nat)=>UN (p.1:Int) (p.2:Int))
  (fun i p=>p.2+WY (64-i) p.1=WY 64 x∧p.1<2 ^ (64-i)) (fun ex t=>ex=.exit 0∧t=UI ((WY 64 x:Nat):Int)) (x,0) ⟨by simp,hx⟩ (by omega)
  (fun i p hi hI=>by
   obtain ⟨y,a⟩:=p
   obtain ⟨hg,hy⟩:=hI
   dsimp only at hg hy
   have hp:=ZgB 64 x
   by_cases h0:y=0
   ·right
    subst h0
    rw [Zhn] at hg
    exact ⟨.exit 0,UI (a:Int),by simp,ZfA (by simp),rfl,by rw [←hg];rfl⟩
   ·left
    obtain ⟨k,hk⟩:∃k,64-i=k+1:=⟨63-i,by omega⟩
    have hk2:64-(i+1)=k:=by omega
    rw [hk,WY] at hg
    rw [hk,Nat.pow_succ] at hy
    have hb:y<18446744073709551616:=by
     have:2 ^ k≤2 ^ 63:=Nat.pow_le_pow_right (by omega) (by omega)
     omega
    have e1:(y:Int).tmod 2=((y % 2:Nat):Int):=(Int.ofNat_tmod y 2).symm
    have e2:(y:Int).tdiv 2=((y / 2:Nat):Int):=(Int.ofNat_tdiv y 2).symm
    have R:=Zms (n:=n) (i_2:=(y:Int)) (i2_2:=(a:Int)) (by omega) (by rw [e1];exact ⟨by omega,by omega⟩) (by rw [e1];exact ⟨by omega,by omega⟩) (by rw [e2];exact wru (by omega) (by omega))
    rw [e1,e2] at R
    refine ⟨(y / 2,a+y % 2),R,?_,?_⟩
    ·show a+y % 2+WY (64-(i+1)) (y / 2)=_
     rw [hk2];omega
    ·show y / 2<2 ^ (64-(i+1))
     rw [hk2];omega)
  (fun p hI=>by
   obtain ⟨y,a⟩:=p
   obtain ⟨hg,hy⟩:=hI
   dsimp only at hg hy
   have h0:y=0:=by simpa using hy
   subst h0
   rw [Zhn] at hg
   exact ⟨.exit 0,UI (a:Int),by simp,ZfA (by simp),rfl,by rw [←hg];rfl⟩)
 obtain ⟨rfl,rfl⟩:=h2
 exact Zuc h1
structure TrB (N:Nat) (r:ZC):Prop where
 len:r.c.length=N
 bd:∀j,-1073741824≤r.c.getD j 0∧r.c.getD j 0≤1073741824
 f0:0≤r.from_
 f1:r.from_<18446744073709551616
def kr(r:ZC):ZbT:=(fun u=>((r.c.getD u 0:Int):Rat),r.from_.toNat)
theorem KX{n N v:Nat}{l:List ZC}(hT:∀r∈l,TrB N r)(hv:v<N)(hl:l.length≤100000000):∃z:Nat,run n 64 [.sl 2 (l.map Ye),.lit (.int .i64 (v:Int))]=some (.lit (.int .i64 (z:Int))):=by
 obtain ⟨b,L,h1,h2⟩:=QJ (O:=tab n) (P:= Tryz.prog) (m:=0) (N:=39) (lives:=Za 64) (r:=3) (C:=Vi) (exN:=.exit 0) (M:=l.length) (enc:=fun i (b:Nat × Nat)=>Xr l (v:Int) b.1 b.2 i) (out:=fun b=>Zaf b.1 b.2)
  (fun i b=>b.1≤i∧b.2≤i) (0,0) ⟨by omega,by omega⟩ (by omega) (by simp)
  (fun i b hi hI=>by
   obtain ⟨g1,g2⟩:=hI
   have hx:l[i]?=some l[i]:=List.getElem?_eq_getElem hi
   obtain ⟨r,hr⟩:∃r,l[i]=r:=⟨_,rfl⟩
   rw [hr] at hx
   have hrT:=hT r (List.mem_of_getElem? hx)
   have hc:r.c[(v:Int).toNat]?=some (r.c.getD v 0):=Xa (by rw [hrT.len];exact hv)
   have W:InI ((i:Int)+1):=⟨by omega,by omega⟩
   by_cases c1:0<r.c.getD v 0
   ·exact ⟨(b.1+1,b.2),Zpl (by omega) hx hc (by omega) c1 ⟨by omega,by omega⟩ (by omega) W,by show b.1+1≤_;omega,by show b.2≤_;omega⟩
   ·by_cases c2:r.c.getD v 0<0
    ·exact ⟨(b.1,b.2+1),Zoh (by omega) hx hc (by omega) c1 c2 ⟨by omega,by omega⟩ W,by show b.1≤_;omega,by show b.2+1≤_;omega⟩
    ·exact ⟨b,ZpS (by omega) hx hc (by omega) c1 c2 W,by omega,by omega⟩)
  (fun b _=>ZmI (by omega))
 have h3:b.1*b.2≤100000000*100000000:=Nat.mul_le_mul (by omega) (by omega)
 have e:(b.1:Int)*(b.2:Int)=((b.1*b.2:Nat):Int):=by push_cast;rfl
 have R:=Zwr (n:=n) (a0:=l) (a1:=(v:Int)) L (by rw [e];exact ⟨by omega,by omega⟩)
 rw [e] at R
 exact ⟨_,R⟩
theorem Ztl{a b:Int}(ha:-1073741824≤a∧a≤1073741824)(hb:-1073741824≤b∧b≤1073741824):-1152921504606846976≤a*b∧a*b≤1152921504606846976:=by
 have h:(a*b).natAbs≤1073741824*1073741824:=by
  rw [Int.natAbs_mul]
  exact Nat.mul_le_mul (by omega) (by omega)
 omega
def Zc9(l:List ZC)(N v:Nat)(r:ZC):Prop:=TrB N r∧((r∈l∧r.c.getD v 0=0)∨∃p∈l,∃q∈l,0<p.c.getD v 0∧q.c.getD v 0<0∧r.from_.toNat=p.from_.toNat ||| q.from_.toNat∧∃g:Rat,0<g∧∀u,u<N→((r.c.getD u 0:Int):Rat)=g*((p.c.getD u 0:Int)*(-(q.c.getD v 0:Int))+(q.c.getD u 0:Int)*(p.c.getD v 0:Int)))
section
variable {n N v k : Nat} {l : List ZC}
theorem Zyb(hT:∀r∈l,TrB N r)(hv:v<N)(hl:l.length≤9000):∃out:List ZC,Zk Tryz.prog (tab (n+2)) 0 157 (Za 65) 3 Vn (Xu l (v:Int) (k:Int) [] 0)=some (.exit 0,Uw l (v:Int) (k:Int) out)∧out.length≤l.length∧(∀r∈out,r∈l∧r.c.getD v 0=0)∧∀j,j<l.length→∀r,l[j]?=some r→r.c.getD v 0=0→r∈out:=
 QJ (O:=tab (n+2)) (P:= Tryz.prog) (m:=0) (N:=157) (lives:=Za 65) (r:=3) (C:=Vn) (exN:=.exit 0) (M:=l.length) (enc:=fun i (out:List ZC)=>Xu l (v:Int) (k:Int) out i) (out:=fun out=>Uw l (v:Int) (k:Int) out)
  (fun i out=>out.length≤i∧(∀r∈out,r∈l∧r.c.getD v 0=0)∧∀j,j<i→∀r,l[j]?=some r→r.c.getD v 0=0→r∈out) [] ⟨by simp,by simp,fun j hj=>absurd hj (by omega)⟩ (by omega) (by simp)
  (fun i out hi hI=>by
   obtain ⟨g1,g2,g3⟩:=hI
   have hx:l[i]?=some l[i]:=List.getElem?_eq_getElem hi
   obtain ⟨r,hr⟩:∃r,l[i]=r:=⟨_,rfl⟩
   rw [hr] at hx
   have hm:=List.mem_of_getElem? hx
   have hrT:=hT r hm
   have hc:r.c[(v:Int).toNat]?=some (r.c.getD v 0):=Xa (by rw [hrT.len];exact hv)
   have W:InI ((i:Int)+1):=⟨by omega,by omega⟩
   by_cases c1:r.c.getD v 0=0
   ·refine ⟨out++[r],ZpX (by omega) hx hc (by omega) c1 (by omega) W,by simp;omega,fun s hs=>?_,fun j hj s hs h0=>?_⟩
    ·rcases List.mem_append.1 hs with h|h
     ·exact g2 s h
     ·rw [List.mem_singleton] at h;subst h;exact ⟨hm,c1⟩
    ·by_cases hji:j=i
     ·subst hji;rw [hx] at hs;cases hs;simp
     ·exact List.mem_append_left _ (g3 j (by omega) s hs h0)
   ·refine ⟨out,ZlS (by omega) hx hc (by omega) c1 W,by omega,g2,fun j hj s hs h0=>?_⟩
    by_cases hji:j=i
    ·subst hji;rw [hx] at hs;cases hs;exact absurd h0 c1
    ·exact g3 j (by omega) s hs h0)
  (fun out _=>ZmW (by omega))
theorem ZvA{out11:List ZC}{i8 i11:Nat}{p q:ZC}(hp:TrB N p)(hq:TrB N q)(hxp:l[i8]?=some p)(hxq:l[i11]?=some q)(hv:v<N)(hN:N≤100000):
  ∃c:List Int,Zk Tryz.prog (tab (n+2)) 0 157 (Za 65) 16 WZ (Xm l (v:Int) (k:Int) out11 i8 i11 (List.replicate p.c.length 0) 0)=some (.exit 6,Vs l (v:Int) (k:Int) out11 i8 i11 c)∧c.length=N∧∀u,u<N→c.getD u 0=p.c.getD u 0*-(q.c.getD v 0)+q.c.getD u 0*p.c.getD v 0:=
 QJ (O:=tab (n+2)) (P:= Tryz.prog) (m:=0) (N:=157) (lives:=Za 65) (r:=16) (C:=WZ) (exN:=.exit 6) (M:=N) (enc:=fun i (c:List Int)=>Xm l (v:Int) (k:Int) out11 i8 i11 c i) (out:=fun c=>Vs l (v:Int) (k:Int) out11 i8 i11 c)
  (fun i c=>c.length=N∧∀u,u<i→c.getD u 0=p.c.getD u 0*-(q.c.getD v 0)+q.c.getD u 0*p.c.getD v 0) (List.replicate p.c.length 0) ⟨by rw [List.length_replicate,hp.len],fun j hj=>absurd hj (by omega)⟩ (by omega) (by simp)
  (fun i c hi hI=>by
   obtain ⟨g1,g2⟩:=hI
   have hic:i<c.length:=by omega
   have a1:p.c[i]?=some (p.c.getD i 0):=Xa (by rw [hp.len];exact hi)
   have a2:q.c[(v:Int).toNat]?=some (q.c.getD v 0):=Xa (by rw [hq.len];exact hv)
   have a3:q.c[i]?=some (q.c.getD i 0):=Xa (by rw [hq.len];exact hi)
   have a4:p.c[(v:Int).toNat]?=some (p.c.getD v 0):=Xa (by rw [hp.len];exact hv)
   have b1:=hq.bd v
   have b2:=Ztl (hp.bd i) (b:=-(q.c.getD v 0)) ⟨by omega,by omega⟩
   have b3:=Ztl (hq.bd i) (hp.bd v)
   refine ⟨_,ZjZ (by omega) hxp a1 hxq a2 (by omega) ⟨by omega,by omega⟩ ⟨by omega,by omega⟩ a3 a4 (by omega) ⟨by omega,by omega⟩ ⟨by omega,by omega⟩ hic ⟨by omega,by omega⟩,by rw [List.length_set];exact g1,fun u hu=>?_⟩
   rw [JG hic]
   by_cases h:u=i
   ·subst h;rw [if_pos rfl]
   ·rw [if_neg h];exact g2 u (by omega))
  (fun c hI=>Zj7 (by rw [hI.1];omega))
theorem ZtG{a b:Nat}(ha:a<18446744073709551616)(hb:b<18446744073709551616):a ||| b<18446744073709551616:=Nat.or_lt_two_pow (n:=64) ha hb
theorem orD{a b:Int}(a0:0≤a)(a1:a<18446744073709551616)(b0:0≤b)(b1:b<18446744073709551616):IntKind.u64.wrap ((((a:Int) % 2 ^ IntKind.u64.bits).toNat ||| ((b:Int) % 2 ^ IntKind.u64.bits).toNat:Nat):Int)=((a.toNat ||| b.toNat:Nat):Int):=by
 have e:(2:Int) ^ IntKind.u64.bits=18446744073709551616:=rfl
 rw [e,Int.emod_eq_of_lt a0 a1,Int.emod_eq_of_lt b0 b1]
 have:=ZtG (a:=a.toNat) (b:=b.toNat) (by omega) (by omega)
 exact wru (by omega) (by omega)
theorem Zuo{out8:List ZC}{i8:Nat}{p:ZC}(hT:∀r∈l,TrB N r)(hv:v<N)(hN:N≤100000)(hl:l.length≤9000)(hk:k≤1000)(hxp:l[i8]?=some p)(ho:out8.length≤90000000)(hG:∀r∈out8,Zc9 l N v r):
  ∃ex t,Zk Tryz.prog (tab (n+2)) 0 157 (Za 65) 11 YC (Yn l (v:Int) (k:Int) out8 i8 0)=some (ex,t)∧
  ((ex=.exit 4∧∃out,t=V4 l (v:Int) (k:Int) out i8∧out.length≤out8.length+l.length∧(∀r∈out,Zc9 l N v r)∧(∀r∈out8,r∈out)∧∀j,j<l.length→∀q,l[j]?=some q→0<p.c.getD v 0→q.c.getD v 0<0→WY 64 (p.from_.toNat ||| q.from_.toNat)≤k+1→∃r∈out,r.from_.toNat=p.from_.toNat ||| q.from_.toNat)∨(ex=.ret∧∃out,t=Ul l (v:Int) (k:Int) out i8)):=
 Q3 (O:=tab (n+2)) (P:= Tryz.prog) (m:=0) (N:=157) (lives:=Za 65) (r:=11) (C:=YC) (M:=l.length) (enc:=fun i (out:List ZC)=>Yn l (v:Int) (k:Int) out i8 i)
  (fun i out=>out.length≤out8.length+i∧(∀r∈out,Zc9 l N v r)∧(∀r∈out8,r∈out)∧∀j,j<i→∀q,l[j]?=some q→0<p.c.getD v 0→q.c.getD v 0<0→WY 64 (p.from_.toNat ||| q.from_.toNat)≤k+1→∃r∈out,r.from_.toNat=p.from_.toNat ||| q.from_.toNat)
  (fun ex t=>(ex=.exit 4∧∃out,t=V4 l (v:Int) (k:Int) out i8∧out.length≤out8.length+l.length∧(∀r∈out,Zc9 l N v r)∧(∀r∈out8,r∈out)∧∀j,j<l.length→∀q,l[j]?=some q→0<p.c.getD v 0→q.c.getD v 0<0→WY 64 (p.from_.toNat ||| q.from_.toNat)≤k+1→∃r∈out,r.from_.toNat=p.from_.toNat ||| q.from_.toNat)∨(ex=.ret∧∃out,t=Ul l (v:Int) (k:Int) out i8))
  out8 ⟨by omega,hG,fun _ h=>h,fun j hj=>absurd hj (by omega)⟩ (by omega)
  (fun i out hi hI=>by
   obtain ⟨g1,g2,g3,g4⟩:=hI
   have hx:l[i]?=some l[i]:=List.getElem?_eq_getElem hi
   obtain ⟨q,hq⟩:∃q,l[i]=q:=⟨_,rfl⟩
   rw [hq] at hx
   have hmq:=List.mem_of_getElem? hx
   have hmp:=List.mem_of_getElem? hxp
   have hqT:=hT q hmq
   have hpT:=hT p hmp
   have hcq:q.c[(v:Int).toNat]?=some (q.c.getD v 0):=Xa (by rw [hqT.len];exact hv)
   have hcp:p.c[(v:Int).toNat]?=some (p.c.getD v 0):=Xa (by rw [hpT.len];exact hv)
   have W:InI ((i:Int)+1):=⟨by omega,by omega⟩
   have hz:(0:Int)≤(v:Int):=by omega
   have skip:(0<p.c.getD v 0→q.c.getD v 0<0→WY 64 (p.from_.toNat ||| q.from_.toNat)≤k+1→False)→∀j,j<i+1→∀q,l[j]?=some q→0<p.c.getD v 0→q.c.getD v 0<0→WY 64 (p.from_.toNat ||| q.from_.toNat)≤k+1→∃r∈out,r.from_.toNat=p.from_.toNat ||| q.from_.toNat:=fun h j hj s hs h1 h2 h3=>by
    by_cases hji:j=i
    ·subst hji;rw [hx] at hs;cases hs;exact (h h1 h2 h3).elim
    ·exact g4 j (by omega) s hs h1 h2 h3
   by_cases c1:p.c.getD v 0≤0
   ·exact .inl ⟨out,Zkq (by omega) hxp hcp hz c1 W,by omega,g2,g3,skip fun h1 _ _=>by omega⟩
   by_cases c2:0≤q.c.getD v 0
   ·exact .inl ⟨out,ZkA (by omega) hxp hcp hz c1 hx hcq hz c2 W,by omega,g2,g3,skip fun _ h2 _=>by omega⟩
   have D:=orD hpT.f0 hpT.f1 hqT.f0 hqT.f1
   have hlt:=ZtG (a:=p.from_.toNat) (b:=q.from_.toNat) (by have:=hpT.f0;have:=hpT.f1;omega) (by have:=hqT.f0;have:=hqT.f1;omega)
   have KB:=Zvb (n:=n+1) hlt
   by_cases c3:(k:Int)+1<((WY 64 (p.from_.toNat ||| q.from_.toNat):Nat):Int)
   ·exact .inl ⟨out,Zll (by omega) hxp hcp hz c1 hx hcq hz c2 D KB ⟨by omega,by omega⟩ c3 W,by omega,g2,g3,skip fun _ _ h3=>by omega⟩
   obtain ⟨c,L13,hcl,hcv⟩:=ZvA (n:=n) (N:=N) (v:=v) (k:=k) (l:=l) (out11:=out) (i8:=i8) (i11:=i) hpT hqT hxp hx hv hN
   have hcb:∀u,-2305843009213693952≤c.getD u 0∧c.getD u 0≤2305843009213693952:=fun u=>by
    by_cases hu:u<N
    ·rw [hcv u hu]
     have b1:=hqT.bd v
     have b2:=Ztl (hpT.bd u) (b:=-(q.c.getD v 0)) ⟨by omega,by omega⟩
     have b3:=Ztl (hqT.bd u) (hpT.bd v)
     omega
    ·rw [Zhp (by omega)];omega
   obtain ⟨ok,R,K14,hR,hred⟩:=Ztu (n:=n) (c:=c) (fun x hx9=>by
    obtain ⟨j,hj⟩:=List.mem_iff_getElem?.1 hx9
    have:=hcb j
    rw [ZiY hj] at this
    omega) (by omega)
   have M12:p.c.length≤100000000:=by rw [hpT.len];omega
   cases ok with
   | false=>exact .inr ⟨.ret,_,by simp,ZkP (by omega) hxp hcp hz c1 hx hcq hz c2 D KB ⟨by omega,by omega⟩ c3 M12 L13 K14 hR rfl,.inr ⟨rfl,_,rfl⟩⟩
   | true=>
     obtain ⟨d,hd,hdi⟩:=hred rfl
     have hd0:(0:Rat)<(d:Rat):=by exact_mod_cast hd
     refine .inl ⟨out++[⟨R,((p.from_.toNat ||| q.from_.toNat:Nat):Int)⟩],ZjX (by omega) hxp hcp hz c1 hx hcq hz c2 D KB ⟨by omega,by omega⟩ c3 M12 L13 K14 hR rfl hxp hx D (by omega) W,by simp;omega,fun r hr=>?_,fun r hr=>List.mem_append_left _ (g3 r hr),fun j hj s hs h1 h2 h3=>?_⟩
     ·rcases List.mem_append.1 hr with h|h
      ·exact g2 r h
      ·rw [List.mem_singleton] at h
       subst h
       refine ⟨⟨by show R.length=N;omega,fun j=>(hdi j).2,by show (0:Int)≤((_:Nat):Int);omega,by show ((_:Nat):Int)<_;omega⟩,.inr ⟨p,hmp,q,hmq,by omega,by omega,by show ((_:Nat):Int).toNat=_;omega,1 / (d:Rat),Uy (by decide) hd0,fun u hu=>?_⟩⟩
       have e1:=(hdi u).1
       rw [hcv u hu] at e1
       have e2:((p.c.getD u 0*-(q.c.getD v 0)+q.c.getD u 0*p.c.getD v 0:Int):Rat)=((d*R.getD u 0:Int):Rat):=by rw [e1]
       push_cast at e2
       show ((R.getD u 0:Int):Rat)=_
       rw [e2]
       grind
     ·by_cases hji:j=i
      ·subst hji;rw [hx] at hs;cases hs
       exact ⟨_,List.mem_append_right _ (List.mem_singleton.2 rfl),by show ((_:Nat):Int).toNat=_;omega⟩
      ·obtain ⟨r,hr,e⟩:=g4 j (by omega) s hs h1 h2 h3
       exact ⟨r,List.mem_append_left _ hr,e⟩)
  (fun out hI=>by
   obtain ⟨g1,g2,g3,g4⟩:=hI
   exact ⟨.exit 4,_,by simp,Zlb (by omega),.inl ⟨rfl,out,rfl,g1,g2,g3,g4⟩⟩)
theorem ZgK(hT:∀r∈l,TrB N r)(hv:v<N)(hN:N≤100000)(hl:l.length≤9000)(hk:k≤1000):
  ∃(l':List ZC) (ok:Bool),run (n+2) 65 [.sl 2 (l.map Ye),.lit (.int .i64 (v:Int)),.lit (.int .i64 (k:Int))]=some (.tup [.sl 2 (l'.map Ye),.lit (.bool ok)])∧(ok=true→(∀r∈l',TrB N r)∧l'.length≤l.length+l.length*l.length∧Zp9 N (l.map kr) v k (l'.map kr)):=by
 obtain ⟨o3,L3,a1,a2,a3⟩:=Zyb (n:=n) (k:=k) hT hv hl
 have hG0:∀r∈o3,Zc9 l N v r:=fun r hr=>⟨hT r (a2 r hr).1,.inl (a2 r hr)⟩
 obtain ⟨ex,t,L8,hQ⟩:=Q3 (O:=tab (n+2)) (P:= Tryz.prog) (m:=0) (N:=157) (lives:=Za 65) (r:=8) (C:=Qj) (M:=l.length) (enc:=fun i (out:List ZC)=>XS l (v:Int) (k:Int) out i)
  (fun i out=>out.length≤l.length+i*l.length∧(∀r∈out,Zc9 l N v r)∧(∀r∈o3,r∈out)∧∀i',i'<i→∀p,l[i']?=some p→∀q∈l,0<p.c.getD v 0→q.c.getD v 0<0→WY 64 (p.from_.toNat ||| q.from_.toNat)≤k+1→∃r∈out,r.from_.toNat=p.from_.toNat ||| q.from_.toNat)
  (fun ex t=>(ex=.exit 2∧∃out,t=JX out∧out.length≤l.length+l.length*l.length∧(∀r∈out,Zc9 l N v r)∧(∀r∈o3,r∈out)∧∀i',i'<l.length→∀p,l[i']?=some p→∀q∈l,0<p.c.getD v 0→q.c.getD v 0<0→WY 64 (p.from_.toNat ||| q.from_.toNat)≤k+1→∃r∈out,r.from_.toNat=p.from_.toNat ||| q.from_.toNat)∨(ex=.ret∧∃out,t=J0 out))
  o3 ⟨by omega,hG0,fun _ h=>h,fun j hj=>absurd hj (by omega)⟩ (by omega)
  (fun i out hi hI=>by
   obtain ⟨g1,g2,g3,g4⟩:=hI
   have hx:l[i]?=some l[i]:=List.getElem?_eq_getElem hi
   obtain ⟨p,hp⟩:∃p,l[i]=p:=⟨_,rfl⟩
   rw [hp] at hx
   have hb:i*l.length≤9000*9000:=Nat.mul_le_mul (by omega) hl
   obtain ⟨ex,t,L11,h11⟩:=Zuo (n:=n) (k:=k) (out8:=out) hT hv hN hl hk hx (by omega) g2
   rcases h11 with ⟨rfl,o2,rfl,b1,b2,b3,b4⟩|⟨rfl,o2,rfl⟩
   ·refine .inl ⟨o2,ZnQ (by omega) L11 ⟨by omega,by omega⟩,?_,b2,fun r hr=>b3 r (g3 r hr),fun i' hi' p' hp' q hq h1 h2 h3=>?_⟩
    ·rw [Nat.succ_mul];omega
    ·by_cases e:i'=i
     ·subst e;rw [hx] at hp';cases hp'
      obtain ⟨j,hj⟩:=List.mem_iff_getElem?.1 hq
      exact b4 j (List.getElem?_eq_some_iff.1 hj).1 q hj h1 h2 h3
     ·obtain ⟨r,hr,er⟩:=g4 i' (by omega) p' hp' q hq h1 h2 h3
      exact ⟨r,b3 r hr,er⟩
   ·exact .inr ⟨.ret,_,by simp,Zn0 (by omega) L11,.inr ⟨rfl,_,rfl⟩⟩)
  (fun out hI=>by
   obtain ⟨g1,g2,g3,g4⟩:=hI
   exact ⟨.exit 2,_,by simp,ZoI (by omega),.inl ⟨rfl,out,rfl,g1,g2,g3,g4⟩⟩)
 rcases hQ with ⟨rfl,out,rfl,g1,g2,g3,g4⟩|⟨rfl,out,rfl⟩
 ·refine ⟨out,true,ZvY L3 L8,fun _=>⟨fun r hr=>(g2 r hr).1,g1,⟨fun r hr=>?_,fun r hr h0=>?_,fun p hp q hq h1 h2 h3=>?_⟩⟩⟩
  ·obtain ⟨s,hs,rfl⟩:=List.mem_map.1 hr
   rcases (g2 s hs).2 with ⟨h1,h2⟩|⟨p,hp,q,hq,h1,h2,h3,g,h4,h5⟩
   ·exact .inl ⟨List.mem_map_of_mem h1,by show ((s.c.getD v 0:Int):Rat)=0;rw [h2];rfl⟩
   ·exact .inr ⟨kr p,List.mem_map_of_mem hp,kr q,List.mem_map_of_mem hq,by show (0:Rat)<((p.c.getD v 0:Int):Rat);exact_mod_cast h1,by show ((q.c.getD v 0:Int):Rat)<0;exact_mod_cast h2,h3,g,h4,h5⟩
  ·obtain ⟨s,hs,rfl⟩:=List.mem_map.1 hr
   have h1:s.c.getD v 0=0:=by
    have:((s.c.getD v 0:Int):Rat)=0:=h0
    exact_mod_cast this
   obtain ⟨j,hj⟩:=List.mem_iff_getElem?.1 hs
   exact List.mem_map_of_mem (g3 s (a3 j (List.getElem?_eq_some_iff.1 hj).1 s hj h1))
  ·obtain ⟨p',hp',rfl⟩:=List.mem_map.1 hp
   obtain ⟨q',hq',rfl⟩:=List.mem_map.1 hq
   have h1':0<p'.c.getD v 0:=by
    have:(0:Rat)<((p'.c.getD v 0:Int):Rat):=h1
    exact_mod_cast this
   have h2':q'.c.getD v 0<0:=by
    have:((q'.c.getD v 0:Int):Rat)<0:=h2
    exact_mod_cast this
   obtain ⟨i,hi⟩:=List.mem_iff_getElem?.1 hp'
   obtain ⟨r,hr,e⟩:=g4 i (List.getElem?_eq_some_iff.1 hi).1 p' hi q' hq' h1' h2' h3
   exact ⟨kr r,List.mem_map_of_mem hr,e⟩
 ·exact ⟨[],false,by simpa using ZvK L3 L8,fun h=>by cases h⟩
end
end
section
open Go.RowKit
def evS(X:List Rat):List (Int × Rat)→Rat
 | []=>0
 | t::F=>t.2*X.getD t.1.toNat 0+evS X F
theorem Jh(X:List Rat):∀(F G:List (Int × Rat)),evS X (F++G)=evS X F+evS X G
 | [],G=>by rw [List.nil_append,evS];grind
 | t::F,G=>by rw [List.cons_append,evS,Jh X F G,evS];grind
theorem KP(X:List Rat)(v:Int)(q:Rat):evS X (Z4 v q)=q*X.getD v.toNat 0:=by
 unfold Z4
 split
 ·rename_i h;rw [h,evS];grind
 ·rw [evS,evS];grind
theorem ZgX{X:List Rat}{v:Int}{c:Rat}:∀{F:List (Int × Rat)},Srt F→evS X (ZZ false F v c)=evS X F+c*X.getD v.toNat 0
 | [],_=>by
   have e:ZZ false [] v c=Z4 v c:=rfl
   rw [e,KP,evS];grind
 | t::F,h=>by
   have hd:=h.head
   rcases Int.lt_trichotomy t.1 v with h1|h1|h1
   ·rw [Zdl (by omega) (.inr h1),Jh,KP,ZgX h.tail,evS];grind
   ·rw [Zg9 h1,Ja (by rw [←h1];exact hd) h.tail.2,Jh,KP,evS,h1];grind
   ·rw [Zg1 h1,Ja (hd.mono (by omega)) h.tail.2,Jh,Jh,KP,KP,evS];grind
theorem Zim{X:List Rat}:∀{G F:List (Int × Rat)},Srt F→Srt G→evS X (X7 F G)=evS X F+evS X G
 | [],F,_,_=>by
   have e:X7 F []=F:=rfl
   rw [e,evS];grind
 | t::G,F,hf,hg=>by
   have e:X7 F (t::G)=X7 (ZZ false F t.1 t.2) G:=rfl
   rw [e,Zim (Zcp hf).1 hg.tail,ZgX hf,evS];grind
theorem ZbY(X:List Rat)(c:Rat):∀(F:List (Int × Rat)),evS X (Yf F c)=evS X F*c
 | []=>by
   have e:Yf [] c=[]:=rfl
   rw [e,evS];grind
 | t::F=>by
   have e:Yf (t::F) c=Z4 t.1 (t.2*c)++Yf F c:=rfl
   rw [e,Jh,KP,ZbY X c F,evS];grind
def InR(k:Nat)(F:List (Int × Rat)):Prop:=∀t∈F,0≤t.1∧t.1<(k:Int)
theorem InR.app{k:Nat}{F G:List (Int × Rat)}(h:InR k F)(g:InR k G):InR k (F++G):=fun t ht=>(List.mem_append.1 ht).elim (h t) (g t)
theorem InR.put{k:Nat}{v:Int}{q:Rat}(h:0≤v∧v<(k:Int)):InR k (Z4 v q):=fun t ht=>by
 obtain ⟨rfl,_⟩:=Zaq ht
 exact h
theorem InR.plus{k:Nat}{v:Int}{c:Rat}(hv:0≤v∧v<(k:Int)):∀{d:Bool} {F:List (Int × Rat)},InR k F→InR k (ZZ d F v c)
 | d,[],_=>by
   rw [ZZ]
   split
   ·exact fun t ht=>by cases ht
   ·exact InR.put hv
 | d,t::F,h=>by
   have ht:0≤t.1∧t.1<(k:Int):=h t (by simp)
   have hF:InR k F:=fun u hu=>h u (by simp [hu])
   rw [ZZ]
   split
   ·exact (InR.put ht).app (InR.plus hv hF)
   ·split
    ·exact (InR.put hv).app ((InR.put ht).app (InR.plus hv hF))
    ·exact (InR.put ht).app (InR.plus hv hF)
theorem InR.add{k:Nat}:∀{G F:List (Int × Rat)},InR k F→InR k G→InR k (X7 F G)
 | [],F,h,_=>h
 | t::G,F,h,g=>by
   have e:X7 F (t::G)=X7 (ZZ false F t.1 t.2) G:=rfl
   rw [e]
   exact InR.add (InR.plus (g t (by simp)) h) fun u hu=>g u (by simp [hu])
theorem InR.scl{k:Nat}{c:Rat}{F:List (Int × Rat)}(h:InR k F):InR k (Yf F c):=fun t ht=>by
 simp only [Yf,List.mem_flatMap] at ht
 obtain ⟨u,hu,h1⟩:=ht
 obtain ⟨rfl,_⟩:=Zaq h1
 exact h u hu
theorem TmB.add{b:Nat}:∀{G F:List (Int × Rat)} {m:Nat},TmB m F→TmB b G→TmB (m+(b+1)*G.length) (X7 F G)
 | [],F,m,h,_=>h
 | t::G,F,m,h,g=>by
   have e:X7 F (t::G)=X7 (ZZ false F t.1 t.2) G:=rfl
   rw [e]
   refine (TmB.add (TmB.plus (g t (by simp)).2 h) fun u hu=>g u (by simp [hu])).mono ?_
   rw [List.length_cons,Nat.mul_add]
   omega
theorem Zgj:∀(G F:List (Int × Rat)),(X7 F G).length≤F.length+G.length
 | [],F=>by have e:X7 F []=F:=rfl;rw [e];simp
 | t::G,F=>by
   have e:X7 F (t::G)=X7 (ZZ false F t.1 t.2) G:=rfl
   have h1:=Zgj G (ZZ false F t.1 t.2)
   have h2:=Uj false F t.1 t.2
   rw [e,List.length_cons]
   omega
theorem TmB.scl{m b:Nat}{c:Rat}{F:List (Int × Rat)}(h:TmB m F)(hc:H c≤b):TmB (m+b) (Yf F c):=fun t ht=>by
 simp only [Yf,List.mem_flatMap] at ht
 obtain ⟨u,hu,h1⟩:=ht
 obtain ⟨rfl,h2⟩:=Zaq h1
 have h3:=UX u.2 c
 have h4:=(h u hu).2
 exact ⟨h2,by dsimp only;omega⟩
end
section
open Go.RowKit
def sgQ(q:Rat):Rat:=if 0<q then 1 else if q<0 then -1 else 0
def Qt(q:Rat):Rat:=if q<0 then -q else q
theorem WB{q:Rat}(h:q≠0):0<Qt q:=by
 unfold Qt
 split <;>grind
def Zs(f:Zf):Zf:=match f.1 with
 | []=>([],sgQ f.2)
 | t::_=>(Yf f.1 (1 / Qt t.2),f.2*(1 / Qt t.2))
theorem Zah{c:Rat}(h:0<c):0<1 / c:=by
 rw [Rat.div_def,Rat.one_mul]
 exact Rat.inv_pos.2 h
theorem Zet{x c:Rat}(h:0<c):(0<x*c↔0<x)∧(x*c<0↔x<0):=by
 refine ⟨⟨fun hx=>?_,fun hx=>Rat.mul_pos hx h⟩,⟨fun hx=>?_,fun hx=>?_⟩⟩
 ·false_or_by_contra
  have h0:0≤-x:=by grind
  have:=Rat.mul_nonneg h0 (show 0≤c by grind)
  grind
 ·false_or_by_contra
  have h0:0≤x:=by grind
  have:=Rat.mul_nonneg h0 (show 0≤c by grind)
  grind
 ·have:=Rat.mul_pos (show 0 < -x by grind) h
  grind
theorem ZhR{v:Int}{q:Rat}(h:q≠0):Z4 v q=[(v,q)]:=by
 unfold Z4
 rw [if_neg h]
theorem ZeY{c:Rat}(hc:c≠0):∀{F:List (Int × Rat)},(∀t∈F,t.2≠0)→Yf F c=F.map fun t=>(t.1,t.2*c)
 | [],_=>rfl
 | t::F,h=>by
   have e:Yf (t::F) c=Z4 t.1 (t.2*c)++Yf F c:=rfl
   have h1:=h t List.mem_cons_self
   have h2:t.2*c≠0:=fun h0=>by
    rcases Rat.mul_eq_zero.1 h0 with h3|h3
    ·exact h1 h3
    ·exact hc h3
   rw [e,ZhR h2,ZeY hc fun u hu=>h u (List.mem_cons_of_mem _ hu)]
   rfl
theorem ZeZ{f:Zf}{k:Nat}(h:∀t∈f.1,t.2≠0):InR k (Zs f).1↔InR k f.1:=by
 obtain ⟨F,q⟩:=f
 cases F with
 | nil=>exact Iff.rfl
 | cons t F=>
   have hp:=Zah (WB (h t List.mem_cons_self))
   have e:(Zs (t::F,q)).1=(t::F).map fun u=>(u.1,u.2*(1 / Qt t.2)):=ZeY (fun e=>by rw [e] at hp;exact absurd hp (by decide)) h
   rw [e]
   unfold InR
   constructor
   ·intro h1 u hu
    exact h1 (u.1,u.2*(1 / Qt t.2)) (List.mem_map.2 ⟨u,hu,rfl⟩)
   ·intro h1 u hu
    obtain ⟨w,hw,rfl⟩:=List.mem_map.1 hu
    exact h1 w hw
theorem ZpN(X:List Rat)(f:Zf)(h:∀t∈f.1,t.2≠0):(0<(Zs f).2+evS X (Zs f).1↔0<f.2+evS X f.1)∧((Zs f).2+evS X (Zs f).1<0↔f.2+evS X f.1<0):=by
 obtain ⟨F,q⟩:=f
 cases F with
 | nil=>
   have e:Zs (([],q):Zf)=([],sgQ q):=rfl
   rw [e]
   show (0<sgQ q+0↔0<q+0)∧(sgQ q+0<0↔q+0<0)
   unfold sgQ
   by_cases h1:0<q
   ·rw [if_pos h1];grind
   ·by_cases h2:q<0
    ·rw [if_neg h1,if_pos h2];grind
    ·rw [if_neg h1,if_neg h2];grind
 | cons t F=>
   have hp:=Zah (WB (h t List.mem_cons_self))
   have e:Zs ((t::F,q):Zf)=(Yf (t::F) (1 / Qt t.2),q*(1 / Qt t.2)):=rfl
   rw [e]
   dsimp only
   rw [ZbY]
   generalize 1 / Qt t.2=c at hp
   generalize evS X (t::F)=s
   have e2:q*c+s*c=(q+s)*c:=by grind
   rw [e2]
   exact Zet hp
end
end Go.Proofs.YtdaonnnlgfhlaaaGreatDoor
