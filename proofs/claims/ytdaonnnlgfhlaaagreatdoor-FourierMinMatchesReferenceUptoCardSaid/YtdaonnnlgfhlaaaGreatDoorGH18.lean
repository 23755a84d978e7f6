import Derived.Test.YtdaonnnlgfhlaaaGreatDoorGH17
import Derived.Test.YtdaonnnlgfhlaaaGreatDoorGH16
import Derived.Lib.ItoaNum
import Derived.Lib.Repeat
import Derived.Lib.Join
set_option linter.all false
set_option maxHeartbeats 6400000
set_option maxRecDepth 100000
namespace Go.Proofs.YtdaonnnlgfhlaaaGreatDoor
open Go.RowKit
theorem Zgx{X:List Rat}{v:Nat}{x:Rat}(hv:v<X.length):∀{F:List (Int × Rat)},Srt F→(∀t∈F,0≤t.1)→evS (X.set v x) F=evS X F+cof F (v:Int)*(x-X.getD v 0)
 | [],_,_=>by rw [evS,evS,YO];grind
 | t::F,h,h0=>by
   have ht:=h0 t List.mem_cons_self
   have ih:=Zgx (x:=x) hv h.tail fun u hu=>h0 u (List.mem_cons_of_mem _ hu)
   rw [evS,evS,ih]
   by_cases e:t.1=(v:Int)
   ·have hc:cof F (v:Int)=0:=Vn fun u hu=>by
     have:=h.head u hu
     omega
    have e2:t.1.toNat=v:=by omega
    rw [YZ e.symm,hc,e2]
    have e3:(X.set v x).getD v 0=x:=by simp [List.getD,hv]
    rw [e3]
    grind
   ·rw [QS (fun x=>e x.symm)]
    have e3:(X.set v x).getD t.1.toNat 0=X.getD t.1.toNat 0:=by
     simp only [List.getD]
     rw [List.getElem?_set_ne (by omega)]
    rw [e3]
    grind
theorem Zq1{X:List Rat}{v:Nat}{x:Rat}{f:Zf}(hv:v<X.length)(hs:Srt f.1)(hi:InR X.length f.1):Xn (X.set v x) f=ZdA X v f+cof f.1 (v:Int)*x:=by
 rw [Zg4 hv hs hi]
 unfold Xn
 rw [Zgx hv hs fun t ht=>(hi t ht).1]
 grind
theorem Zka(X:List Rat)(v:Nat):∀R:List Zf,∃ok low high lo hi,BdI X v R.reverse ok low high lo hi
 | []=>⟨_,_,_,0,0,BdI.nil X v 0 0⟩
 | f::R=>by
   obtain ⟨ok,low,high,lo,hi,I⟩:=Zka X v R
   rw [List.reverse_cons]
   by_cases h0:cof f.1 (v:Int)=0
   ·exact ⟨_,_,_,_,_,I.zero h0⟩
   by_cases h1:0<cof f.1 (v:Int)
   ·by_cases h2:low=false∨lo<bdX X v f
    ·exact ⟨_,_,_,_,_,I.up h1 (.inl ⟨h2,rfl⟩)⟩
    ·have hl:low=true:=by
      cases low with
      | true=>rfl
      | false=>exact absurd (.inl rfl) h2
     exact ⟨_,_,_,_,_,I.up h1 (.inr ⟨hl,by have:=fun x=>h2 (.inr x);grind,rfl⟩)⟩
   ·have h3:cof f.1 (v:Int)<0:=by grind
    by_cases h2:high=false∨bdX X v f<hi
    ·exact ⟨_,_,_,_,_,I.down h3 (.inl ⟨h2,rfl⟩)⟩
    ·have hl:high=true:=by
      cases high with
      | true=>rfl
      | false=>exact absurd (.inl rfl) h2
     exact ⟨_,_,_,_,_,I.down h3 (.inr ⟨hl,by have:=fun x=>h2 (.inr x);grind,rfl⟩)⟩
theorem Zy2{a r x:Rat}(ha:0<a)(h:-r / a≤x):0≤r+a*x:=by
 have h1:-r / a*a=-r:=Rat.div_mul_cancel (by grind)
 generalize -r / a=y at h1 h
 have:=Rat.mul_nonneg (show 0≤x-y by grind) (show 0≤a by grind)
 grind
theorem Zs3{b r x:Rat}(hb:b<0)(h:x≤-r / b):0≤r+b*x:=by
 have h1:-r / b*b=-r:=Rat.div_mul_cancel (by grind)
 generalize -r / b=y at h1 h
 have:=Rat.mul_nonneg (show 0≤y-x by grind) (show 0≤-b by grind)
 grind
theorem ZmK{X:List Rat}{v:Nat}{rows:List Zf}(hv:v<X.length)(h:∀f∈rows,Srt f.1∧InR X.length f.1)(s:KQ X (Qh (v:Int) rows)):∃x,KQ (X.set v x) rows:=by
 obtain ⟨ok,low,high,lo,hi,I⟩:=Zka X v rows.reverse
 rw [List.reverse_reverse] at I
 obtain ⟨h1,h2⟩:=(Zp2 hv h I).1 s
 have key:∃x,(low=true→lo≤x)∧(high=true→x≤hi):=by
  cases hl:low with
  | true=>
    refine ⟨lo,fun _=>Rat.le_refl,fun hh=>?_⟩
    rcases h2 with h2|h2|h2
    ·rw [hl] at h2;cases h2
    ·rw [hh] at h2;cases h2
    ·exact h2
  | false=>exact ⟨hi,fun x=>(by cases x),fun _=>Rat.le_refl⟩
 obtain ⟨x,k1,k2⟩:=key
 refine ⟨x,fun f hf=>⟨by rw [List.length_set];exact (h f hf).2,?_⟩⟩
 rw [Zq1 hv (h f hf).1 (h f hf).2]
 by_cases c0:cof f.1 (v:Int)=0
 ·rw [c0]
  have:=I.okI.1 h1 f hf c0
  grind
 by_cases c1:0<cof f.1 (v:Int)
 ·have hl:=I.lowI.2 ⟨f,hf,c1⟩
  have a:=(I.loI hl).2 f hf c1
  have b:=k1 hl
  exact Zy2 c1 (Rat.le_trans a b)
 ·have c2:cof f.1 (v:Int)<0:=by grind
  have hl:=I.highI.2 ⟨f,hf,c2⟩
  have a:=(I.hiI hl).2 f hf c2
  have b:=k2 hl
  exact Zs3 c2 (Rat.le_trans b a)
theorem ZaA{v:Int}{R:List Zf}{n:Zf}(h:n∈Qh v R):∃f∈Zck v R,n=Zv f:=by
 have e:Qh v R=(nrm (Zck v R)).foldl Vf []:=XV _ _
 rw [e,Za5] at h
 rcases h with h|h
 ·cases h
 ·unfold nrm at h
  obtain ⟨f,hf,rfl⟩:=List.mem_map.1 (List.mem_filter.1 h).1
  exact ⟨f,hf,rfl⟩
theorem ZjI{v:Int}{R:List Zf}(h:∀f∈R,Srt f.1):∀f∈Zck v R,Srt f.1∧cof f.1 v=0:=fun e he=>by
 rcases List.mem_append.1 he with h1|h1
 ·obtain ⟨h2,h3⟩:=List.mem_filter.1 h1
  exact ⟨h e h2,of_decide_eq_true h3⟩
 ·obtain ⟨f,h2,h3⟩:=List.mem_flatMap.1 h1
  obtain ⟨g,h4,rfl⟩:=List.mem_map.1 h3
  have hf:=h f (List.mem_filter.1 h2).1
  have hg:=h g (List.mem_filter.1 h4).1
  obtain ⟨a,b⟩:=WX (v:=v) hf hg
  exact ⟨a,by rw [b];grind⟩
theorem Zgy{v:Int}{R:List Zf}(h:∀f∈R,Srt f.1):∀f∈Qh v R,Srt f.1∧cof f.1 v=0:=fun n hn=>by
 obtain ⟨f,hf,rfl⟩:=ZaA hn
 obtain ⟨a,b⟩:=ZjI h f hf
 exact ⟨X9 a,(UI a v).2.2.2 b⟩
theorem Zzt{z u d n:Nat}(hn:z+u+d=n)(h4:4≤n):4*(z+u*d)≤n*n:=by
 have hz:(0:Int)≤(n:Int)-(u+d):=by omega
 have h1:(0:Int)≤((n:Int)-(u+d))*((n:Int)+(u+d)-4):=Int.mul_nonneg hz (by omega)
 have h2:(0:Int)≤((u:Int)-d)*((u:Int)-d):=by
  rcases Int.le_total 0 ((u:Int)-d) with h|h
  ·exact Int.mul_nonneg h h
  ·exact Int.mul_nonneg_of_nonpos_of_nonpos h h
 have hz2:(z:Int)=n-(u+d):=by omega
 have:(4:Int)*(z+u*d)≤n*n:=by
  rw [hz2]
  grind
 exact_mod_cast this
theorem ZhE{α:Type}[DecidableEq α]:∀(E l:List α),(E.foldl Vf l).length≤l.length+E.length
 | [],l=>Nat.le_refl _
 | x::E,l=>by
   have h1:=ZhE E (Vf l x)
   have h2:(Vf l x).length≤l.length+1:=by
    unfold Vf
    split
    ·omega
    ·rw [List.length_append,List.length_singleton];omega
   rw [List.foldl_cons,List.length_cons]
   omega
theorem ZcN(v:Int):∀R:List Zf,(Q6 v R).length+(upL v R).length+(Q0 v R).length=R.length
 | []=>rfl
 | f::R=>by
   have ih:=ZcN v R
   by_cases h0:cof f.1 v=0
   ·rw [ZbQ h0,Zbu (by rw [h0];decide),Um (by rw [h0];decide),List.length_cons,List.length_cons];omega
   ·by_cases h1:0<cof f.1 v
    ·rw [Jj h0,Zfx h1,Um (by grind),List.length_cons,List.length_cons];omega
    ·rw [Jj h0,Zbu h1,ZbE (by grind),List.length_cons,List.length_cons];omega
theorem ZpO(v:Int)(R:List Zf):(Qh v R).length≤(Q6 v R).length+(upL v R).length*(Q0 v R).length:=by
 have e:Qh v R=(nrm (Zck v R)).foldl Vf []:=XV _ _
 have h1:=ZhE (nrm (Zck v R)) []
 have h2:(nrm (Zck v R)).length≤(Zck v R).length:=by
  unfold nrm
  exact Nat.le_trans (List.length_filter_le _ _) (by rw [List.length_map];exact Nat.le_refl _)
 have h3:∀U:List Zf,(U.flatMap fun f=>(Q0 v R).map (YC v f)).length=U.length*(Q0 v R).length:=fun U=>by
  induction U with
  | nil=>simp
  | cons f U ih=>rw [List.flatMap_cons,List.length_append,ih,List.length_map,List.length_cons,Nat.succ_mul];omega
 have h4:(Zck v R).length=(Q6 v R).length+(upL v R).length*(Q0 v R).length:=by
  unfold Zck
  rw [List.length_append,h3]
 rw [e]
 simp only [List.length_nil] at h1
 omega
theorem Zk5{v:Int}{R:List Zf}{n:Nat}(hn:R.length≤n)(h4:4≤n):4*(Qh v R).length≤n*n:=by
 have h1:=ZpO v R
 have h2:=ZcN v R
 have h3:=Zzt (z:=(Q6 v R).length+(n-R.length)) (u:=(upL v R).length) (d:=(Q0 v R).length) (n:=n) (by omega) h4
 generalize (upL v R).length*(Q0 v R).length=p at h1 h3
 generalize n*n=q at h3 ⊢
 omega
def Qp:Nat→List Zf→List Zf
 | 0,R=>R
 | n+1,R=>Qh (n:Int) (Qp n R)
def Zb0(n:Nat)(R:List Zf):List Zf:=(Qp n R).foldl ZU []
def Zb2(n:Nat)(R:List Zf):List Zf:=Qp n (R.foldl ZU [])
structure Cln (L:List Zf):Prop where
 s:∀f∈L,Srt f.1
 n:∀f∈L,Zv f=f
 t:∀f∈L,VY f=false
 d:ddF L=L
theorem Zth{α:Type}[DecidableEq α](E:List α):ddF (ddF E)=ddF E:=by
 have key:∀R:List α,ddF (ddF R.reverse)=ddF R.reverse:=fun R=>by
  induction R with
  | nil=>rfl
  | cons x R ih=>
    rw [List.reverse_cons,ZcK]
    split
    ·exact ih
    ·rename_i h
     rw [ZcK,ih,if_neg h]
 have:=key E.reverse
 rwa [List.reverse_reverse] at this
theorem Zol:∀{L:List Zf},(∀f∈L,Zv f=f)→(∀f∈L,VY f=false)→nrm L=L
 | [],_,_=>rfl
 | f::L,h1,h2=>by
   have e:nz f=[f]:=by
    unfold nz
    rw [h1 f List.mem_cons_self,h2 f List.mem_cons_self]
    rfl
   rw [Ur,e,Zol (fun g hg=>h1 g (List.mem_cons_of_mem _ hg)) fun g hg=>h2 g (List.mem_cons_of_mem _ hg)]
   rfl
theorem Cln.col{L:List Zf}(h:Cln L):L.foldl ZU []=L:=by
 rw [XV,Zol h.n h.t]
 exact h.d
theorem Zfs{R:List Zf}(h:∀f∈R,Srt f.1):Cln (R.foldl ZU []):=by
 have e:R.foldl ZU []=ddF (nrm R):=XV R []
 have hm:∀n∈R.foldl ZU [],∃f∈R,n=Zv f∧VY n=false:=fun n hn=>by
  rw [e,ZfY] at hn
  unfold nrm at hn
  obtain ⟨h1,h2⟩:=List.mem_filter.1 hn
  obtain ⟨f,hf,rfl⟩:=List.mem_map.1 h1
  exact ⟨f,hf,rfl,by simpa using h2⟩
 refine ⟨fun n hn=>?_,fun n hn=>?_,fun n hn=>?_,?_⟩
 ·obtain ⟨f,hf,rfl,_⟩:=hm n hn;exact X9 (h f hf)
 ·obtain ⟨f,hf,rfl,_⟩:=hm n hn;exact Jm (h f hf)
 ·obtain ⟨f,hf,rfl,h3⟩:=hm n hn;exact h3
 ·rw [e,Zth]
theorem Zhx{v:Int}{R:List Zf}(h:∀f∈R,Srt f.1):Cln (Qh v R):=Zfs fun f hf=>(ZjI h f hf).1
theorem Ua:∀(n:Nat) {R:List Zf},(∀f∈R,Srt f.1)→∀f∈Qp n R,Srt f.1
 | 0,_,h=>h
 | n+1,_,h=>fun f hf=>(Zgy (Ua n h) f hf).1
theorem ZsB{n:Nat}{R:List Zf}(h:∀f∈R,Srt f.1):Zb0 n R=Zb2 n R:=by
 unfold Zb0 Zb2
 cases n with
 | zero=>rfl
 | succ n=>
   rw [show Qp (n+1) R=Qh (n:Int) (Qp n R) from rfl,(Zhx (Ua n h)).col]
   have key:∀n,Qp (n+1) (R.foldl ZU [])=Qp (n+1) R:=fun n=>by
    induction n with
    | zero=>exact Zo1 h
    | succ n ih=>
      show Qh _ (Qp (n+1) (R.foldl ZU []))=Qh _ (Qp (n+1) R)
      rw [ih]
   exact (key n).symm
theorem ZiY{k:Nat}{v:Int}{R:List Zf}(h:∀f∈R,Srt f.1∧InR k f.1):∀f∈Qh v R,Srt f.1∧InR k f.1:=fun n hn=>by
 obtain ⟨e,he,rfl⟩:=ZaA hn
 have hs:Srt e.1∧InR k e.1:=by
  rcases List.mem_append.1 he with h1|h1
  ·exact h e (List.mem_filter.1 h1).1
  ·obtain ⟨f,h2,h3⟩:=List.mem_flatMap.1 h1
   obtain ⟨g,h4,rfl⟩:=List.mem_map.1 h3
   have hf:=h f (List.mem_filter.1 h2).1
   have hg:=h g (List.mem_filter.1 h4).1
   exact ⟨(WX hf.1 hg.1).1,Zja hf.2 hg.2⟩
 exact ⟨X9 hs.1,(Zbd hs.1.2).2 hs.2⟩
theorem Zl2{u v:Int}{R:List Zf}(hs:∀f∈R,Srt f.1)(h:∀f∈R,cof f.1 u=0):∀f∈Qh v R,cof f.1 u=0:=fun n hn=>by
 obtain ⟨e,he,rfl⟩:=ZaA hn
 have k:Srt e.1∧cof e.1 u=0:=by
  rcases List.mem_append.1 he with h1|h1
  ·have:=(List.mem_filter.1 h1).1
   exact ⟨hs e this,h e this⟩
  ·obtain ⟨f,h2,h3⟩:=List.mem_flatMap.1 h1
   obtain ⟨g,h4,rfl⟩:=List.mem_map.1 h3
   have hf:=(List.mem_filter.1 h2).1
   have hg:=(List.mem_filter.1 h4).1
   obtain ⟨a,b⟩:=WX (v:=v) (hs f hf) (hs g hg)
   exact ⟨a,by rw [b,h f hf,h g hg];grind⟩
 exact (UI k.1 u).2.2.2 k.2
theorem Zae{k:Nat}:∀(n:Nat) {R:List Zf},(∀f∈R,Srt f.1∧InR k f.1)→∀f∈Qp n R,Srt f.1∧InR k f.1
 | 0,_,h=>h
 | n+1,_,h=>ZiY (Zae n h)
theorem ZbK:∀(n:Nat) {R:List Zf},(∀f∈R,Srt f.1)→∀f∈Qp n R,∀u:Nat,u<n→cof f.1 (u:Int)=0
 | 0,_,_=>fun f hf u hu=>by omega
 | n+1,R,h=>fun f hf u hu=>by
   by_cases e:u=n
   ·subst e
    exact (Zgy (Ua u h) f hf).2
   ·exact Zl2 (Ua n h) (fun g hg=>ZbK n h g hg u (by omega)) f hf
theorem ZmQ{X:List Rat}{v n:Nat}{x:Rat}(h:v≠n):(X.set v x).getD n 0=X.getD n 0:=by
 simp only [List.getD]
 rw [List.getElem?_set_ne h]
theorem ZdP{k n:Nat}{t:Rat}(hk:n<k):∀(m:Nat),m≤n→∀{R:List Zf},(∀f∈R,Srt f.1∧InR k f.1)→
  ((∃X:List Rat,X.length=k∧X.getD n 0=t∧KQ X R)↔∃X:List Rat,X.length=k∧X.getD n 0=t∧KQ X (Qp m R))
 | 0,_,_,_=>Iff.rfl
 | m+1,hm,R,h=>by
   rw [ZdP hk m (by omega) h]
   have hi:=Zae m h
   constructor
   ·rintro ⟨X,hX,ht,s⟩
    refine ⟨X,hX,ht,?_⟩
    have hi':∀f∈Qp m R,Srt f.1∧InR X.length f.1:=by rw [hX];exact hi
    refine (ZhR hi').2 ⟨fun f hf _=>(s f hf).2,fun f hf g hg h1 h2=>?_⟩
    have a:=Rat.mul_nonneg (s f hf).2 (show 0≤-cof g.1 (m:Int) by grind)
    have b:=Rat.mul_nonneg (s g hg).2 (show 0≤cof f.1 (m:Int) by grind)
    grind
   ·rintro ⟨X,hX,ht,s⟩
    have hi':∀f∈Qp m R,Srt f.1∧InR X.length f.1:=by rw [hX];exact hi
    obtain ⟨x,hx⟩:=ZmK (v:=m) (by omega) hi' s
    exact ⟨X.set m x,by rw [List.length_set];exact hX,by rw [ZmQ (by omega)];exact ht,hx⟩
theorem ZjA{n:Nat}{F:List (Int × Rat)}(hs:Srt F)(hi:InR (n+1) F)(h:∀u:Nat,u<n→cof F (u:Int)=0):F=[]∨∃q,q≠0∧F=[((n:Int),q)]:=by
 cases F with
 | nil=>exact .inl rfl
 | cons t F=>
   right
   have h1:=hi t List.mem_cons_self
   have hne:=hs.2 t List.mem_cons_self
   have ht:t.1=(n:Int):=by
    false_or_by_contra
    have h2:=h t.1.toNat (by omega)
    rw [YZ (by omega)] at h2
    exact hne h2
   cases F with
   | nil=>
     obtain ⟨v,q⟩:=t
     dsimp only at ht hne
     subst ht
     exact ⟨q,hne,rfl⟩
   | cons u F=>
     have h3:=hi u (by simp)
     have h4:=hs.head u List.mem_cons_self
     omega
theorem Zke{n:Nat}{X:List Rat}{f:Zf}(hs:Srt f.1)(hi:InR (n+1) f.1)(h:∀u:Nat,u<n→cof f.1 (u:Int)=0):Xn X f=f.2+cof f.1 (n:Int)*X.getD n 0:=by
 unfold Xn
 rcases ZjA hs hi h with e|⟨q,_,e⟩
 ·rw [e,evS,YO];grind
 ·rw [e,YZ rfl,evS,evS]
  have e2:((n:Int)).toNat=n:=by omega
  dsimp only
  rw [e2];grind
theorem ZtV{n:Nat}{t:Rat}{R:List Zf}(h:∀f∈R,Srt f.1∧InR (n+1) f.1):
  (∃X:List Rat,X.length=n+1∧X.getD n 0=t∧KQ X R)↔∀f∈Zb2 n R,0≤f.2+cof f.1 (n:Int)*t:=by
 have hs:∀f∈R,Srt f.1:=fun f hf=>(h f hf).1
 have hcl:=Zfs hs
 have hcol:∀f∈R.foldl ZU [],Srt f.1∧InR (n+1) f.1:=fun m hm=>by
  have e:R.foldl ZU []=ddF (nrm R):=XV R []
  rw [e,ZfY] at hm
  unfold nrm at hm
  obtain ⟨f,hf,rfl⟩:=List.mem_map.1 (List.mem_filter.1 hm).1
  exact ⟨X9 (h f hf).1,(Zbd (h f hf).1.2).2 (h f hf).2⟩
 have e1:(∃X:List Rat,X.length=n+1∧X.getD n 0=t∧KQ X R)↔∃X:List Rat,X.length=n+1∧X.getD n 0=t∧KQ X (R.foldl ZU []):=by
  have key:∀X:List Rat,X.length=n+1→(KQ X (R.foldl ZU [])↔KQ X R):=fun X hX=>by
   rw [Zde R [] fun f hf=>⟨(h f hf).1.2,by rw [hX];exact (h f hf).2⟩]
   constructor
   ·intro s f hf
    exact ⟨by rw [hX];exact (h f hf).2,s.2 f hf⟩
   ·intro s
    exact ⟨fun f hf=>(by cases hf),fun f hf=>(s f hf).2⟩
  constructor
  ·rintro ⟨X,a,b,c⟩;exact ⟨X,a,b,(key X a).2 c⟩
  ·rintro ⟨X,a,b,c⟩;exact ⟨X,a,b,(key X a).1 c⟩
 rw [e1,ZdP (k:=n+1) (by omega) n (Nat.le_refl _) hcol]
 have hi:=Zae n hcol
 have hc:=ZbK n (fun f hf=>(hcol f hf).1)
 show (∃X:List Rat,X.length=n+1∧X.getD n 0=t∧KQ X (Qp n (R.foldl ZU [])))↔∀f∈Qp n (R.foldl ZU []),_
 constructor
 ·rintro ⟨X,hX,ht,s⟩ f hf
  have:=(s f hf).2
  rw [Zke (hi f hf).1 (hi f hf).2 (hc f hf),ht] at this
  exact this
 ·intro s
  refine ⟨List.replicate n 0++[t],by simp,by simp [List.getD],fun f hf=>⟨?_,?_⟩⟩
  ·have:(List.replicate n (0:Rat)++[t]).length=n+1:=by simp
   rw [this];exact (hi f hf).2
  ·rw [Zke (hi f hf).1 (hi f hf).2 (hc f hf)]
   have:(List.replicate n (0:Rat)++[t]).getD n 0=t:=by simp [List.getD]
   rw [this]
   exact s f hf
theorem Zk1{n:Nat}{R:List Zf}(h:∀f∈R,Srt f.1∧InR (n+1) f.1):∀f∈Zb2 n R,(f.1=[]∧f.2=-1)∨f.1=[((n:Int),1)]∨f.1=[((n:Int),-1)]:=by
 have hs:∀f∈R,Srt f.1:=fun f hf=>(h f hf).1
 have hcl0:=Zfs hs
 have hcol:∀f∈R.foldl ZU [],Srt f.1∧InR (n+1) f.1:=fun m hm=>by
  have e:R.foldl ZU []=ddF (nrm R):=XV R []
  rw [e,ZfY] at hm
  unfold nrm at hm
  obtain ⟨f,hf,rfl⟩:=List.mem_map.1 (List.mem_filter.1 hm).1
  exact ⟨X9 (h f hf).1,(Zbd (h f hf).1.2).2 (h f hf).2⟩
 have hcln:Cln (Zb2 n R):=by
  unfold Zb2
  cases n with
  | zero=>exact hcl0
  | succ n=>exact Zhx (Ua n fun f hf=>(hcol f hf).1)
 intro f hf
 have hi:=Zae n hcol f hf
 have hc:=ZbK n (fun f hf=>(hcol f hf).1) f hf
 have hn:=hcln.n f hf
 have ht:=hcln.t f hf
 obtain ⟨F,c⟩:=f
 dsimp only at hi hc ⊢
 rcases ZjA hi.1 hi.2 hc with e|⟨q,hq,e⟩
 ·left
  subst e
  have e2:sgQ c=c:=congrArg Prod.snd hn
  have e3:¬0≤c:=fun h0=>by
   have:VY (([],c):Zf)=true:=decide_eq_true ⟨rfl,h0⟩
   rw [this] at ht;cases ht
  refine ⟨rfl,?_⟩
  unfold sgQ at e2
  rw [if_neg (by grind),if_pos (by grind)] at e2
  exact e2.symm
 ·right
  subst e
  have e2:Yh [((n:Int),q)] (1 / Y0 q)=[((n:Int),q)]:=congrArg Prod.fst hn
  have ha:=Wh hq
  have hp:=KR ha
  have e3:Yh [((n:Int),q)] (1 / Y0 q)=Ya (n:Int) (q*(1 / Y0 q))++[]:=rfl
  rw [e3,List.append_nil,Zfb fun h0=>by
   rcases Rat.mul_eq_zero.1 h0 with h3|h3
   ·exact hq h3
   ·rw [h3] at hp;exact absurd hp (by decide)] at e2
  have e4:q*(1 / Y0 q)=q:=by injection e2 with a;injection a
  have k1:1 / Y0 q*Y0 q=1:=Rat.div_mul_cancel (by grind)
  have e5:(1 / Y0 q-1)*q=0:=by grind
  have e6:1 / Y0 q=1:=by
   rcases Rat.mul_eq_zero.1 e5 with h3|h3
   ·grind
   ·exact absurd h3 hq
  have e7:Y0 q=1:=by rw [e6] at k1;grind
  unfold Y0 at e7
  by_cases h2:q<0
  ·rw [if_pos h2] at e7
   right;rw [show q=-1 by grind]
  ·rw [if_neg h2] at e7
   left;rw [e7]
def MinG(P:Rat→Prop)(st:Int)(v:Rat):Prop:=(st=2∧∀t,¬P t)∨(st=3∧∀B,∃t,P t∧t≤B)∨(st=1∧P v∧∀t,P t→v≤t)
theorem MinG.uniq{P:Rat→Prop}{s s':Int}{v v':Rat}(h:MinG P s v)(h':MinG P s' v'):s=s'∧(s=1→v=v'):=by
 rcases h with ⟨rfl,a⟩|⟨rfl,a⟩|⟨rfl,a,b⟩ <;>rcases h' with ⟨rfl,a'⟩|⟨rfl,a'⟩|⟨rfl,a',b'⟩
 ·exact ⟨rfl,fun h=>by cases h⟩
 ·obtain ⟨t,ht,_⟩:=a' 0;exact absurd ht (a t)
 ·exact absurd a' (a v')
 ·obtain ⟨t,ht,_⟩:=a 0;exact absurd ht (a' t)
 ·exact ⟨rfl,fun h=>by cases h⟩
 ·obtain ⟨t,ht,hl⟩:=a (v'-1)
  have:=b' t ht
  grind
 ·exact absurd a (a' v)
 ·obtain ⟨t,ht,hl⟩:=a' (v-1)
  have:=b t ht
  grind
 ·refine ⟨rfl,fun _=>?_⟩
  have h1:=b v' a'
  have h2:=b' v a
  grind
theorem MinG.congr{P Q:Rat→Prop}{s:Int}{v:Rat}(h:MinG P s v)(e:∀t,P t↔Q t):MinG Q s v:=by
 rcases h with ⟨r,a⟩|⟨r,a⟩|⟨r,a,b⟩
 ·exact .inl ⟨r,fun t ht=>a t ((e t).2 ht)⟩
 ·exact .inr (.inl ⟨r,fun B=>by obtain ⟨t,h1,h2⟩:=a B;exact ⟨t,(e t).1 h1,h2⟩⟩)
 ·exact .inr (.inr ⟨r,(e v).1 a,fun t ht=>b t ((e t).2 ht)⟩)
def Zb4(n:Nat)(L:List Zf)(t:Rat):Prop:=∀f∈L,0≤f.2+cof f.1 (n:Int)*t
theorem Zji(n:Nat):cof [((n:Int),(1:Rat))] (n:Int)=1:=YZ rfl
theorem Zjx(n:Nat):cof [((n:Int),(-1:Rat))] (n:Int)=-1:=YZ rfl
theorem ZgN{n:Nat}{L:List Zf}{f:Zf}(hf:f∈L)(h1:f.1=[])(h2:f.2=-1)(v:Rat):MinG (Zb4 n L) 2 v:=.inl ⟨rfl,fun t ht=>by
 have:=ht f hf
 rw [h1,h2,YO] at this
 have e:(-1:Rat)+0*t=-1:=by grind
 rw [e] at this
 exact absurd this (by decide)⟩
theorem Zku:∀(L:List Zf) (B:Rat),∃t,t≤B∧∀f∈L,t≤f.2
 | [],B=>⟨B,Rat.le_refl,fun f hf=>by cases hf⟩
 | f::L,B=>by
   obtain ⟨t,h1,h2⟩:=Zku L B
   by_cases h:t≤f.2
   ·exact ⟨t,h1,fun g hg=>by
     rcases List.mem_cons.1 hg with rfl|hg
     ·exact h
     ·exact h2 g hg⟩
   ·exact ⟨f.2,by grind,fun g hg=>by
     rcases List.mem_cons.1 hg with rfl|hg
     ·exact Rat.le_refl
     ·have:=h2 g hg;grind⟩
theorem ZjS{n:Nat}{L:List Zf}(h:∀f∈L,f.1=[((n:Int),-1)])(v:Rat):MinG (Zb4 n L) 3 v:=.inr (.inl ⟨rfl,fun B=>by
 obtain ⟨t,h1,h2⟩:=Zku L B
 refine ⟨t,fun f hf=>?_,h1⟩
 rw [h f hf,Zjx]
 have:=h2 f hf
 grind⟩)
theorem Zjq{n:Nat}{L:List Zf}{f g:Zf}(hf:f∈L)(hg:g∈L)(h1:f.1=[((n:Int),1)])(h2:g.1=[((n:Int),-1)])(h:g.2 < -f.2)(v:Rat):MinG (Zb4 n L) 2 v:=.inl ⟨rfl,fun t ht=>by
 have a:=ht f hf
 have b:=ht g hg
 rw [h1,Zji] at a
 rw [h2,Zjx] at b
 grind⟩
theorem Zfa{n:Nat}{L:List Zf}{f:Zf}(hL:∀e∈L,e.1=[((n:Int),1)]∨e.1=[((n:Int),-1)])(hf:f∈L)(h1:f.1=[((n:Int),1)])(hlo:∀e∈L,e.1=[((n:Int),1)]→-e.2≤-f.2)(hhi:∀e∈L,e.1=[((n:Int),-1)]→-f.2≤e.2):MinG (Zb4 n L) 1 (-f.2):=.inr (.inr ⟨rfl,fun e he=>by
 rcases hL e he with h|h
 ·rw [h,Zji]
  have:=hlo e he h
  grind
 ·rw [h,Zjx]
  have:=hhi e he h
  grind,fun t ht=>by
 have a:=ht f hf
 rw [h1,Zji] at a
 grind⟩)
def isP(n:Nat)(f:Zf):Prop:=f.1=[((n:Int),1)]
def isM(n:Nat)(f:Zf):Prop:=f.1=[((n:Int),-1)]
theorem ZjJ{n:Nat}{f:Zf}(h:isP n f)(g:isM n f):False:=by
 unfold isP at h
 unfold isM at g
 rw [h] at g
 injection g with a
 injection a with _ b
 exact absurd b (by decide)
structure LoI (n:Nat) (P:List Zf) (lo:Option Rat):Prop where
 no:lo=none→∀f∈P,¬isP n f
 so:∀l,lo=some l→(∃f∈P,isP n f∧l=-f.2)∧∀f∈P,isP n f→-f.2≤l
structure HiI (n:Nat) (P:List Zf) (hi:Option Rat):Prop where
 no:hi=none→∀f∈P,¬isM n f
 so:∀l,hi=some l→(∃f∈P,isM n f∧l=f.2)∧∀f∈P,isM n f→l≤f.2
theorem LoI.nil(n:Nat):LoI n [] none:=⟨fun _ f hf=>(by cases hf),fun l h=>(by cases h)⟩
theorem HiI.nil(n:Nat):HiI n [] none:=⟨fun _ f hf=>(by cases hf),fun l h=>(by cases h)⟩
theorem LoI.skip{n:Nat}{P:List Zf}{lo:Option Rat}{f:Zf}(I:LoI n P lo)(h:¬isP n f):LoI n (P++[f]) lo:=
 ⟨fun e g hg=>by
  rcases Zt.1 hg with h1|rfl
  ·exact I.no e g h1
  ·exact h,fun l e=>by
  obtain ⟨⟨g,hg,h1⟩,a⟩:=I.so l e
  exact ⟨⟨g,Zt.2 (.inl hg),h1⟩,fun k hk hp=>by
   rcases Zt.1 hk with h2|rfl
   ·exact a k h2 hp
   ·exact absurd hp h⟩⟩
theorem HiI.skip{n:Nat}{P:List Zf}{hi:Option Rat}{f:Zf}(I:HiI n P hi)(h:¬isM n f):HiI n (P++[f]) hi:=
 ⟨fun e g hg=>by
  rcases Zt.1 hg with h1|rfl
  ·exact I.no e g h1
  ·exact h,fun l e=>by
  obtain ⟨⟨g,hg,h1⟩,a⟩:=I.so l e
  exact ⟨⟨g,Zt.2 (.inl hg),h1⟩,fun k hk hp=>by
   rcases Zt.1 hk with h2|rfl
   ·exact a k h2 hp
   ·exact absurd hp h⟩⟩
theorem LoI.put{n:Nat}{P:List Zf}{lo:Option Rat}{f:Zf}(I:LoI n P lo)(h:isP n f)(hl:∀l,lo=some l→l < -f.2):LoI n (P++[f]) (some (-f.2)):=
 ⟨fun e=>(by cases e),fun l e=>by
  cases e
  refine ⟨⟨f,Zt.2 (.inr rfl),h,rfl⟩,fun k hk hp=>?_⟩
  rcases Zt.1 hk with h2|rfl
  ·cases hlo:lo with
   | none=>exact absurd hp (I.no hlo k h2)
   | some l=>
     have h3:=(I.so l hlo).2 k h2 hp
     have h4:=hl l hlo
     grind
  ·exact Rat.le_refl⟩
theorem LoI.stay{n:Nat}{P:List Zf}{l:Rat}{f:Zf}(I:LoI n P (some l))(hl:-f.2≤l):LoI n (P++[f]) (some l):=
 ⟨fun e=>(by cases e),fun k e=>by
  cases e
  obtain ⟨⟨g,hg,h1⟩,a⟩:=I.so l rfl
  exact ⟨⟨g,Zt.2 (.inl hg),h1⟩,fun k hk hp=>by
   rcases Zt.1 hk with h2|rfl
   ·exact a k h2 hp
   ·exact hl⟩⟩
theorem HiI.put{n:Nat}{P:List Zf}{hi:Option Rat}{f:Zf}(I:HiI n P hi)(h:isM n f)(hl:∀l,hi=some l→f.2<l):HiI n (P++[f]) (some f.2):=
 ⟨fun e=>(by cases e),fun l e=>by
  cases e
  refine ⟨⟨f,Zt.2 (.inr rfl),h,rfl⟩,fun k hk hp=>?_⟩
  rcases Zt.1 hk with h2|rfl
  ·cases hlo:hi with
   | none=>exact absurd hp (I.no hlo k h2)
   | some l=>
     have h3:=(I.so l hlo).2 k h2 hp
     have h4:=hl l hlo
     grind
  ·exact Rat.le_refl⟩
theorem HiI.stay{n:Nat}{P:List Zf}{l:Rat}{f:Zf}(I:HiI n P (some l))(hl:l≤f.2):HiI n (P++[f]) (some l):=
 ⟨fun e=>(by cases e),fun k e=>by
  cases e
  obtain ⟨⟨g,hg,h1⟩,a⟩:=I.so l rfl
  exact ⟨⟨g,Zt.2 (.inl hg),h1⟩,fun k hk hp=>by
   rcases Zt.1 hk with h2|rfl
   ·exact a k h2 hp
   ·exact hl⟩⟩
def Zoi:Option Rat→Option Rat→Int × Rat
 | none,_=>(3,0)
 | some l,none=>(1,l)
 | some l,some h=>if h<l then (2,0) else (1,l)
theorem Zxo{n:Nat}{L:List Zf}{lo hi:Option Rat}(hL:∀e∈L,isP n e∨isM n e)(I:LoI n L lo)(J:HiI n L hi):MinG (Zb4 n L) (Zoi lo hi).1 (Zoi lo hi).2:=by
 cases lo with
 | none=>exact ZjS (fun f hf=>(hL f hf).resolve_left (I.no rfl f hf)) 0
 | some l=>
   obtain ⟨⟨f,hf,fp,rfl⟩,a⟩:=I.so l rfl
   cases hi with
   | none=>exact Zfa hL hf fp a fun e he hm=>absurd hm (J.no rfl e he)
   | some h=>
     obtain ⟨⟨g,hg,gm,rfl⟩,b⟩:=J.so h rfl
     by_cases c:g.2 < -f.2
     ·have e:Zoi (some (-f.2)) (some g.2)=(2,0):=if_pos c
      rw [e]
      exact Zjq hf hg fp gm c 0
     ·have e:Zoi (some (-f.2)) (some g.2)=(1,-f.2):=if_neg c
      rw [e]
      refine Zfa hL hf fp a fun k hk hm=>?_
      have:=b k hk hm
      grind
theorem ZfU{q:Rat}(h:q≠0):H (1 / q)≤H q:=by
 rw [Rat.div_def,Rat.one_mul]
 unfold H
 have hn:q.num≠0:=fun e=>h (by rw [←Rat.num_eq_zero];exact e)
 have e1:(q⁻¹).num.natAbs=q.den:=by
  rw [Rat.num_inv,Int.natAbs_mul,Int.natAbs_sign_of_ne_zero hn,Nat.one_mul]
  exact Int.natAbs_natCast _
 have e2:(q⁻¹).den=q.num.natAbs:=by rw [Rat.den_inv,if_neg hn]
 rw [e1,e2]
 omega
theorem Zh6(q:Rat):H (Y0 q)=H q:=by
 unfold Y0
 split
 ·exact Zbb q
 ·rfl
def FH(m:Nat)(f:Zf):Prop:=(∀t∈f.1,H t.2≤m)∧H f.2≤m
theorem Ze9:∀{F:List (Int × Rat)},Srt F→∀t∈F,cof F t.1=t.2
 | [],_,t,ht=>by cases ht
 | u::F,h,t,ht=>by
   rcases List.mem_cons.1 ht with rfl|ht
   ·exact YZ rfl
   ·have:=h.head t ht
    rw [QS (by omega)]
    exact Ze9 h.tail t ht
theorem Zbj{b:Nat}{v:Int}(hb:1≤b):∀{l:List (Int × Rat)},(∀t∈l,H t.2≤b)→H (cof l v)≤b
 | [],_=>Nat.le_trans (show H 0≤1 by decide+kernel) hb
 | t::l,h=>by
   rw [cof]
   split
   ·exact h t List.mem_cons_self
   ·exact Zbj hb fun u hu=>h u (List.mem_cons_of_mem _ hu)
theorem FH.scl{m k:Nat}{F:List (Int × Rat)}{c:Rat}(h:∀t∈F,H t.2≤m)(hc:H c≤k):∀t∈Yh F c,H t.2≤m+k:=fun t ht=>by
 simp only [Yh,List.mem_flatMap] at ht
 obtain ⟨u,hu,h1⟩:=ht
 obtain ⟨rfl,_⟩:=ZaR h1
 have a:=Kk u.2 c
 have b:=h u hu
 show H (u.2*c)≤_
 omega
theorem FH.add{m k:Nat}{F G:List (Int × Rat)}(hF:Srt F)(hG:Srt G)(h:∀t∈F,H t.2≤m)(g:∀t∈G,H t.2≤k)(hm:1≤m)(hk:1≤k):∀t∈Wp F G,H t.2≤m+k+1:=fun t ht=>by
 obtain ⟨a1,a2⟩:=Zar hF hG
 have e:=Ze9 a1 t ht
 rw [a2] at e
 rw [←e]
 have b:=Zek (cof F t.1) (cof G t.1)
 have c:=Zbj (v:=t.1) hm h
 have d:=Zbj (v:=t.1) hk g
 omega
theorem Zy3(q:Rat):H (sgQ q)≤1:=by
 unfold sgQ
 split
 ·decide+kernel
 ·split <;>decide+kernel
theorem FH.norm{m:Nat}{f:Zf}(hs:Srt f.1)(h:FH m f)(hm:1≤m):FH (m+m) (Zv f):=by
 obtain ⟨F,q⟩:=f
 cases F with
 | nil=>
   have:=Zy3 q
   refine ⟨fun t ht=>(by cases ht),?_⟩
   show H (sgQ q)≤_
   omega
 | cons t F=>
   have hne:=hs.2 t List.mem_cons_self
   have ha:Y0 t.2≠0:=fun e=>by have:=Wh hne;rw [e] at this;exact absurd this (by decide)
   have hc:H (1 / Y0 t.2)≤m:=Nat.le_trans (ZfU ha) (by rw [Zh6];exact h.1 t List.mem_cons_self)
   refine ⟨FH.scl h.1 hc,?_⟩
   have a:=Kk q (1 / Y0 t.2)
   have b:=h.2
   dsimp only at b
   show H (q*(1 / Y0 t.2))≤_
   omega
theorem FH.comb{m:Nat}{v:Int}{f g:Zf}(hf:Srt f.1)(hg:Srt g.1)(h:FH m f)(k:FH m g)(hm:1≤m):FH (4*m+1) (YC v f g):=by
 have c1:H (-cof g.1 v)≤m:=by rw [Zbb];exact Zbj hm k.1
 have c2:H (cof f.1 v)≤m:=Zbj hm h.1
 refine ⟨fun t ht=>?_,?_⟩
 ·have:=FH.add (YP hf).1 (YP hg).1 (FH.scl h.1 c1) (FH.scl k.1 c2) (by omega) (by omega) t ht
  omega
 ·have a:=Zek (f.2*-cof g.1 v) (g.2*cof f.1 v)
  have b:=Kk f.2 (-cof g.1 v)
  have d:=Kk g.2 (cof f.1 v)
  have e1:=h.2
  have e2:=k.2
  show H (f.2*-cof g.1 v+g.2*cof f.1 v)≤_
  omega
theorem Zjg(a:ByteArray):∀(k i:Nat) (r:List UInt8),k+i=a.size→ByteArray.toList.loop a i r=r.reverse++a.data.toList.drop i
 | 0,i,r,h=>by
   rw [ByteArray.toList.loop,if_neg (by omega),List.drop_eq_nil_of_le (by have e:a.data.toList.length=a.size:=Array.length_toList;omega),List.append_nil]
 | k+1,i,r,h=>by
   have hi:i<a.data.toList.length:=by have e:a.data.toList.length=a.size:=Array.length_toList;omega
   rw [ByteArray.toList.loop,if_pos (by omega),Zjg a k (i+1) _ (by omega),List.drop_eq_getElem_cons hi]
   have e:a.get! i=a.data.toList[i]:=by
    unfold ByteArray.get!
    rw [Array.getElem_toList]
    exact getElem!_pos a.data i (by simpa using hi)
   rw [e]
   simp
theorem XN(a:ByteArray):a.toList=a.data.toList:=by
 unfold ByteArray.toList
 rw [Zjg a a.size 0 [] (by omega)]
 simp
theorem Zrn{a b:ByteArray}(h:a.data.toList=b.data.toList):a=b:=by
 obtain ⟨x⟩:=a
 obtain ⟨y⟩:=b
 congr 1
 exact Array.toList_inj.1 h
theorem Zh8{a b:ByteArray}(h:a.toList=b.toList):a=b:=Zrn (by rw [←XN,←XN,h])
theorem VL{a b x:ByteArray}(h:a.size+b.size≤9000000000000000000)(d:x=a++b):(if ((a.size:Nat):Int)+((b.size:Nat):Int)≤9223372036854775807 then some (Value.string (a++b)) else none)=some (Value.string x):=by
 rw [if_pos (by omega),d]
theorem ZnL(l:List ByteArray)(i:Nat)(a:ByteArray):(l.map JE).set i [.lit (.string a)]=(l.set i a).map JE:=by
 rw [List.map_set];rfl
def bs(l:List UInt8):ByteArray:=⟨l.toArray⟩
theorem Zto(l:List UInt8):(bs l).data.toList=l:=by simp [bs]
theorem ZX(l:List UInt8):(bs l).size=l.length:=by
 show (bs l).data.size=_
 simp [bs]
theorem Xz(l m:List UInt8):bs l++bs m=bs (l++m):=Zrn (by simp [bs])
theorem Zc8{l m:List UInt8}(h:bs l=bs m):l=m:=by
 have:=congrArg (fun a:ByteArray=>a.data.toList) h
 simpa [bs] using this
section
open Lib (decDigits)
def dig(k:Nat):UInt8:=UInt8.ofNat (48+k)
theorem ZdV{u:Nat}(h:u<10):decDigits u=[dig u]:=by rw [decDigits,dif_pos h];rfl
theorem ZhP{u:Nat}(h:¬u<10):decDigits u=decDigits (u / 10)++[dig (u % 10)]:=by rw [decDigits,dif_neg h];rfl
def ZbW:Nat→Nat→List UInt8
 | 0,_=>[]
 | m+1,r=>ZbW m (r / 10)++[dig (r % 10)]
theorem Zee:∀(m:Nat),ZbW m 0=List.replicate m 48
 | 0=>rfl
 | m+1=>by rw [ZbW,Nat.zero_div,Zee m,List.replicate_succ'];rfl
theorem Zg3:∀(m q r:Nat),0<q→r<10 ^ m→decDigits (q*10 ^ m+r)=decDigits q++ZbW m r
 | 0,q,r,hq,hr=>by
   have:r=0:=by simpa using hr
   subst this
   rw [Nat.pow_zero,Nat.mul_one,Nat.add_zero,ZbW,List.append_nil]
 | m+1,q,r,hq,hr=>by
   rw [Nat.pow_succ] at hr
   have hp:0<10 ^ m:=Nat.pow_pos (by omega)
   have e0:q*10 ^ (m+1)=(q*10 ^ m)*10:=by rw [Nat.pow_succ,Nat.mul_assoc]
   have hge:1≤q*10 ^ m:=Nat.mul_pos hq hp
   have h1:¬q*10 ^ (m+1)+r<10:=by omega
   have e1:(q*10 ^ (m+1)+r) / 10=q*10 ^ m+r / 10:=by omega
   have e2:(q*10 ^ (m+1)+r) % 10=r % 10:=by omega
   rw [ZhP h1,e1,e2,Zg3 m q (r / 10) hq (by omega),ZbW,List.append_assoc]
theorem Zq9:∀(m r:Nat),r<10 ^ (m+1)→(decDigits r).length≤m+1∧ZbW (m+1) r=List.replicate (m+1-(decDigits r).length) 48++decDigits r
 | 0,r,h=>by
   have h1:r<10:=by simpa using h
   rw [ZdV h1]
   refine ⟨by simp,?_⟩
   rw [ZbW,ZbW,Nat.mod_eq_of_lt h1]
   simp
 | m+1,r,h=>by
   by_cases h1:r<10
   ·rw [ZdV h1]
    refine ⟨by simp,?_⟩
    have e:ZbW (m+1+1) r=ZbW (m+1) (r / 10)++[dig (r % 10)]:=rfl
    rw [e,Nat.div_eq_of_lt h1,Nat.mod_eq_of_lt h1,Zee]
    simp
   ·rw [Nat.pow_succ] at h
    obtain ⟨i1,i2⟩:=Zq9 m (r / 10) (by omega)
    rw [ZhP h1,List.length_append,List.length_singleton]
    refine ⟨by omega,?_⟩
    have e:ZbW (m+1+1) r=ZbW (m+1) (r / 10)++[dig (r % 10)]:=rfl
    rw [e,i2,←List.append_assoc,show m+1+1-((decDigits (r / 10)).length+1)=m+1-(decDigits (r / 10)).length by omega]
theorem ZAe(k:Nat):decDigits k≠[]:=by
 by_cases h:k<10
 ·rw [ZdV h];simp
 ·rw [ZhP h];simp
theorem ZCd(c:Nat):Lib.repeatL [48] c=List.replicate c 48:=by
 induction c with
 | zero=>rfl
 | succ c ih=>rw [Lib.repeatL,ih,List.replicate_succ];rfl
theorem ZyC(xs:List (List UInt8)):Lib.join xs []=xs.flatten:=by
 unfold Lib.join List.intercalate
 induction xs with
 | nil=>rfl
 | cons x xs ih=>
   cases xs with
   | nil=>simp [List.intersperse]
   | cons y ys=>
     rw [List.intersperse,List.flatten_cons,List.flatten_cons,ih]
     ·simp
     ·intro h
      cases h
def rnd:Nat→Nat→Nat
 | 0,_=>0
 | f+1,k=>if k=0 then 0 else rnd f (k / 1000000000)+1
theorem Zos:∀(f k:Nat),rnd f k≤f
 | 0,_=>Nat.le_refl _
 | f+1,k=>by rw [rnd];split;omega;have:=Zos f (k / 1000000000);omega
theorem Ks(f:Nat):rnd f 0=0:=by cases f <;>simp [rnd]
theorem Zc3:∀(f g k:Nat),k<2 ^ f→k<2 ^ g→rnd f k=rnd g k
 | 0,g,k,h,_=>by
   have:k=0:=by simpa using h
   subst this
   rw [Ks,Ks]
 | f+1,0,k,_,h=>by
   have:k=0:=by simpa using h
   subst this
   rw [Ks,Ks]
 | f+1,g+1,k,h,h2=>by
   rw [Nat.pow_succ] at h h2
   rw [rnd,rnd,Zc3 f g _ (by omega) (by omega)]
def dd0(k:Nat):List UInt8:=if k=0 then [] else decDigits k
theorem ZoL{k:Nat}(h:0<k):dd0 k=dd0 (k / 1000000000)++(if 0<k / 1000000000 then List.replicate (9-(decDigits (k % 1000000000)).length) 48++decDigits (k % 1000000000) else decDigits (k % 1000000000))∧(decDigits (k % 1000000000)).length≤9:=by
 have hr:k % 1000000000<10 ^ (8+1):=Nat.mod_lt _ (by decide)
 obtain ⟨p1,p2⟩:=Zq9 8 _ hr
 refine ⟨?_,p1⟩
 unfold dd0
 rw [if_neg (by omega)]
 by_cases hq:0<k / 1000000000
 ·rw [if_neg (by omega),if_pos hq,←p2]
  have e:=Zg3 9 (k / 1000000000) (k % 1000000000) hq hr
  have e2:k / 1000000000*10 ^ 9+k % 1000000000=k:=by
   have:(10:Nat) ^ 9=1000000000:=by decide
   rw [this];omega
  rw [e2] at e
  exact e
 ·rw [if_pos (by omega),if_neg hq,List.nil_append]
  congr 1
  omega
theorem ZaD:∀(m k:Nat),k<2 ^ m→(decDigits k).length≤m+1
 | 0,k,h=>by
   have:k=0:=by simpa using h
   subst this
   rw [ZdV (by omega)];simp
 | m+1,k,h=>by
   by_cases h1:k<10
   ·rw [ZdV h1];simp
   ·rw [Nat.pow_succ] at h
    rw [ZhP h1,List.length_append,List.length_singleton]
    have:=ZaD m (k / 10) (by omega)
    omega
end
noncomputable def UX:Code:=(Zb (ZR Tryz.f141)).getD 0 .skip
def Ve(nat_5:List Nat)(r:List Nat)(out_5:List ByteArray):St:=
 ⟨[(0,Zd nat_5),(3,Zd r),(4,.own 0 out_5.length)],
  [(0,some (.row 9 1 (out_5.map JE) 0))],1⟩
def ZaL(out_5:List ByteArray):St:=
 ⟨[(4,.own 0 out_5.length)],
  [(0,some (.row 9 1 (out_5.map JE) 0))],1⟩
section
variable {r21 : ByteArray} {r22 : ByteArray} {cat3 : ByteArray} {nat_5 : List Nat} {r20 : Bool} {r : List Nat} {out_5 : List ByteArray} {r19 : Int} {n : Nat} {r18 : Int} {r17 : List Nat} {r16 : List Nat} {a0 : List Nat} {R : List ByteArray} {r23 : ByteArray}
section
variable(C1:0<(nat_5.length:Int))(K2:(oND fun x y=>.tup [Zd (lmb (val x / val y)),Zd (lmb (val x % val y)),.lit (.int .i64 0)]) [Zd nat_5,Zd r]=some (.tup [Zd r16,Zd r17,.lit (.int .i64 r18)]))(K3:(oN1 Zd5 fun x=>.tup [.lit (.int .u64 (val x:Nat)),.lit (.bool true)]) [Zd r17]=some (.tup [.lit (.int .u64 r19),.lit (.bool r20)]))(K4:(oFU) [.lit (.int .u64 r19),.lit (.int .i64 10)]=some (.lit (.string r21)))
include C1 K2 K3 K4
theorem Znc(C5:0<(r16.length:Int))(W6:InI (9-(r21.size:Int)))(K7:(U2) [.lit (.string (⟨#[48]⟩:ByteArray)),.lit (.int .i64 (9-(r21.size:Int)))]=some (.lit (.string r22)))(S8:r22.size+r21.size≤9000000000000000000)(D8:cat3=r22++r21)(M9:out_5.length+1≤100000000):
  Zm 0 (exec Tryz.prog (tab (n+5)) 0 50 (Za 141) big UX) (Za 141 5) (Ve nat_5 r out_5) (Ve r16 r (out_5++[cat3])):=by
 have C1_:0<nat_5.length:=by omega
 have C5_:0<r16.length:=by omega
 have W6_:IntKind.i64.wrap (9-(r21.size:Int))=9-(r21.size:Int):=Zp W6.1 W6.2
 have S8_q:=VL S8 D8
 have M9_:∀b,b≤10000→ZG (out_5.length+1) b=true:=fun b hb=>Zq M9 hb
 unfold Zm
 simp+decide [Ve,Zb, Tryz.f141,UX,C1_,K2,K3,K4,C5_,W6_,K7,S8_q,M9_]
theorem ZpB(C5:¬0<(r16.length:Int))(M6:out_5.length+1≤100000000):
  Zm 0 (exec Tryz.prog (tab (n+5)) 0 50 (Za 141) big UX) (Za 141 5) (Ve nat_5 r out_5) (Ve r16 r (out_5++[r21])):=by
 have C1_:0<nat_5.length:=by omega
 have C5_:¬0<r16.length:=by omega
 have M6_:∀b,b≤10000→ZG (out_5.length+1) b=true:=fun b hb=>Zq M6 hb
 unfold Zm
 simp+decide [Ve,Zb, Tryz.f141,UX,C1_,K2,K3,K4,C5_,M6_]
end
theorem ZpL(C1:¬0<(nat_5.length:Int)):
  Zj 0 (exec Tryz.prog (tab (n+5)) 0 50 (Za 141) big UX) (Za 141 (Zo 5)) (Ve nat_5 r out_5) (.exit 0) (ZaL out_5):=by
 have C1_:¬0<nat_5.length:=by omega
 unfold Zj
 simp+decide [Ve,Zb, Tryz.f141,ZaL,UX,C1_]
theorem Zw1(C1:(a0.length:Int)=0):
  run (n+5) 141 [Zd a0]=some (.lit (.string (⟨#[48]⟩:ByteArray))):=by
 have C1_:((a0.length:Int)==0)=true:=by rw [C1];simp
 unfold run fnP
 simp+decide [Tryz.f141,C1_]
theorem Zwq(HR:R.length=out_5.length)(C1:¬(a0.length:Int)=0)(K2:(oU fun k=>Zd (lmb k)) [.lit (.int .u64 1000000000)]=some (Zd r))(L3:Zl Tryz.prog (tab (n+5)) 0 50 (Za 141) 5 UX (Ve a0 r [])=some (.exit 0,ZaL out_5))(K4:Zr (n+4) 148 [.own 0 out_5.length] [.row 9 1 (out_5.map JE) 0]=some (.tup [],[(0,.row 9 1 (R.map JE) 0)]))(K5:(ZdO) [.sl 1 (R.map JE),.lit (.string (⟨#[]⟩:ByteArray))]=some (.lit (.string r23))):
  run (n+5) 141 [Zd a0]=some (.lit (.string r23)):=by
 have C1_:((a0.length:Int)==0)=false:=by simpa using C1
 unfold run fnP
 simp+decide [Tryz.f141,C1_,K2]
 rw [Zi (C':=UX) (e:=(Ve a0 r [])) ?_ ?_,L3]
 rotate_left
 ·kernel_rfl
 ·simp+decide [Ve]
 simp+decide [ZaL,HR,K4,K5]
end
noncomputable def JP:Code:=(Zb (ZR Tryz.f148)).getD 0 .skip
def Ka(out_1:List ByteArray)(i_1:Nat)(i2_1:Int):St:=
 ⟨[(0,.own 0 out_1.length),(2,.lit (.int .i64 (i_1:Int))),(3,.lit (.int .i64 i2_1))],
  [(0,some (.row 9 1 (out_1.map JE) 0))],1⟩
def Kh(out_1:List ByteArray):St:=
 ⟨[],
  [(0,some (.row 9 1 (out_1.map JE) 0))],1⟩
section
variable {out_1 : List ByteArray} {x6 : ByteArray} {i_1 : Nat} {n : Nat} {i2_1 : Int} {x5 : ByteArray} {a0 : List ByteArray}
theorem ZnO(C1:(i_1:Int)<i2_1)(G2:i2_1.toNat<out_1.length)(Z2:0≤i2_1)(E3:out_1[i2_1.toNat]?=some x5)(Z3:0≤i2_1)(G4:i_1<out_1.length)(E5:out_1[i_1]?=some x6)(W10:InI ((i_1:Int)+1))(W11:InI (i2_1-1)):
  Zm 1 (exec Tryz.prog (tab n) 1 28 (Za 148) big JP) (Za 148 1) (Ka out_1 i_1 i2_1) (Ka ((out_1.set i_1 x5).set i2_1.toNat x6) (i_1+1) (i2_1-1)):=by
 obtain ⟨EL3,EG3⟩:=gEi E3
 obtain ⟨EL5,EG5⟩:=gEi E5
 have W10_:IntKind.i64.wrap ((i_1:Int)+1)=(i_1:Int)+1:=Zp W10.1 W10.2
 have W11_:IntKind.i64.wrap (i2_1-1)=i2_1-1:=Zp W11.1 W11.2
 unfold Zm
 simp+decide [Ka,Zb, Tryz.f148,JP,C1,G2,Z2,EG3,G4,EG5,ZnL,-List.map_set,W10_,W11_]
theorem Zrm(C1:¬(i_1:Int)<i2_1):
  Zj 1 (exec Tryz.prog (tab n) 1 28 (Za 148) big JP) (Za 148 (Zo 1)) (Ka out_1 i_1 i2_1) (.exit 0) (Kh out_1):=by
 unfold Zj
 simp+decide [Ka,Zb, Tryz.f148,Kh,JP,C1]
theorem Zwc(W1:InI ((a0.length:Int)-1))(L2:Zl Tryz.prog (tab n) 1 28 (Za 148) 1 JP (Ka a0 0 ((a0.length:Int)-1))=some (.exit 0,Kh out_1)):
  Zr n 148 [.own 0 a0.length] [.row 9 1 (a0.map JE) 0]=some (.tup [],[(0,.row 9 1 (out_1.map JE) 0)]):=by
 have W1_:IntKind.i64.wrap ((a0.length:Int)-1)=(a0.length:Int)-1:=Zp W1.1 W1.2
 unfold Zr fnL
 simp+decide [Tryz.f148,W1_]
 rw [Zi (C':=JP) (e:=(Ka a0 0 ((a0.length:Int)-1))) ?_ ?_,L2]
 rotate_left
 ·kernel_rfl
 ·simp+decide [Ka]
 simp+decide [Kh]
end
section
open Lib (decDigits)
attribute [local irreducible] run Zr Zl exec
theorem Zfc{k:Nat}(h:(lmb k).length≤1000000):XF (lmb k)=true:=Nat.ble_eq_true_of_le (by omega)
theorem Zz9{k m:Nat}(hk:(lmb k).length≤1000000)(hm:(lmb m).length≤1000000)(h0:0<m):(oND fun x y=>.tup [Zd (lmb (val x / val y)),Zd (lmb (val x % val y)),.lit (.int .i64 0)]) [Zd (lmb k),Zd (lmb m)]=some (.tup [Zd (lmb (k / m)),Zd (lmb (k % m)),.lit (.int .i64 0)]):=by
 have hb:Nat.blt 0 m=true:=Nat.ble_eq_true_of_le h0
 simp only [oND,Qe (Yq _),Zfc hk,Zfc hm,Zg,hb,Bool.and_self,if_true]
theorem ZwJ{k:Nat}(h:k<18446744073709551616):(oN1 Zd5 fun x=>.tup [.lit (.int .u64 (val x:Nat)),.lit (.bool true)]) [Zd (lmb k)]=some (.tup [.lit (.int .u64 (k:Int)),.lit (.bool true)]):=by
 have hl:(lmb k).length≤2:=Yg (by simpa using h)
 have h64:Zd5 (lmb k)=true:=by
  unfold Zd5
  rw [Zg]
  exact Nat.ble_eq_true_of_le h
 simp only [oN1,Qe (Yq _),Zfc (show (lmb k).length≤1000000 by omega),h64,Bool.and_self,if_true,Zg]
theorem ZzE{z:Int}(h0:0≤z)(h1:z<18446744073709551616):(oU fun k=>Zd (lmb k)) [.lit (.int .u64 z)]=some (Zd (lmb z.toNat)):=if_pos ⟨h0,h1⟩
theorem ZCk{d:Nat}(h:d<18446744073709551616):oFU [.lit (.int .u64 (d:Int)),.lit (.int .i64 10)]=some (.lit (.string (bs (decDigits d)))):=by
 have h1:(0:Int)≤(d:Int)∧(d:Int)<18446744073709551616:=⟨by omega,by omega⟩
 simp only [oFU]
 rw [if_pos h1,Int.toNat_natCast]
 rfl
theorem Zzi{l:List UInt8}(h:l.length≤9):U2 [.lit (.string (⟨#[48]⟩:ByteArray)),.lit (.int .i64 (9-((bs l).size:Int)))]=some (.lit (.string (bs (List.replicate (9-l.length) 48)))):=by
 have e:(9-((bs l).size:Int)).toNat=9-l.length:=by rw [ZX];omega
 have e2:(⟨#[48]⟩:ByteArray).size=1:=rfl
 unfold U2
 dsimp only
 rw [if_pos ⟨by rw [ZX];omega,by rw [ZX];omega,by rw [e,e2];omega⟩,e]
 rw [ZCd]
 rfl
theorem Zmq(l:List ByteArray):Zed (l.map JE)=some l:=by
 induction l with
 | nil=>rfl
 | cons a l ih=>simp [Zed,ih]
theorem ZwV{P:List (List UInt8)}(h1:P.length≤100000000)(h2:P.flatten.length≤100000000):ZdO [.sl 1 ((P.map bs).map JE),.lit (.string (⟨#[]⟩:ByteArray))]=some (.lit (.string (bs P.flatten))):=by
 have e:(P.map bs).map (fun (a:ByteArray)=>a.data.toList)=P:=by
  rw [List.map_map]
  conv=>rhs;rw [←List.map_id P]
  apply List.map_congr_left
  intro x _
  exact Zto x
 have e2:(⟨#[]⟩:ByteArray).data.toList=[]:=rfl
 simp only [ZdO,Zmq,e2,e,ZyC]
 rw [if_pos ⟨by rw [List.length_map];omega,by omega⟩]
 rfl
def rv(L:List ByteArray)(i:Nat):List ByteArray:=(List.range L.length).map fun t=>if t<i∨L.length≤t+i then L.getD (L.length-1-t) ByteArray.empty else L.getD t ByteArray.empty
theorem KW(L:List ByteArray)(i:Nat):(rv L i).length=L.length:=by
 unfold rv
 rw [List.length_map,List.length_range]
theorem ZbX{L:List ByteArray}{i t:Nat}(ht:t<L.length):(rv L i)[t]?=some (if t<i∨L.length≤t+i then L.getD (L.length-1-t) ByteArray.empty else L.getD t ByteArray.empty):=by
 unfold rv
 rw [List.getElem?_map,List.getElem?_range ht]
 rfl
theorem Zun(L:List ByteArray):rv L 0=L:=by
 apply List.ext_getElem?
 intro t
 rcases Nat.lt_or_ge t L.length with ht|ht
 ·rw [ZbX ht,if_neg (by omega),List.getD_eq_getElem?_getD,gEt ht];rfl
 ·rw [List.getElem?_eq_none (by rw [KW];exact ht),List.getElem?_eq_none ht]
theorem ZuA{L:List ByteArray}{i:Nat}(h:L.length≤2*i+1):rv L i=L.reverse:=by
 apply List.ext_getElem?
 intro t
 rcases Nat.lt_or_ge t L.length with ht|ht
 ·have e:L.reverse[t]?=some (L.getD (L.length-1-t) ByteArray.empty):=by
   rw [List.getElem?_reverse ht,List.getD_eq_getElem?_getD,gEt (show L.length-1-t<L.length by omega)];rfl
  rw [ZbX ht,e]
  split
  ·rfl
  ·rename_i h1
   have:L.length-1-t=t:=by omega
   rw [this]
 ·rw [List.getElem?_eq_none (by rw [KW];exact ht),List.getElem?_eq_none (by rw [List.length_reverse];exact ht)]
theorem ZsM{L:List ByteArray}{i:Nat}(h:i+i+1<L.length):((rv L i).set i (L.getD (L.length-1-i) ByteArray.empty)).set (L.length-1-i) (L.getD i ByteArray.empty)=rv L (i+1):=by
 apply List.ext_getElem?
 intro t
 rcases Nat.lt_or_ge t L.length with ht|ht
 ·rw [ZbX ht]
  by_cases h1:t=L.length-1-i
  ·subst h1
   rw [List.getElem?_set_self (by rw [List.length_set,KW];exact ht),if_pos (.inr (by omega))]
   congr 2
   omega
  ·rw [List.getElem?_set_ne (fun e=>h1 e.symm)]
   by_cases h2:t=i
   ·subst h2
    rw [List.getElem?_set_self (by rw [KW];exact ht),if_pos (.inl (by omega))]
   ·rw [List.getElem?_set_ne (fun e=>h2 e.symm),ZbX ht]
    by_cases h3:t<i∨L.length≤t+i
    ·rw [if_pos h3,if_pos (by omega)]
    ·rw [if_neg h3,if_neg (by omega)]
 ·rw [List.getElem?_eq_none (by rw [List.length_set,List.length_set,KW];exact ht),List.getElem?_eq_none (by rw [KW];exact ht)]
theorem Zzf{n:Nat}{L:List ByteArray}(hl:L.length≤100000000):Zr n 148 [.own 0 L.length] [.row 9 1 (L.map JE) 0]=some (.tup [],[(0,.row 9 1 (L.reverse.map JE) 0)]):=by
 obtain ⟨b,hL,hI⟩:=QV (O:=tab n) (P:= Tryz.prog) (m:=1) (N:=28) (lives:=Za 148) (r:=1) (C:=JP) (exN:=.exit 0) (M:=L.length / 2) (enc:=fun i (_:Unit)=>Ka (rv L i) i ((L.length:Int)-1-(i:Int))) (out:=fun _=>Kh L.reverse)
  (fun i _=>i≤L.length / 2) () (by omega) (by omega) (fun h=>by cases h)
  (fun i _ hi hI=>by
   have e:((L.length:Int)-1-(i:Int)).toNat=L.length-1-i:=by omega
   have h1:(rv L i)[((L.length:Int)-1-(i:Int)).toNat]?=some (L.getD (L.length-1-i) ByteArray.empty):=by
    rw [e,ZbX (by omega),if_neg (by omega)]
   have h2:(rv L i)[i]?=some (L.getD i ByteArray.empty):=by rw [ZbX (by omega),if_neg (by omega)]
   have R:=ZnO (n:=n) (i_1:=i) (i2_1:=(L.length:Int)-1-(i:Int)) (out_1:=rv L i) (by omega) (by rw [KW];omega) (by omega) h1 (by omega) (by rw [KW];omega) h2 ⟨by omega,by omega⟩ ⟨by omega,by omega⟩
   rw [e,ZsM (by omega)] at R
   have e2:(L.length:Int)-1-(i:Int)-1=(L.length:Int)-1-((i+1:Nat):Int):=by omega
   rw [e2] at R
   exact ⟨(),R,by omega⟩)
  (fun _ _=>by
   have R:=Zrm (n:=n) (i_1:=L.length / 2) (i2_1:=(L.length:Int)-1-((L.length / 2:Nat):Int)) (out_1:=rv L (L.length / 2)) (by omega)
   have e:Kh (rv L (L.length / 2))=Kh L.reverse:=by rw [ZuA (by omega)]
   rw [e] at R
   exact R)
 rw [Zun] at hL
 have e:(L.length:Int)-1-((0:Nat):Int)=(L.length:Int)-1:=by omega
 rw [e] at hL
 exact Zwc ⟨by omega,by omega⟩ hL
theorem Zu4{n K:Nat}(hK:(lmb K).length≤100000):run (n+5) 141 [Zd (lmb K)]=some (.lit (.string (bs (decDigits K)))):=by
 by_cases h0:K=0
 ·subst h0
  have e:bs (decDigits 0)=(⟨#[48]⟩:ByteArray):=by rw [ZdV (by omega)];rfl
  rw [e]
  exact Zw1 (by rw [Zad];rfl)
 have h9:(lmb 1000000000).length≤1000000:=by decide+kernel
 have hbits:K<2 ^ (32*(lmb K).length):=by
  have:=XD (Yq K)
  rw [Zg] at this
  rwa [Nat.pow_mul]
 have hM:=Zos (32*(lmb K).length) K
 have hdd:=ZaD _ K hbits
 obtain ⟨s,hL,hI⟩:=QV (O:=tab (n+5)) (P:= Tryz.prog) (m:=0) (N:=50) (lives:=Za 141) (r:=5) (C:=UX) (exN:=.exit 0) (M:=rnd (32*(lmb K).length) K) (enc:=fun i (s:Nat × List (List UInt8))=>Ve (lmb s.1) (lmb 1000000000) (s.2.map bs)) (out:=fun s=>ZaL (s.2.map bs))
  (fun i s=>s.1≤K∧rnd (32*(lmb K).length) s.1+i=rnd (32*(lmb K).length) K∧s.2.length=i∧dd0 s.1++s.2.reverse.flatten=dd0 K) (K,[]) ⟨Nat.le_refl _,rfl,rfl,by simp⟩ (by omega) (fun h=>by cases h)
  (fun i s hi hI=>by
   obtain ⟨k,parts⟩:=s
   obtain ⟨i1,i2,i3,i4⟩:=hI
   dsimp only at i1 i2 i3 i4 ⊢
   have hk0:0<k:=by
    rcases Nat.eq_zero_or_pos k with h|h
    ·subst h;rw [Ks] at i2;omega
    ·exact h
   have hkl:(lmb k).length≤(lmb K).length:=Zw i1
   have hp:0<(lmb k).length:=by rw [QA hk0];simp
   have hlim:k<2 ^ (32*(lmb K).length):=Nat.lt_of_le_of_lt i1 hbits
   have hr:rnd (32*(lmb K).length) k=rnd (32*(lmb K).length) (k / 1000000000)+1:=by
    obtain ⟨f,hf⟩:∃f,32*(lmb K).length=f+1:=⟨32*(lmb K).length-1,by omega⟩
    rw [hf] at hlim ⊢
    rw [rnd,if_neg (by omega)]
    congr 1
    rw [Nat.pow_succ] at hlim
    exact Zc3 f (f+1) _ (by omega) (by rw [Nat.pow_succ];omega)
   obtain ⟨d1,d2⟩:=ZoL hk0
   have K2:=Zz9 (k:=k) (m:=1000000000) (by omega) h9 (by omega)
   have hrm:k % 1000000000<18446744073709551616:=by omega
   have K3:=ZwJ hrm
   have K4:=ZCk hrm
   by_cases hq:0<k / 1000000000
   ·rw [if_pos hq] at d1
    have hql:0<(lmb (k / 1000000000)).length:=by rw [QA hq];simp
    refine ⟨(k / 1000000000,parts++[List.replicate (9-(decDigits (k % 1000000000)).length) 48++decDigits (k % 1000000000)]),?_,Nat.le_trans (Nat.div_le_self _ _) i1,by dsimp only;omega,by simp [i3],?_⟩
    ·have R:=Znc (n:=n) (out_5:=parts.map bs) (by omega) K2 K3 K4 (by omega) ⟨by rw [ZX];omega,by rw [ZX];omega⟩ (Zzi d2) (by rw [ZX,ZX,List.length_replicate];omega) (Xz _ _).symm (by rw [List.length_map];omega)
     have e:parts.map bs++[bs (List.replicate (9-(decDigits (k % 1000000000)).length) 48++decDigits (k % 1000000000))]=(parts++[List.replicate (9-(decDigits (k % 1000000000)).length) 48++decDigits (k % 1000000000)]).map bs:=by simp
     rw [e] at R
     exact R
    ·dsimp only
     rw [List.reverse_append,List.reverse_singleton,List.singleton_append,List.flatten_cons,←List.append_assoc,←d1]
     exact i4
   ·rw [if_neg hq] at d1
    have hq0:k / 1000000000=0:=by omega
    refine ⟨(k / 1000000000,parts++[decDigits (k % 1000000000)]),?_,Nat.le_trans (Nat.div_le_self _ _) i1,by dsimp only;omega,by simp [i3],?_⟩
    ·have R:=ZpB (n:=n) (out_5:=parts.map bs) (by omega) K2 K3 K4 (by rw [hq0,Zad];simp) (by rw [List.length_map];omega)
     have e:parts.map bs++[bs (decDigits (k % 1000000000))]=(parts++[decDigits (k % 1000000000)]).map bs:=by simp
     rw [e] at R
     exact R
    ·dsimp only
     rw [List.reverse_append,List.reverse_singleton,List.singleton_append,List.flatten_cons,←List.append_assoc,←d1]
     exact i4)
  (fun s hI=>by
   obtain ⟨k,parts⟩:=s
   obtain ⟨i1,i2,i3,i4⟩:=hI
   dsimp only at i1 i2 i3 i4 ⊢
   have hk0:k=0:=by
    rcases Nat.eq_zero_or_pos k with h|h
    ·exact h
    ·exfalso
     have hp:0<32*(lmb K).length:=by
      have hkl:(lmb k).length≤(lmb K).length:=Zw i1
      have:0<(lmb k).length:=by rw [QA h];simp
      omega
     obtain ⟨f,hf⟩:∃f,32*(lmb K).length=f+1:=⟨32*(lmb K).length-1,by omega⟩
     rw [hf,rnd,if_neg (by omega)] at i2
     omega
   subst hk0
   exact ZpL (by rw [Zad];simp))
 obtain ⟨k,parts⟩:=s
 obtain ⟨i1,i2,i3,i4⟩:=hI
 dsimp only at i1 i2 i3 i4 hL
 have hk0:k=0:=by
  rcases Nat.eq_zero_or_pos k with h|h
  ·exact h
  ·exfalso
   have hp:0<32*(lmb K).length:=by
    have hkl:(lmb k).length≤(lmb K).length:=Zw i1
    have:0<(lmb k).length:=by rw [QA h];simp
    omega
   obtain ⟨f,hf⟩:∃f,32*(lmb K).length=f+1:=⟨32*(lmb K).length-1,by omega⟩
   rw [hf] at i2
   have e:rnd (f+1) k=rnd f (k / 1000000000)+1:=by rw [rnd,if_neg (by omega)]
   omega
 subst hk0
 have e0:dd0 0=[]:=rfl
 have e1:dd0 K=decDigits K:=if_neg h0
 rw [e0,List.nil_append,e1] at i4
 have V:=Zzf (n:=n+4) (L:=parts.map bs) (by rw [List.length_map];omega)
 have J:=ZwV (P:=parts.reverse) (by rw [List.length_reverse];omega) (by rw [i4];omega)
 rw [i4,List.map_reverse] at J
 exact Zwq (by have:0<(lmb K).length:=(by rw [QA (by omega)];simp);omega) (HR:=by rw [List.length_reverse]) (ZzE (z:=1000000000) (by omega) (by omega)) hL V J
end
section
variable {cat2 : ByteArray} {cat : ByteArray} {r : ByteArray} {r2 : ByteArray} {n : Nat} {a0 : Rat}
theorem ZwP(K1:run (n+5) 141 [Zd (Ze a0).l1]=some (.lit (.string r)))(C2:0<((Ze a0).l2.length:Int))(K3:run (n+5) 141 [Zd (Ze a0).l2]=some (.lit (.string r2)))(S4:(⟨#[47]⟩:ByteArray).size+r2.size≤9000000000000000000)(D4:cat=(⟨#[47]⟩:ByteArray)++r2)(S5:r.size+cat.size≤9000000000000000000)(D5:cat2=r++cat):
  run (n+6) 119 [Zk a0]=some (.lit (.string cat2)):=by
 have C2_:0<(Ze a0).l2.length:=by omega
 have S4_q:=VL S4 D4
 have S5_q:=VL S5 D5
 unfold run fnP
 simp+decide [Tryz.f119,K1,C2_,K3,S4_q,S5_q]
theorem ZxR(K1:run (n+5) 141 [Zd (Ze a0).l1]=some (.lit (.string r)))(C2:¬0<((Ze a0).l2.length:Int)):
  run (n+6) 119 [Zk a0]=some (.lit (.string r)):=by
 have C2_:¬0<(Ze a0).l2.length:=by omega
 unfold run fnP
 simp+decide [Tryz.f119,K1,C2_]
end
section
open Lib (decDigits)
attribute [local irreducible] run Zr Zl exec
def Qa(q:Rat):List UInt8:=decDigits q.num.natAbs++if q.den=1 then [] else 47::decDigits q.den
theorem Zqk{q:Rat}(h:H q≤100000):(Qa q).length≤7000000:=by
 have bits:∀K:Nat,K<2 ^ (32*(lmb K).length):=fun K=>by
  have:=XD (Yq K)
  rw [Zg] at this
  rwa [Nat.pow_mul]
 have h1:=ZaD _ _ (bits q.num.natAbs)
 have h2:=ZaD _ _ (bits q.den)
 have a1:(lmb q.num.natAbs).length≤H q:=Nat.le_max_left _ _
 have a2:(lmb q.den).length≤H q:=Nat.le_max_right _ _
 unfold Qa
 rw [List.length_append]
 split
 ·simp;omega
 ·simp;omega
theorem ZcP(q:Rat):(Ze q).l1=lmb q.num.natAbs∧(Ze q).l2=(if q.den=1 then [] else lmb q.den)∧(Ze q).s=decide (q.num<0):=⟨rfl,rfl,rfl⟩
theorem den_pos(q:Rat):0<(lmb q.den).length:=by rw [QA q.den_pos];simp
theorem ZuK{n:Nat}{q:Rat}(hq:H q≤100000):run (n+6) 119 [Zk q]=some (.lit (.string (bs (Qa q)))):=by
 have a1:(lmb q.num.natAbs).length≤H q:=Nat.le_max_left _ _
 have a2:(lmb q.den).length≤H q:=Nat.le_max_right _ _
 have ht:=Zqk hq
 have K1:=Zu4 (n:=n) (K:=q.num.natAbs) (by omega)
 by_cases h:q.den=1
 ·have e:Qa q=decDigits q.num.natAbs:=by unfold Qa;rw [if_pos h,List.append_nil]
  rw [e]
  exact ZxR K1 (by rw [(ZcP q).2.1,if_pos h];simp)
 ·have e:bs (Qa q)=bs (decDigits q.num.natAbs)++((⟨#[47]⟩:ByteArray)++bs (decDigits q.den)):=by
   unfold Qa
   rw [if_neg h]
   have e2:(⟨#[47]⟩:ByteArray)=bs [47]:=rfl
   rw [e2,Xz,Xz];rfl
  have el:(Ze q).l2=lmb q.den:=by rw [(ZcP q).2.1,if_neg h]
  have K3:=Zu4 (n:=n) (K:=q.den) (by omega)
  rw [←el] at K3
  have hd:=den_pos q
  unfold Qa at ht
  rw [if_neg h,List.length_append,List.length_cons] at ht
  have s1:(⟨#[47]⟩:ByteArray).size+(bs (decDigits q.den)).size≤9000000000000000000:=by rw [ZX];show 1+_≤_;omega
  have s2:(bs (decDigits q.num.natAbs)).size+((⟨#[47]⟩:ByteArray)++bs (decDigits q.den)).size≤9000000000000000000:=by
   have e2:(⟨#[47]⟩:ByteArray)=bs [47]:=rfl
   rw [e2,Xz,ZX,ZX];simp;omega
  exact ZwP K1 (by rw [el];omega) K3 s1 rfl s2 e
def jn(a:List UInt8)(neg:Bool)(p:List UInt8):List UInt8:=if a=[] then (if neg=true then 45::p else p) else a++((if neg=true then [32,45,32] else [32,43,32])++p)
theorem Zqp(a:List UInt8)(neg:Bool)(p:List UInt8):(jn a neg p).length≤a.length+p.length+3:=by
 unfold jn
 split
 ·split
  ·rw [List.length_cons];omega
  ·omega
 ·rw [List.length_append,List.length_append]
  split <;>simp <;>omega
end
noncomputable def YF:Code:=(Zb (ZR Tryz.f84)).getD 0 .skip
def YL(a0:Zf)(i_4:Nat):St:=
 ⟨[(1,.ptr 0 0),(3,.ptr 1 0),(4,.clo 115 [.ptr 1 0]),(11,.sl 4 (a0.1.map Zs)),(12,.lit (.int .i64 (a0.1.length:Int))),(13,.lit (.int .i64 (i_4:Int)))],
  [(0,some (.box 28 [.sl 4 (a0.1.map Zs),.lit (.bool (Ze a0.2).s),Zd (Ze a0.2).l1,Zd (Ze a0.2).l2] false)),
   (1,some (.box 137 [(.lit (.pointer none)),.nl 1] false))],2⟩
def Vi(a0:Zf):St:=
 ⟨[(1,.ptr 0 0),(3,.ptr 1 0),(4,.clo 115 [.ptr 1 0])],
  [(0,some (.box 28 [.sl 4 (a0.1.map Zs),.lit (.bool (Ze a0.2).s),Zd (Ze a0.2).l1,Zd (Ze a0.2).l2] false)),
   (1,some (.box 137 [(.lit (.pointer none)),.nl 1] false))],2⟩
theorem Zni{n:Nat}{a0:Zf}{i_4:Nat}(C1:¬(i_4:Int)<(a0.1.length:Int)):
  Zj 0 (exec Tryz.prog (tab (n+7)) 0 55 (Za 84) big YF) (Za 84 (Zo 4)) (YL a0 i_4) (.exit 0) (Vi a0):=by
 unfold Zj
 simp+decide [YL,Zb, Tryz.f84,Vi,YF,C1]
def Q1(a0:Zf)(i_4:Nat)(ab:ByteArray):St:=
 ⟨[(1,.ptr 0 0),(3,.ptr 1 0),(4,.clo 115 [.ptr 1 0]),(11,.sl 4 (a0.1.map Zs)),(12,.lit (.int .i64 (a0.1.length:Int))),(13,.lit (.int .i64 (i_4:Int)))],
  [(0,some (.box 28 [.sl 4 (a0.1.map Zs),.lit (.bool (Ze a0.2).s),Zd (Ze a0.2).l1,Zd (Ze a0.2).l2] false)),
   (1,some (.box 137 [.ptr 1 0,.own 2 ab.size] false)),
   (2,some (.row 5 1 (Zx ab) 0))],3⟩
def JT(a0:Zf)(ab:ByteArray):St:=
 ⟨[(1,.ptr 0 0),(3,.ptr 1 0),(4,.clo 115 [.ptr 1 0])],
  [(0,some (.box 28 [.sl 4 (a0.1.map Zs),.lit (.bool (Ze a0.2).s),Zd (Ze a0.2).l1,Zd (Ze a0.2).l2] false)),
   (1,some (.box 137 [.ptr 1 0,.own 2 ab.size] false)),
   (2,some (.row 5 1 (Zx ab) 0))],3⟩
theorem Zv5{n:Nat}{rb:ByteArray}{a0:Zf}{i_4:Nat}{v3:Int}{q3:Rat}{r5:ByteArray}{cat7:ByteArray}{r6:ByteArray}{cat8:ByteArray}{cat9:ByteArray}(C1:(i_4:Int)<(a0.1.length:Int))(E2:a0.1[i_4]?=some (v3,q3))(K3:(Kl) [.lit (.int .i64 v3)]=some (.lit (.string r5)))(S4:(⟨#[120]⟩:ByteArray).size+r5.size≤9000000000000000000)(D4:cat7=(⟨#[120]⟩:ByteArray)++r5)(K5:run (n+6) 119 [Zk q3]=some (.lit (.string r6)))(C6:¬r6=(⟨#[49]⟩:ByteArray))(S7:r6.size+(⟨#[42]⟩:ByteArray).size≤9000000000000000000)(D7:cat8=r6++(⟨#[42]⟩:ByteArray))(S8:cat8.size+cat7.size≤9000000000000000000)(D8:cat9=cat8++cat7)(K9:Zr (n+6) 115 [.lit (.bool (Ze q3).s),.lit (.string cat9),.ptr 0 0] [.box 137 [(.lit (.pointer none)),.nl 1] false]=some (.tup [],[(0,.box 137 [.ptr 0 0,.own 1 rb.size] false),(1,.row 5 1 (Zx rb) 0)]))(W10:InI ((i_4:Int)+1)):
  Zm 0 (exec Tryz.prog (tab (n+7)) 0 55 (Za 84) big YF) (Za 84 4) (YL a0 i_4) (Q1 a0 (i_4+1) rb):=by
 obtain ⟨ks0,hks0⟩:∃k:ByteArray,(⟨#[42]⟩:ByteArray)=k:=⟨_,rfl⟩
 rw [hks0] at S7 D7
 have C1_:i_4<a0.1.length:=by omega
 obtain ⟨EL2,EG2⟩:=gEi E2
 have S4_q:=VL S4 D4
 simp only [Zk] at K5
 have C6_:(r6.toList==(⟨#[49]⟩:ByteArray).toList)=false:=by rw [beq_eq_false_iff_ne];exact fun h=>C6 (Zh8 h)
 have C6_k:(r6.toList==([49]:List UInt8))=false:=by rw [show ([49]:List UInt8)=(⟨#[49]⟩:ByteArray).toList by rw [XN]];exact C6_
 have S7_q:=VL S7 D7
 have S8_q:=VL S8 D8
 have W10_:IntKind.i64.wrap ((i_4:Int)+1)=(i_4:Int)+1:=Zp W10.1 W10.2
 unfold Zm
 simp+decide [YL,Q1,Zb, Tryz.f84,YF,C1,C1_,EG2,K3,S4_q,K5,C6_k,S7_q,S8_q,K9,W10_,hks0]
theorem Zwa{n:Nat}{rb:ByteArray}{a0:Zf}{i_4:Nat}{v3:Int}{q3:Rat}{r5:ByteArray}{cat7:ByteArray}{r6:ByteArray}{cat8:ByteArray}{cat9:ByteArray}(C1:(i_4:Int)<(a0.1.length:Int))(E2:a0.1[i_4]?=some (v3,q3))(K3:(Kl) [.lit (.int .i64 v3)]=some (.lit (.string r5)))(S4:(⟨#[120]⟩:ByteArray).size+r5.size≤9000000000000000000)(D4:cat7=(⟨#[120]⟩:ByteArray)++r5)(K5:run (n+6) 119 [Zk q3]=some (.lit (.string r6)))(C6:¬r6=(⟨#[49]⟩:ByteArray))(S7:r6.size+(⟨#[42]⟩:ByteArray).size≤9000000000000000000)(D7:cat8=r6++(⟨#[42]⟩:ByteArray))(S8:cat8.size+cat7.size≤9000000000000000000)(D8:cat9=cat8++cat7)(K9:Zr (n+6) 115 [.lit (.bool (Ze q3).s),.lit (.string cat9),.ptr 0 0] [.box 137 [(.lit (.pointer none)),.nl 1] false]=some (.tup [],[(0,.box 137 [.ptr 0 0,.own 2 rb.size] false),(2,.row 5 1 (Zx rb) 0)]))(W10:InI ((i_4:Int)+1)):
  Zm 0 (exec Tryz.prog (tab (n+7)) 0 55 (Za 84) big YF) (Za 84 4) (YL a0 i_4) (Q1 a0 (i_4+1) rb):=by
 obtain ⟨ks0,hks0⟩:∃k:ByteArray,(⟨#[42]⟩:ByteArray)=k:=⟨_,rfl⟩
 rw [hks0] at S7 D7
 have C1_:i_4<a0.1.length:=by omega
 obtain ⟨EL2,EG2⟩:=gEi E2
 have S4_q:=VL S4 D4
 simp only [Zk] at K5
 have C6_:(r6.toList==(⟨#[49]⟩:ByteArray).toList)=false:=by rw [beq_eq_false_iff_ne];exact fun h=>C6 (Zh8 h)
 have C6_k:(r6.toList==([49]:List UInt8))=false:=by rw [show ([49]:List UInt8)=(⟨#[49]⟩:ByteArray).toList by rw [XN]];exact C6_
 have S7_q:=VL S7 D7
 have S8_q:=VL S8 D8
 have W10_:IntKind.i64.wrap ((i_4:Int)+1)=(i_4:Int)+1:=Zp W10.1 W10.2
 unfold Zm
 simp+decide [YL,Q1,Zb, Tryz.f84,YF,C1,C1_,EG2,K3,S4_q,K5,C6_k,S7_q,S8_q,K9,W10_,hks0]
theorem Zzh{n:Nat}{ab rb:ByteArray}{a0:Zf}{i_4:Nat}{v3:Int}{q3:Rat}{r5:ByteArray}{cat7:ByteArray}{r6:ByteArray}{cat8:ByteArray}{cat9:ByteArray}(C1:(i_4:Int)<(a0.1.length:Int))(E2:a0.1[i_4]?=some (v3,q3))(K3:(Kl) [.lit (.int .i64 v3)]=some (.lit (.string r5)))(S4:(⟨#[120]⟩:ByteArray).size+r5.size≤9000000000000000000)(D4:cat7=(⟨#[120]⟩:ByteArray)++r5)(K5:run (n+6) 119 [Zk q3]=some (.lit (.string r6)))(C6:¬r6=(⟨#[49]⟩:ByteArray))(S7:r6.size+(⟨#[42]⟩:ByteArray).size≤9000000000000000000)(D7:cat8=r6++(⟨#[42]⟩:ByteArray))(S8:cat8.size+cat7.size≤9000000000000000000)(D8:cat9=cat8++cat7)(K9:Zr (n+6) 115 [.lit (.bool (Ze q3).s),.lit (.string cat9),.ptr 0 0] [.box 137 [.ptr 0 0,.own 1 ab.size] false,.row 5 1 (Zx ab) 0]=some (.tup [],[(0,.box 137 [.ptr 0 0,.own 3 rb.size] false),(3,.row 5 1 (Zx rb) 0)]))(W10:InI ((i_4:Int)+1)):
  Zm 0 (exec Tryz.prog (tab (n+7)) 0 55 (Za 84) big YF) (Za 84 4) (Q1 a0 i_4 ab) (Q1 a0 (i_4+1) rb):=by
 obtain ⟨ks0,hks0⟩:∃k:ByteArray,(⟨#[42]⟩:ByteArray)=k:=⟨_,rfl⟩
 rw [hks0] at S7 D7
 have C1_:i_4<a0.1.length:=by omega
 obtain ⟨EL2,EG2⟩:=gEi E2
 have S4_q:=VL S4 D4
 simp only [Zk] at K5
 have C6_:(r6.toList==(⟨#[49]⟩:ByteArray).toList)=false:=by rw [beq_eq_false_iff_ne];exact fun h=>C6 (Zh8 h)
 have C6_k:(r6.toList==([49]:List UInt8))=false:=by rw [show ([49]:List UInt8)=(⟨#[49]⟩:ByteArray).toList by rw [XN]];exact C6_
 have S7_q:=VL S7 D7
 have S8_q:=VL S8 D8
 have W10_:IntKind.i64.wrap ((i_4:Int)+1)=(i_4:Int)+1:=Zp W10.1 W10.2
 unfold Zm
 simp+decide [Q1,Zb, Tryz.f84,YF,C1,C1_,EG2,K3,S4_q,K5,C6_k,S7_q,S8_q,K9,W10_,hks0]
theorem Zv9{n:Nat}{rb:ByteArray}{a0:Zf}{i_4:Nat}{v3:Int}{q3:Rat}{r5:ByteArray}{cat7:ByteArray}{r6:ByteArray}(C1:(i_4:Int)<(a0.1.length:Int))(E2:a0.1[i_4]?=some (v3,q3))(K3:(Kl) [.lit (.int .i64 v3)]=some (.lit (.string r5)))(S4:(⟨#[120]⟩:ByteArray).size+r5.size≤9000000000000000000)(D4:cat7=(⟨#[120]⟩:ByteArray)++r5)(K5:run (n+6) 119 [Zk q3]=some (.lit (.string r6)))(C6:r6=(⟨#[49]⟩:ByteArray))(K7:Zr (n+6) 115 [.lit (.bool (Ze q3).s),.lit (.string cat7),.ptr 0 0] [.box 137 [(.lit (.pointer none)),.nl 1] false]=some (.tup [],[(0,.box 137 [.ptr 0 0,.own 1 rb.size] false),(1,.row 5 1 (Zx rb) 0)]))(W8:InI ((i_4:Int)+1)):
  Zm 0 (exec Tryz.prog (tab (n+7)) 0 55 (Za 84) big YF) (Za 84 4) (YL a0 i_4) (Q1 a0 (i_4+1) rb):=by
 have C1_:i_4<a0.1.length:=by omega
 obtain ⟨EL2,EG2⟩:=gEi E2
 have S4_q:=VL S4 D4
 simp only [Zk] at K5
 have C6_:(r6.toList==(⟨#[49]⟩:ByteArray).toList)=true:=by rw [C6];simp
 have C6_k:(r6.toList==([49]:List UInt8))=true:=by rw [show ([49]:List UInt8)=(⟨#[49]⟩:ByteArray).toList by rw [XN]];exact C6_
 have W8_:IntKind.i64.wrap ((i_4:Int)+1)=(i_4:Int)+1:=Zp W8.1 W8.2
 unfold Zm
 simp+decide [YL,Q1,Zb, Tryz.f84,YF,C1,C1_,EG2,K3,S4_q,K5,C6_k,K7,W8_]
theorem ZwF{n:Nat}{rb:ByteArray}{a0:Zf}{i_4:Nat}{v3:Int}{q3:Rat}{r5:ByteArray}{cat7:ByteArray}{r6:ByteArray}(C1:(i_4:Int)<(a0.1.length:Int))(E2:a0.1[i_4]?=some (v3,q3))(K3:(Kl) [.lit (.int .i64 v3)]=some (.lit (.string r5)))(S4:(⟨#[120]⟩:ByteArray).size+r5.size≤9000000000000000000)(D4:cat7=(⟨#[120]⟩:ByteArray)++r5)(K5:run (n+6) 119 [Zk q3]=some (.lit (.string r6)))(C6:r6=(⟨#[49]⟩:ByteArray))(K7:Zr (n+6) 115 [.lit (.bool (Ze q3).s),.lit (.string cat7),.ptr 0 0] [.box 137 [(.lit (.pointer none)),.nl 1] false]=some (.tup [],[(0,.box 137 [.ptr 0 0,.own 2 rb.size] false),(2,.row 5 1 (Zx rb) 0)]))(W8:InI ((i_4:Int)+1)):
  Zm 0 (exec Tryz.prog (tab (n+7)) 0 55 (Za 84) big YF) (Za 84 4) (YL a0 i_4) (Q1 a0 (i_4+1) rb):=by
 have C1_:i_4<a0.1.length:=by omega
 obtain ⟨EL2,EG2⟩:=gEi E2
 have S4_q:=VL S4 D4
 simp only [Zk] at K5
 have C6_:(r6.toList==(⟨#[49]⟩:ByteArray).toList)=true:=by rw [C6];simp
 have C6_k:(r6.toList==([49]:List UInt8))=true:=by rw [show ([49]:List UInt8)=(⟨#[49]⟩:ByteArray).toList by rw [XN]];exact C6_
 have W8_:IntKind.i64.wrap ((i_4:Int)+1)=(i_4:Int)+1:=Zp W8.1 W8.2
 unfold Zm
 simp+decide [YL,Q1,Zb, Tryz.f84,YF,C1,C1_,EG2,K3,S4_q,K5,C6_k,K7,W8_]
theorem ZyW{n:Nat}{ab rb:ByteArray}{a0:Zf}{i_4:Nat}{v3:Int}{q3:Rat}{r5:ByteArray}{cat7:ByteArray}{r6:ByteArray}(C1:(i_4:Int)<(a0.1.length:Int))(E2:a0.1[i_4]?=some (v3,q3))(K3:(Kl) [.lit (.int .i64 v3)]=some (.lit (.string r5)))(S4:(⟨#[120]⟩:ByteArray).size+r5.size≤9000000000000000000)(D4:cat7=(⟨#[120]⟩:ByteArray)++r5)(K5:run (n+6) 119 [Zk q3]=some (.lit (.string r6)))(C6:r6=(⟨#[49]⟩:ByteArray))(K7:Zr (n+6) 115 [.lit (.bool (Ze q3).s),.lit (.string cat7),.ptr 0 0] [.box 137 [.ptr 0 0,.own 1 ab.size] false,.row 5 1 (Zx ab) 0]=some (.tup [],[(0,.box 137 [.ptr 0 0,.own 3 rb.size] false),(3,.row 5 1 (Zx rb) 0)]))(W8:InI ((i_4:Int)+1)):
  Zm 0 (exec Tryz.prog (tab (n+7)) 0 55 (Za 84) big YF) (Za 84 4) (Q1 a0 i_4 ab) (Q1 a0 (i_4+1) rb):=by
 have C1_:i_4<a0.1.length:=by omega
 obtain ⟨EL2,EG2⟩:=gEi E2
 have S4_q:=VL S4 D4
 simp only [Zk] at K5
 have C6_:(r6.toList==(⟨#[49]⟩:ByteArray).toList)=true:=by rw [C6];simp
 have C6_k:(r6.toList==([49]:List UInt8))=true:=by rw [show ([49]:List UInt8)=(⟨#[49]⟩:ByteArray).toList by rw [XN]];exact C6_
 have W8_:IntKind.i64.wrap ((i_4:Int)+1)=(i_4:Int)+1:=Zp W8.1 W8.2
 unfold Zm
 simp+decide [Q1,Zb, Tryz.f84,YF,C1,C1_,EG2,K3,S4_q,K5,C6_k,K7,W8_]
theorem ZAr{n:Nat}{ab:ByteArray}{a0:Zf}{i_4:Nat}(C1:¬(i_4:Int)<(a0.1.length:Int)):
  Zj 0 (exec Tryz.prog (tab (n+7)) 0 55 (Za 84) big YF) (Za 84 (Zo 4)) (Q1 a0 i_4 ab) (.exit 0) (JT a0 ab):=by
 unfold Zj
 simp+decide [Q1,Zb, Tryz.f84,JT,YF,C1]
theorem Zy5{n:Nat}{rb:ByteArray}{a0:Zf}{r8:ByteArray}{r10:ByteArray}(L1:Zl Tryz.prog (tab (n+7)) 0 55 (Za 84) 4 YF (YL a0 0)=some (.exit 0,Vi a0))(C2:0<((Ze a0.2).l1.length:Int))(K3:run (n+6) 119 [Zk a0.2]=some (.lit (.string r8)))(K4:Zr (n+6) 115 [.lit (.bool (Ze a0.2).s),.lit (.string r8),.ptr 0 0] [.box 137 [(.lit (.pointer none)),.nl 1] false]=some (.tup [],[(0,.box 137 [.ptr 0 0,.own 1 rb.size] false),(1,.row 5 1 (Zx rb) 0)]))(K5:Zr (n+6) 120 [.ptr 0 0] [.box 137 [.ptr 0 0,.own 1 rb.size] false,.row 5 1 (Zx rb) 0]=some (.lit (.string r10),[(0,.box 137 [.ptr 0 0,.own 1 rb.size] false)])):
  run (n+7) 84 [Zc a0]=some (.lit (.string r10)):=by
 have C2_:0<(Ze a0.2).l1.length:=by omega
 simp only [Zk] at K3
 unfold run fnP
 simp+decide [Tryz.f84]
 rw [Zi (C':=YF) (e:=(YL a0 0)) ?_ ?_,L1]
 rotate_left
 ·kernel_rfl
 ·simp+decide [YL]
 simp+decide [Vi,C2_,K3,K4,K5]
theorem Zz3{n:Nat}{rb:ByteArray}{a0:Zf}{r8:ByteArray}{r10:ByteArray}(L1:Zl Tryz.prog (tab (n+7)) 0 55 (Za 84) 4 YF (YL a0 0)=some (.exit 0,Vi a0))(C2:0<((Ze a0.2).l1.length:Int))(K3:run (n+6) 119 [Zk a0.2]=some (.lit (.string r8)))(K4:Zr (n+6) 115 [.lit (.bool (Ze a0.2).s),.lit (.string r8),.ptr 0 0] [.box 137 [(.lit (.pointer none)),.nl 1] false]=some (.tup [],[(0,.box 137 [.ptr 0 0,.own 2 rb.size] false),(2,.row 5 1 (Zx rb) 0)]))(K5:Zr (n+6) 120 [.ptr 0 0] [.box 137 [.ptr 0 0,.own 1 rb.size] false,.row 5 1 (Zx rb) 0]=some (.lit (.string r10),[(0,.box 137 [.ptr 0 0,.own 1 rb.size] false)])):
  run (n+7) 84 [Zc a0]=some (.lit (.string r10)):=by
 have C2_:0<(Ze a0.2).l1.length:=by omega
 simp only [Zk] at K3
 unfold run fnP
 simp+decide [Tryz.f84]
 rw [Zi (C':=YF) (e:=(YL a0 0)) ?_ ?_,L1]
 rotate_left
 ·kernel_rfl
 ·simp+decide [YL]
 simp+decide [Vi,C2_,K3,K4,K5]
theorem Zzz{n:Nat}{rb:ByteArray}{a0:Zf}{r7:Int}{r9:ByteArray}{r11:ByteArray}(L1:Zl Tryz.prog (tab (n+7)) 0 55 (Za 84) 4 YF (YL a0 0)=some (.exit 0,Vi a0))(C2:¬0<((Ze a0.2).l1.length:Int))(K3:Zr (n+6) 116 [.ptr 0 0] [.box 137 [(.lit (.pointer none)),.nl 1] false]=some (.lit (.int .i64 r7),[(0,.box 137 [(.lit (.pointer none)),.nl 1] false)]))(C4:r7=0)(K5:run (n+6) 119 [Zk a0.2]=some (.lit (.string r9)))(K6:Zr (n+6) 115 [.lit (.bool (Ze a0.2).s),.lit (.string r9),.ptr 0 0] [.box 137 [(.lit (.pointer none)),.nl 1] false]=some (.tup [],[(0,.box 137 [.ptr 0 0,.own 1 rb.size] false),(1,.row 5 1 (Zx rb) 0)]))(K7:Zr (n+6) 120 [.ptr 0 0] [.box 137 [.ptr 0 0,.own 1 rb.size] false,.row 5 1 (Zx rb) 0]=some (.lit (.string r11),[(0,.box 137 [.ptr 0 0,.own 1 rb.size] false)])):
  run (n+7) 84 [Zc a0]=some (.lit (.string r11)):=by
 have C2_:¬0<(Ze a0.2).l1.length:=by omega
 have C4_:(r7==0)=true:=by rw [C4];simp
 simp only [Zk] at K5
 unfold run fnP
 simp+decide [Tryz.f84]
 rw [Zi (C':=YF) (e:=(YL a0 0)) ?_ ?_,L1]
 rotate_left
 ·kernel_rfl
 ·simp+decide [YL]
 simp+decide [Vi,C2_,K3,C4_,K5,K6,K7]
theorem Zy4{n:Nat}{ab rb:ByteArray}{a0:Zf}{r8:ByteArray}{r10:ByteArray}(L1:Zl Tryz.prog (tab (n+7)) 0 55 (Za 84) 4 YF (YL a0 0)=some (.exit 0,JT a0 ab))(C2:0<((Ze a0.2).l1.length:Int))(K3:run (n+6) 119 [Zk a0.2]=some (.lit (.string r8)))(K4:Zr (n+6) 115 [.lit (.bool (Ze a0.2).s),.lit (.string r8),.ptr 0 0] [.box 137 [.ptr 0 0,.own 1 ab.size] false,.row 5 1 (Zx ab) 0]=some (.tup [],[(0,.box 137 [.ptr 0 0,.own 3 rb.size] false),(3,.row 5 1 (Zx rb) 0)]))(K5:Zr (n+6) 120 [.ptr 0 0] [.box 137 [.ptr 0 0,.own 1 rb.size] false,.row 5 1 (Zx rb) 0]=some (.lit (.string r10),[(0,.box 137 [.ptr 0 0,.own 1 rb.size] false)])):
  run (n+7) 84 [Zc a0]=some (.lit (.string r10)):=by
 have C2_:0<(Ze a0.2).l1.length:=by omega
 simp only [Zk] at K3
 unfold run fnP
 simp+decide [Tryz.f84]
 rw [Zi (C':=YF) (e:=(YL a0 0)) ?_ ?_,L1]
 rotate_left
 ·kernel_rfl
 ·simp+decide [YL]
 simp+decide [JT,C2_,K3,K4,K5]
theorem ZAj{n:Nat}{ab:ByteArray}{a0:Zf}{r7:Int}{r12:ByteArray}(L1:Zl Tryz.prog (tab (n+7)) 0 55 (Za 84) 4 YF (YL a0 0)=some (.exit 0,JT a0 ab))(C2:¬0<((Ze a0.2).l1.length:Int))(K3:Zr (n+6) 116 [.ptr 0 0] [.box 137 [.ptr 0 0,.own 1 ab.size] false,.row 5 1 (Zx ab) 0]=some (.lit (.int .i64 r7),[(0,.box 137 [.ptr 0 0,.own 1 ab.size] false),(1,.row 5 1 (Zx ab) 0)]))(C4:¬r7=0)(K5:Zr (n+6) 120 [.ptr 0 0] [.box 137 [.ptr 0 0,.own 1 ab.size] false,.row 5 1 (Zx ab) 0]=some (.lit (.string r12),[(0,.box 137 [.ptr 0 0,.own 1 ab.size] false)])):
  run (n+7) 84 [Zc a0]=some (.lit (.string r12)):=by
 have C2_:¬0<(Ze a0.2).l1.length:=by omega
 have C4_:(r7==0)=false:=by simpa using C4
 unfold run fnP
 simp+decide [Tryz.f84]
 rw [Zi (C':=YF) (e:=(YL a0 0)) ?_ ?_,L1]
 rotate_left
 ·kernel_rfl
 ·simp+decide [YL]
 simp+decide [JT,C2_,K3,C4_,K5]
theorem ZiN{n:Nat}:Zr n 116 [.ptr 0 0] [.box 137 [.lit (.pointer none),.nl 1] false]=some (.lit (.int .i64 0),[(0,.box 137 [.lit (.pointer none),.nl 1] false)]):=by
 unfold Zr fnL
 simp+decide [Tryz.f116]
theorem ZiE{n:Nat}{k:Nat}{es:List (List AV)}:Zr n 116 [.ptr 0 0] [.box 137 [.ptr 0 0,.own 1 k] false,.row 5 1 es 0]=some (.lit (.int .i64 k),[(0,.box 137 [.ptr 0 0,.own 1 k] false),(1,.row 5 1 es 0)]):=by
 unfold Zr fnL
 simp+decide [Tryz.f116]
theorem Zu3{n:Nat}{s:ByteArray}(h:ZG s.size 1=true):Zr (n+1) 117 [.ptr 0 0,.lit (.string s)] [.box 137 [.lit (.pointer none),.nl 1] false]=some (.tup [.lit (.int .i64 s.size),.lit .nilIface],[(0,.box 137 [.ptr 0 0,.own 1 s.size] false),(1,.row 5 1 (Zx s) 0)]):=by
 unfold Zr fnL
 simp+decide [Tryz.f117,ccG,ZfH,Zat,apS,Zcb,h]
theorem Zge{n:Nat}{a s:ByteArray}(h:ZG (a.size+s.size) 1=true):Zr (n+1) 117 [.ptr 0 0,.lit (.string s)] [.box 137 [.ptr 0 0,.own 1 a.size] false,.row 5 1 (Zx a) 0]=some (.tup [.lit (.int .i64 s.size),.lit .nilIface],[(0,.box 137 [.ptr 0 0,.own 2 (a.size+s.size)] false),(2,.row 5 1 (Zx (a++s)) 0)]):=by
 unfold Zr fnL
 simp+decide [Tryz.f117,ccG,ZfH,Zat,apS,Zcb,h]
theorem ZxG{n:Nat}{a:ByteArray}(h0:0<a.size)(h:(a.size:Int)≤9223372036854775807):Zr n 120 [.ptr 0 0] [.box 137 [.ptr 0 0,.own 1 a.size] false,.row 5 1 (Zx a) 0]=some (.lit (.string a),[(0,.box 137 [.ptr 0 0,.own 1 a.size] false)]):=by
 unfold Zr fnL
 simp+decide [Tryz.f120,Zs7,usT,h0,h]
theorem ZtR{n:Nat}{s:ByteArray}(h:ZG s.size 1=true):Zr (n+2) 115 [.lit (.bool false),.lit (.string s),.ptr 0 0] [.box 137 [.lit (.pointer none),.nl 1] false]=some (.tup [],[(0,.box 137 [.ptr 0 0,.own 1 s.size] false),(1,.row 5 1 (Zx s) 0)]):=by
 have K:=Zu3 (n:=n) h
 unfold Zr fnL
 simp+decide [Tryz.f115,ZiN,K]
theorem ZsY{n:Nat}{s:ByteArray}(h0:ZG 1 1=true)(h:ZG (1+s.size) 1=true):Zr (n+2) 115 [.lit (.bool true),.lit (.string s),.ptr 0 0] [.box 137 [.lit (.pointer none),.nl 1] false]=some (.tup [],[(0,.box 137 [.ptr 0 0,.own 2 (1+s.size)] false),(2,.row 5 1 (Zx ((⟨#[45]⟩:ByteArray)++s)) 0)]):=by
 have K1:=Zu3 (n:=n) (s:=(⟨#[45]⟩:ByteArray)) h0
 have K2:=Zge (n:=n) (a:=(⟨#[45]⟩:ByteArray)) (s:=s) h
 unfold Zr fnL
 simp+decide [Tryz.f115,ZiN,K1,K2]
theorem Zsf{n:Nat}{a s:ByteArray}(ha:0<a.size)(h0:ZG (a.size+3) 1=true)(h:ZG (a.size+3+s.size) 1=true):Zr (n+2) 115 [.lit (.bool false),.lit (.string s),.ptr 0 0] [.box 137 [.ptr 0 0,.own 1 a.size] false,.row 5 1 (Zx a) 0]=some (.tup [],[(0,.box 137 [.ptr 0 0,.own 3 (a.size+3+s.size)] false),(3,.row 5 1 (Zx (a++(⟨#[32,43,32]⟩:ByteArray)++s)) 0)]):=by
 have K1:=Zge (n:=n) (a:=a) (s:=(⟨#[32,43,32]⟩:ByteArray)) h0
 have K2:=Zge (n:=n) (a:=a++(⟨#[32,43,32]⟩:ByteArray)) (s:=s) (by rw [ByteArray.size_append];exact h)
 rw [ByteArray.size_append] at K2
 have e1:((a.size:Int)==0)=false:=by rw [beq_eq_false_iff_ne];omega
 unfold Zr fnL
 simp+decide [Tryz.f115,ZiE,K1,K2,e1,ha]
theorem ZsZ{n:Nat}{a s:ByteArray}(ha:0<a.size)(h0:ZG (a.size+3) 1=true)(h:ZG (a.size+3+s.size) 1=true):Zr (n+2) 115 [.lit (.bool true),.lit (.string s),.ptr 0 0] [.box 137 [.ptr 0 0,.own 1 a.size] false,.row 5 1 (Zx a) 0]=some (.tup [],[(0,.box 137 [.ptr 0 0,.own 3 (a.size+3+s.size)] false),(3,.row 5 1 (Zx (a++(⟨#[32,45,32]⟩:ByteArray)++s)) 0)]):=by
 have K1:=Zge (n:=n) (a:=a) (s:=(⟨#[32,45,32]⟩:ByteArray)) h0
 have K2:=Zge (n:=n) (a:=a++(⟨#[32,45,32]⟩:ByteArray)) (s:=s) (by rw [ByteArray.size_append];exact h)
 rw [ByteArray.size_append] at K2
 have e1:((a.size:Int)==0)=false:=by rw [beq_eq_false_iff_ne];omega
 unfold Zr fnL
 simp+decide [Tryz.f115,ZiE,K1,K2,e1,ha]
section
open Lib (decDigits)
attribute [local irreducible] run Zr Zl exec
def prt(t:Int × Rat):List UInt8:=(if Qa t.2=[49] then [] else Qa t.2++[42])++120::decDigits t.1.toNat
def ngT(q:Rat):Bool:=(Ze q).s
def txS(a:List UInt8)(t:Int × Rat):List UInt8:=jn a (ngT t.2) (prt t)
def txL(l:List (Int × Rat)):List UInt8:=l.foldl txS []
def txt(f:Zf):List UInt8:=if f.2≠0∨txL f.1=[] then jn (txL f.1) (ngT f.2) (Qa f.2) else txL f.1
theorem Zjj{a p:List UInt8}{neg:Bool}(h:p≠[]):jn a neg p≠[]:=by
 unfold jn
 split
 ·split
  ·simp
  ·exact h
 ·intro e
  have e2:=(List.append_eq_nil_iff.1 e).1
  contradiction
theorem ZiI(t:Int × Rat):prt t≠[]:=fun e=>by
 have:=(List.append_eq_nil_iff.1 e).2
 cases this
theorem ZsE(q:Rat):Qa q≠[]:=fun e=>ZAe _ (List.append_eq_nil_iff.1 e).1
theorem ZqV(l:List (Int × Rat))(t:Int × Rat):txL (l++[t])=txS (txL l) t:=by
 unfold txL
 rw [List.foldl_append]
 rfl
structure TxB (f:Zf):Prop where
 l:f.1.length≤100
 t:∀t∈f.1,H t.2≤10000∧0≤t.1∧t.1<9223372036854775808
 k:H f.2≤10000
theorem ZaK{K m:Nat}(h:(lmb K).length≤m):(decDigits K).length≤32*m+1:=by
 have hb:K<2 ^ (32*(lmb K).length):=by
  have:=XD (Yq K)
  rw [Zg] at this
  rwa [Nat.pow_mul]
 have:=ZaD _ K hb
 omega
theorem ZbJ{q:Rat}(h:H q≤10000):(Qa q).length≤640100:=by
 have a1:(lmb q.num.natAbs).length≤H q:=Nat.le_max_left _ _
 have a2:(lmb q.den).length≤H q:=Nat.le_max_right _ _
 have h1:=ZaK (K:=q.num.natAbs) (m:=10000) (by omega)
 have h2:=ZaK (K:=q.den) (m:=10000) (by omega)
 unfold Qa
 rw [List.length_append]
 split
 ·simp;omega
 ·simp;omega
theorem Zjb{t:Int × Rat}(h:H t.2≤10000)(h0:0≤t.1)(h1:t.1<9223372036854775808):(prt t).length≤640300:=by
 have a1:=ZbJ h
 have a2:(lmb t.1.toNat).length≤2:=Yg (by omega)
 have a3:=ZaK a2
 unfold prt
 rw [List.length_append,List.length_cons]
 split
 ·simp;omega
 ·rw [List.length_append];simp;omega
theorem ZtA{a:List UInt8}{t:Int × Rat}(h:H t.2≤10000∧0≤t.1∧t.1<9223372036854775808):(txS a t).length≤a.length+640303:=by
 have:=Zqp a (ngT t.2) (prt t)
 have:=Zjb h.1 h.2.1 h.2.2
 unfold txS
 omega
theorem ZiZ:∀{l:List (Int × Rat)} {a:List UInt8},(∀t∈l,H t.2≤10000∧0≤t.1∧t.1<9223372036854775808)→(l.foldl txS a).length≤a.length+l.length*640303
 | [],a,_=>by simp
 | t::l,a,h=>by
   have h1:=ZtA (a:=a) (h t (by simp))
   have h2:=ZiZ (l:=l) (a:=txS a t) (fun u hu=>h u (by simp [hu]))
   rw [List.foldl_cons,List.length_cons,Nat.add_mul]
   omega
theorem ZzG(p:List UInt8):jn [] false p=p:=by simp [jn]
theorem Zza(p:List UInt8):jn [] true p=45::p:=by simp [jn]
theorem ZzI{a:List UInt8}(h:a≠[])(p:List UInt8):jn a false p=a++[32,43,32]++p:=by simp [jn,h]
theorem ZAg{a:List UInt8}(h:a≠[])(p:List UInt8):jn a true p=a++[32,45,32]++p:=by simp [jn,h]
section
variable {n : Nat}
theorem Zh4{neg:Bool}{p:List UInt8}(hs:neg=false)(hp:p.length≤90000000):Zr (n+6) 115 [.lit (.bool neg),.lit (.string (bs p)),.ptr 0 0] [.box 137 [.lit (.pointer none),.nl 1] false]=some (.tup [],[(0,.box 137 [.ptr 0 0,.own 1 (bs (jn [] neg p)).size] false),(1,.row 5 1 (Zx (bs (jn [] neg p))) 0)]):=by
 subst hs
 rw [ZzG]
 exact ZtR (n:=n+4) (Zq (by rw [ZX];omega) (by omega))
theorem ZqY{neg:Bool}{p:List UInt8}(hs:neg=true)(hp:p.length≤90000000):Zr (n+6) 115 [.lit (.bool neg),.lit (.string (bs p)),.ptr 0 0] [.box 137 [.lit (.pointer none),.nl 1] false]=some (.tup [],[(0,.box 137 [.ptr 0 0,.own 2 (bs (jn [] neg p)).size] false),(2,.row 5 1 (Zx (bs (jn [] neg p))) 0)]):=by
 subst hs
 have h:=ZsY (n:=n+4) (s:=bs p) (Zq (by omega) (by omega)) (Zq (by rw [ZX];omega) (by omega))
 have h1:(⟨#[45]⟩:ByteArray)++bs p=bs (45::p):=Xz [45] p
 have h2:1+(bs p).size=(bs (45::p)).size:=by rw [ZX,ZX,List.length_cons];omega
 rw [h1,h2] at h
 rw [Zza]
 exact h
theorem ZuJ{a p:List UInt8}{neg:Bool}(ha:a≠[])(hp:a.length+p.length≤90000000):Zr (n+6) 115 [.lit (.bool neg),.lit (.string (bs p)),.ptr 0 0] [.box 137 [.ptr 0 0,.own 1 (bs a).size] false,.row 5 1 (Zx (bs a)) 0]=some (.tup [],[(0,.box 137 [.ptr 0 0,.own 3 (bs (jn a neg p)).size] false),(3,.row 5 1 (Zx (bs (jn a neg p))) 0)]):=by
 have hs:0<(bs a).size:=by rw [ZX];exact List.length_pos_iff.2 ha
 have c2:(⟨#[32,45,32]⟩:ByteArray)=bs [32,45,32]:=rfl
 have c3:(⟨#[32,43,32]⟩:ByteArray)=bs [32,43,32]:=rfl
 cases neg with
 | false=>
   have h:=Zsf (n:=n+4) (a:=bs a) (s:=bs p) hs (Zq (by rw [ZX];omega) (by omega)) (Zq (by rw [ZX,ZX];omega) (by omega))
   have h2:(bs a).size+3+(bs p).size=(bs (a++[32,43,32]++p)).size:=by rw [ZX,ZX,ZX,List.length_append,List.length_append];rfl
   rw [c3,Xz,Xz,h2] at h
   rw [ZzI ha]
   exact h
 | true=>
   have h:=ZsZ (n:=n+4) (a:=bs a) (s:=bs p) hs (Zq (by rw [ZX];omega) (by omega)) (Zq (by rw [ZX,ZX];omega) (by omega))
   have h2:(bs a).size+3+(bs p).size=(bs (a++[32,45,32]++p)).size:=by rw [ZX,ZX,ZX,List.length_append,List.length_append];rfl
   rw [c2,Xz,Xz,h2] at h
   rw [ZAg ha]
   exact h
theorem Znq{a:List UInt8}(ha:a≠[])(hl:a.length≤90000000):Zr (n+6) 120 [.ptr 0 0] [.box 137 [.ptr 0 0,.own 1 (bs a).size] false,.row 5 1 (Zx (bs a)) 0]=some (.lit (.string (bs a)),[(0,.box 137 [.ptr 0 0,.own 1 (bs a).size] false)]):=
 ZxG (n:=n+6) (by rw [ZX];exact List.length_pos_iff.2 ha) (by rw [ZX];omega)
theorem ZvK{v:Int}(h0:0≤v)(h1:v<9223372036854775808):Kl [.lit (.int .i64 v)]=some (.lit (.string (bs (decDigits v.toNat)))):=by
 simp only [Kl]
 rw [if_pos ⟨by omega,by omega⟩]
 have e:Lib.itoa v=decDigits v.toNat:=by
  unfold Lib.itoa
  rw [if_neg (by omega)]
 rw [e]
 rfl
theorem ZbN{t:Int × Rat}:(Qa t.2=[49]→bs (prt t)=(⟨#[120]⟩:ByteArray)++bs (decDigits t.1.toNat))∧(Qa t.2≠[49]→bs (prt t)=(bs (Qa t.2)++(⟨#[42]⟩:ByteArray))++((⟨#[120]⟩:ByteArray)++bs (decDigits t.1.toNat))):=by
 have c1:(⟨#[120]⟩:ByteArray)=bs [120]:=rfl
 have c2:(⟨#[42]⟩:ByteArray)=bs [42]:=rfl
 unfold prt
 refine ⟨fun h=>?_,fun h=>?_⟩
 ·rw [if_pos h,c1,Xz];rfl
 ·rw [if_neg h,c1,c2,Xz,Xz,Xz];rfl
theorem ZAf{f:Zf}(hf:TxB f):run (n+7) 84 [Zc f]=some (.lit (.string (bs (txt f)))):=by
 have hl:=hf.l
 have hT:∀i,i≤f.1.length→(txL (f.1.take i)).length≤i*640303:=fun i hi=>by
  have h:=ZiZ (l:=f.1.take i) (a:=[]) (fun t ht=>hf.t t (List.mem_of_mem_take ht))
  rw [List.length_take] at h
  simp only [List.length_nil,Nat.zero_add] at h
  have:min i f.1.length*640303=i*640303:=by rw [Nat.min_eq_left hi]
  unfold txL
  exact Nat.le_trans h (Nat.le_of_eq this)
 obtain ⟨b,hL,hI1,hI2⟩:=QV (O:=tab (n+7)) (P:= Tryz.prog) (m:=0) (N:=55) (lives:=Za 84) (r:=4) (C:=YF) (exN:=.exit 0) (M:=f.1.length)
  (enc:=fun i (b:List UInt8)=>if b=[] then YL f i else Q1 f i (bs b)) (out:=fun b=>if b=[] then Vi f else JT f (bs b))
  (fun i b=>b=txL (f.1.take i)∧i≤f.1.length) [] ⟨rfl,Nat.zero_le _⟩ (by omega) (fun h=>by cases h)
  (fun i b hi hI=>by
   obtain ⟨hb,hle⟩:=hI
   have hx:f.1[i]?=some f.1[i]:=gEt hi
   obtain ⟨t,ht⟩:∃t,f.1[i]=t:=⟨_,rfl⟩
   rw [ht] at hx
   have htk:f.1.take (i+1)=f.1.take i++[t]:=by rw [List.take_add_one,hx];rfl
   obtain ⟨v,q⟩:=t
   obtain ⟨hq,hv0,hv1⟩:=hf.t _ (gMe hx)
   dsimp only at hq hv0 hv1
   have hbl:=hT i hle
   rw [←hb] at hbl
   have hi6:i*640303≤64030300:=Nat.mul_le_mul_right 640303 (show i≤100 by omega)
   have hpl:=Zjb (t:=(v,q)) hq hv0 hv1
   have hal:=ZbJ hq
   have hdl:=ZaK (K:=v.toNat) (m:=2) (Yg (by omega))
   have K3:=ZvK hv0 hv1
   have K5:=ZuK (n:=n) (q:=q) (by omega)
   have C1:(i:Int)<(f.1.length:Int):=by omega
   have W:InI ((i:Int)+1):=⟨by omega,by omega⟩
   have e1:(⟨#[120]⟩:ByteArray).size=1:=rfl
   have e2:(⟨#[42]⟩:ByteArray).size=1:=rfl
   have c1:(⟨#[49]⟩:ByteArray)=bs [49]:=rfl
   have S4:(⟨#[120]⟩:ByteArray).size+(bs (decDigits v.toNat)).size≤9000000000000000000:=by rw [e1,ZX];omega
   have S7:(bs (Qa q)).size+(⟨#[42]⟩:ByteArray).size≤9000000000000000000:=by rw [e2,ZX];omega
   have c4:(⟨#[120]⟩:ByteArray)++bs (decDigits v.toNat)=bs (120::decDigits v.toNat):=Xz [120] _
   have c5:bs (Qa q)++(⟨#[42]⟩:ByteArray)=bs (Qa q++[42]):=Xz _ [42]
   have S8:(bs (Qa q)++(⟨#[42]⟩:ByteArray)).size+((⟨#[120]⟩:ByteArray)++bs (decDigits v.toNat)).size≤9000000000000000000:=by
    rw [c4,c5,ZX,ZX,List.length_append,List.length_cons];simp;omega
   have hne:jn b (Ze q).s (prt (v,q))≠[]:=Zjj (ZiI _)
   refine ⟨jn b (Ze q).s (prt (v,q)),?_,by rw [htk,ZqV,←hb];rfl,hi⟩
   rw [if_neg hne]
   by_cases h0:b=[]
   ·subst h0
    rw [if_pos rfl]
    rcases (Bool.eq_false_or_eq_true (Ze q).s).symm with hs|hs
    ·have P0:=Zh4 (n:=n) (p:=prt (v,q)) hs (by omega)
     by_cases h1:Qa q=[49]
     ·have e:=ZbN (t:=(v,q)).1 h1
      exact Zv9 C1 hx K3 S4 e K5 (by rw [h1];rfl) P0 W
     ·have e:=ZbN (t:=(v,q)).2 h1
      exact Zv5 C1 hx K3 S4 rfl K5 (fun h=>h1 (Zc8 (h.trans c1))) S7 rfl S8 e P0 W
    ·have P0:=ZqY (n:=n) (p:=prt (v,q)) hs (by omega)
     by_cases h1:Qa q=[49]
     ·have e:=ZbN (t:=(v,q)).1 h1
      exact ZwF C1 hx K3 S4 e K5 (by rw [h1];rfl) P0 W
     ·have e:=ZbN (t:=(v,q)).2 h1
      exact Zwa C1 hx K3 S4 rfl K5 (fun h=>h1 (Zc8 (h.trans c1))) S7 rfl S8 e P0 W
   ·rw [if_neg h0]
    have P0:=ZuJ (n:=n) (a:=b) (p:=prt (v,q)) (neg:=(Ze q).s) h0 (by omega)
    by_cases h1:Qa q=[49]
    ·have e:=ZbN (t:=(v,q)).1 h1
     exact ZyW C1 hx K3 S4 e K5 (by rw [h1];rfl) P0 W
    ·have e:=ZbN (t:=(v,q)).2 h1
     exact Zzh C1 hx K3 S4 rfl K5 (fun h=>h1 (Zc8 (h.trans c1))) S7 rfl S8 e P0 W)
  (fun b hI=>by
   by_cases h0:b=[]
   ·rw [if_pos h0,if_pos h0];exact Zni (by omega)
   ·rw [if_neg h0,if_neg h0];exact ZAr (by omega))
 rw [List.take_length] at hI1
 rw [if_pos rfl] at hL
 have hbl:=hT f.1.length (Nat.le_refl _)
 rw [List.take_length,←hI1] at hbl
 have hi6:f.1.length*640303≤64030300:=Nat.mul_le_mul_right 640303 hl
 have hkl:=ZbJ hf.k
 have K3:=ZuK (n:=n) (q:=f.2) (by have:=hf.k;omega)
 have hn0:(0<((Ze f.2).l1.length:Int))↔f.2≠0:=by
  have h9:(Ze f.2).l1=lmb f.2.num.natAbs:=rfl
  rw [h9]
  constructor
  ·intro h e
   rw [e] at h
   simp [Zad] at h
  ·intro h
   have:0<f.2.num.natAbs:=by
    rcases Nat.eq_zero_or_pos f.2.num.natAbs with h1|h1
    ·exact absurd (Rat.num_eq_zero.1 (Int.natAbs_eq_zero.1 h1)) h
    ·exact h1
   rw [QA this]
   simp
 unfold txt ngT
 rw [←hI1]
 have hne:jn b (Ze f.2).s (Qa f.2)≠[]:=Zjj (ZsE _)
 have hjl:=Zqp b (Ze f.2).s (Qa f.2)
 have Z:=Znq (n:=n) hne (by omega)
 by_cases h0:b=[]
 ·rw [if_pos (.inr h0)]
  subst h0
  rw [if_pos rfl] at hL
  by_cases h2:f.2=0
  ·have hs:(Ze f.2).s=false:=by rw [h2];decide+kernel
   have P0:=Zh4 (n:=n) (p:=Qa f.2) hs (by omega)
   exact Zzz hL (fun h=>hn0.1 h h2) (ZiN (n:=n+6)) rfl K3 P0 Z
  ·rcases (Bool.eq_false_or_eq_true (Ze f.2).s).symm with hs|hs
   ·have P0:=Zh4 (n:=n) (p:=Qa f.2) hs (by omega)
    exact Zy5 hL (hn0.2 h2) K3 P0 Z
   ·have P0:=ZqY (n:=n) (p:=Qa f.2) hs (by omega)
    exact Zz3 hL (hn0.2 h2) K3 P0 Z
 ·rw [if_neg h0] at hL
  by_cases h2:f.2=0
  ·rw [if_neg (fun h=>h.elim (fun h=>h h2) h0)]
   have L0:=ZiE (n:=n+6) (k:=(bs b).size) (es:=Zx (bs b))
   exact ZAj hL (fun h=>hn0.1 h h2) L0 (by rw [ZX];have:=List.length_pos_iff.2 h0;omega) (Znq (n:=n) h0 (by omega))
  ·rw [if_pos (.inl h2)]
   exact Zy4 hL (hn0.2 h2) K3 (ZuJ (n:=n) h0 (by omega)) Z
end
end
section
open Lib (decDigits)
def isD(c:UInt8):Bool:=decide (48≤c.toNat∧c.toNat≤57)
def dgV(D:List UInt8)(n:Nat):Nat:=D.foldl (fun n c=>n*10+(c.toNat-48)) n
theorem Zcy{k:Nat}(h:k<10):(dig k).toNat=48+k:=by
 unfold dig
 rw [UInt8.toNat_ofNat']
 omega
theorem Zu0{k:Nat}(h:k<10):isD (dig k)=true:=by
 unfold isD
 rw [Zcy h]
 simp;omega
theorem Zuc:∀(m u:Nat),u≤m→(∀c∈decDigits u,isD c=true)∧dgV (decDigits u) 0=u∧(0<u→∃c r,decDigits u=c::r∧c≠48)
 | m,u,hm=>by
   by_cases h:u<10
   ·rw [ZdV h]
    refine ⟨fun c hc=>by rw [List.mem_singleton.1 hc];exact Zu0 h,?_,fun h0=>⟨dig u,[],rfl,fun e=>?_⟩⟩
    ·show 0*10+((dig u).toNat-48)=u
     rw [Zcy h];omega
    ·have:=Zcy h
     rw [e] at this
     have e2:(48:UInt8).toNat=48:=rfl
     omega
   ·cases m with
    | zero=>omega
    | succ m=>
      obtain ⟨a1,a2,a3⟩:=Zuc m (u / 10) (by omega)
      obtain ⟨c,r,e,hc⟩:=a3 (by omega)
      rw [ZhP h]
      have hr:u % 10<10:=Nat.mod_lt _ (by omega)
      refine ⟨fun c hc=>?_,?_,fun _=>⟨c,r++[dig (u % 10)],by rw [e];rfl,hc⟩⟩
      ·rcases List.mem_append.1 hc with h1|h1
       ·exact a1 c h1
       ·rw [List.mem_singleton.1 h1];exact Zu0 hr
      ·unfold dgV at a2 ⊢
       rw [List.foldl_append,a2]
       show u / 10*10+((dig (u % 10)).toNat-48)=u
       rw [Zcy hr];omega
structure NB (q:Rat):Prop where
 n:(decDigits q.num.natAbs).length≤200
 d:(decDigits q.den).length≤200
def tlT(c:Rat):List (Int × Rat)→List UInt8
 | []=>if c≠0 then (if ngT c=true then [32,45,32] else [32,43,32])++Qa c else []
 | t::l=>((if ngT t.2=true then [32,45,32] else [32,43,32])++prt t)++tlT c l
structure TmN (t:Int × Rat):Prop where
 q:NB t.2
 v0:0≤t.1
 v:(decDigits t.1.toNat).length≤9
theorem Zm2(c:Rat):∀(l:List (Int × Rat)) (a:List UInt8),a≠[]→(if c≠0∨l.foldl txS a=[] then jn (l.foldl txS a) (ngT c) (Qa c) else l.foldl txS a)=a++tlT c l
 | [],a,h=>by
   rw [List.foldl_nil]
   unfold tlT jn
   rw [if_neg h]
   by_cases hc:c=0
   ·rw [if_neg (by intro e;rcases e with e|e;exact e hc;exact h e),if_neg (fun e=>e hc),List.append_nil]
   ·rw [if_pos (.inl hc),if_pos hc]
 | t::l,a,h=>by
   rw [List.foldl_cons,Zm2 c l (txS a t) (Zjj (ZiI t))]
   show txS a t++tlT c l=a++(((if ngT t.2=true then [32,45,32] else [32,43,32])++prt t)++tlT c l)
   unfold txS jn
   rw [if_neg h,List.append_assoc]
def Beg(c:UInt8)(T:List UInt8):Prop:=T=[]∨∃r,T=c::r
theorem Zbe{c:UInt8}:∀{A A' T T':List UInt8},c ∉ A→c ∉ A'→Beg c T→Beg c T'→A++T=A'++T'→A=A'∧T=T'
 | [],[],T,T',_,_,_,_,h=>⟨rfl,h⟩
 | [],a::A',T,T',_,h2,h3,_,h=>by
   rcases h3 with rfl|⟨r,rfl⟩
   ·cases h
   ·rw [List.nil_append,List.cons_append,List.cons.injEq] at h
    exact absurd (h.1▸List.mem_cons_self) h2
 | a::A,[],T,T',h1,_,_,h4,h=>by
   rcases h4 with rfl|⟨r,rfl⟩
   ·cases h
   ·rw [List.nil_append,List.cons_append,List.cons.injEq] at h
    exact absurd (h.1▸List.mem_cons_self) h1
 | a::A,b::A',T,T',h1,h2,h3,h4,h=>by
   rw [List.cons_append,List.cons_append,List.cons.injEq] at h
   obtain ⟨rfl,h⟩:=h
   obtain ⟨rfl,e⟩:=Zbe (fun x=>h1 (List.mem_cons_of_mem _ x)) (fun x=>h2 (List.mem_cons_of_mem _ x)) h3 h4 h
   exact ⟨rfl,e⟩
theorem ZgT{k:Nat}{c:UInt8}(hc:isD c=false):c ∉ decDigits k:=fun h=>by
 have:=(Zuc k k (Nat.le_refl _)).1 c h
 rw [hc] at this
 cases this
theorem ZoJ{u v:Nat}(h:decDigits u=decDigits v):u=v:=by
 have a:=(Zuc u u (Nat.le_refl _)).2.1
 have b:=(Zuc v v (Nat.le_refl _)).2.1
 rw [h,b] at a
 exact a.symm
theorem ZbI{q:Rat}{c:UInt8}(hc:isD c=false)(h47:c≠47):c ∉ Qa q:=fun h=>by
 unfold Qa at h
 rcases List.mem_append.1 h with h|h
 ·exact ZgT hc h
 ·split at h
  ·cases h
  ·rcases List.mem_cons.1 h with h|h
   ·exact h47 h
   ·exact ZgT hc h
theorem ZfD{q r:Rat}(hs:ngT q=ngT r)(h:Qa q=Qa r):q=r:=by
 unfold Qa at h
 have b:∀q:Rat,Beg 47 (if q.den=1 then [] else 47::decDigits q.den):=fun q=>by
  split
  ·exact .inl rfl
  ·exact .inr ⟨_,rfl⟩
 obtain ⟨h1,h2⟩:=Zbe (ZgT (by decide)) (ZgT (by decide)) (b q) (b r) h
 have e1:=ZoJ h1
 have e2:q.den=r.den:=by
  by_cases a:q.den=1 <;>by_cases c:r.den=1
  ·rw [a,c]
  ·rw [if_pos a,if_neg c] at h2;cases h2
  ·rw [if_neg a,if_pos c] at h2;cases h2
  ·rw [if_neg a,if_neg c,List.cons.injEq] at h2;exact ZoJ h2.2
 have e3:(q.num<0)↔(r.num<0):=by
  have:decide (q.num<0)=decide (r.num<0):=hs
  exact decide_eq_decide.1 this
 exact Rat.ext (by omega) e2
theorem ZiB{t:Int × Rat}{c:UInt8}(hc:isD c=false)(h1:c≠47)(h2:c≠42)(h3:c≠120):c ∉ prt t:=fun h=>by
 unfold prt at h
 rcases List.mem_append.1 h with h|h
 ·split at h
  ·cases h
  ·rcases List.mem_append.1 h with h|h
   ·exact ZbI hc h1 h
   ·exact h2 (List.mem_singleton.1 h)
 ·rcases List.mem_cons.1 h with h|h
  ·exact h3 h
  ·exact ZgT hc h
theorem ZjR{t u:Int × Rat}(h0:0≤t.1)(h1:0≤u.1)(hs:ngT t.2=ngT u.2)(h:prt t=prt u):t=u:=by
 have no:∀t:Int × Rat,(120:UInt8) ∉ (if Qa t.2=[49] then [] else Qa t.2++[42]):=fun t hm=>by
  split at hm
  ·cases hm
  ·rcases List.mem_append.1 hm with h|h
   ·exact ZbI (by decide) (by decide) h
   ·exact absurd (List.mem_singleton.1 h) (by decide)
 obtain ⟨a,b⟩:=Zbe (no t) (no u) (.inr ⟨_,rfl⟩) (.inr ⟨_,rfl⟩) h
 rw [List.cons.injEq] at b
 have e1:=ZoJ b.2
 have e2:Qa t.2=Qa u.2:=by
  by_cases c:Qa t.2=[49] <;>by_cases d:Qa u.2=[49]
  ·rw [c,d]
  ·rw [if_pos c,if_neg d] at a
   exact absurd a.symm (by simp)
  ·rw [if_neg c,if_pos d] at a
   exact absurd a (by simp)
  ·rw [if_neg c,if_neg d] at a
   exact List.append_cancel_right a
 exact Prod.ext (by omega) (ZfD hs e2)
theorem Ze0(c:Rat)(l:List (Int × Rat)):Beg 32 (tlT c l):=by
 cases l with
 | nil=>
   unfold tlT
   by_cases hc:c≠0
   ·rw [if_pos hc];split <;>exact .inr ⟨_,rfl⟩
   ·rw [if_neg hc];exact .inl rfl
 | cons t l=>
   unfold tlT
   split <;>exact .inr ⟨_,rfl⟩
def Zhm(n:Bool):List UInt8:=if n=true then [32,45,32] else [32,43,32]
theorem Zik{m n:Bool}{P Q:List UInt8}(h:Zhm m++P=Zhm n++Q):m=n∧P=Q:=by
 cases m <;>cases n <;>simp [Zhm] at h <;>first|exact ⟨rfl,h⟩|cases h
theorem Zip(c:Rat):tlT c []=if c≠0 then Zhm (ngT c)++Qa c else []:=rfl
theorem Zfz(c:Rat)(t:Int × Rat)(l:List (Int × Rat)):tlT c (t::l)=Zhm (ngT t.2)++(prt t++tlT c l):=by
 rw [←List.append_assoc]
 rfl
theorem ZuL(t:Int × Rat)(T:List UInt8):(120:UInt8)∈prt t++T:=by
 unfold prt
 simp
theorem ZuR{c c':Rat}{t:Int × Rat}{l:List (Int × Rat)}(h:tlT c []=tlT c' (t::l)):False:=by
 rw [Zip,Zfz] at h
 by_cases hc:c≠0
 ·rw [if_pos hc] at h
  have e:=(Zik h).2
  have:=ZuL t (tlT c' l)
  rw [←e] at this
  exact ZbI (by decide) (by decide) this
 ·rw [if_neg hc] at h
  have:=congrArg List.length h
  unfold Zhm at this
  split at this <;>simp at this
theorem ZoD:∀{l l':List (Int × Rat)} {c c':Rat},(∀t∈l,0≤t.1)→(∀t∈l',0≤t.1)→tlT c l=tlT c' l'→l=l'∧c=c'
 | [],[],c,c',_,_,h=>by
   rw [Zip,Zip] at h
   refine ⟨rfl,?_⟩
   have ln:∀c:Rat,(Zhm (ngT c)++Qa c).length≠0:=fun c=>by
    unfold Zhm
    split <;>simp
   by_cases a:c≠0 <;>by_cases b:c'≠0
   ·rw [if_pos a,if_pos b] at h
    obtain ⟨e1,e2⟩:=Zik h
    exact ZfD e1 e2
   ·rw [if_pos a,if_neg b] at h
    exact absurd (congrArg List.length h) (ln c)
   ·rw [if_neg a,if_pos b] at h
    exact absurd (congrArg List.length h).symm (ln c')
   ·have a':c=0:=Decidable.not_not.1 a
    have b':c'=0:=Decidable.not_not.1 b
    rw [a',b']
 | [],t::l',c,c',_,_,h=>(ZuR h).elim
 | t::l,[],c,c',_,_,h=>(ZuR h.symm).elim
 | t::l,u::l',c,c',h1,h2,h=>by
   rw [Zfz,Zfz] at h
   obtain ⟨e1,e2⟩:=Zik h
   have no:∀t:Int × Rat,(32:UInt8) ∉ prt t:=fun t=>ZiB (by decide) (by decide) (by decide) (by decide)
   obtain ⟨e3,e4⟩:=Zbe (no t) (no u) (Ze0 c l) (Ze0 c' l') e2
   obtain ⟨rfl,rfl⟩:=ZoD (fun x hx=>h1 x (List.mem_cons_of_mem _ hx)) (fun x hx=>h2 x (List.mem_cons_of_mem _ hx)) e4
   rw [ZjR (h1 t List.mem_cons_self) (h2 u List.mem_cons_self) e1 e3]
   exact ⟨rfl,rfl⟩
def sgT(n:Bool)(p:List UInt8):List UInt8:=if n=true then 45::p else p
theorem ZuI{m n:Bool}{P Q:List UInt8}(hP:(45:UInt8) ∉ P)(hQ:(45:UInt8) ∉ Q)(h:sgT m P=sgT n Q):m=n∧P=Q:=by
 cases m <;>cases n
 ·exact ⟨rfl,h⟩
 ·have h':P=45::Q:=h
  rw [h'] at hP
  exact absurd List.mem_cons_self hP
 ·have h':45::P=Q:=h
  rw [←h'] at hQ
  exact absurd List.mem_cons_self hQ
 ·have h':(45:UInt8)::P=45::Q:=h
  rw [List.cons.injEq] at h'
  exact ⟨rfl,h'.2⟩
theorem Zu2{n:Bool}{P:List UInt8}{c:UInt8}(h:c ∉ P)(hc:c≠45):c ∉ sgT n P:=fun hm=>by
 unfold sgT at hm
 split at hm
 ·rcases List.mem_cons.1 hm with h1|h1
  ·exact hc h1
  ·exact h h1
 ·exact h hm
theorem Zct(c:Rat):txt ([],c)=sgT (ngT c) (Qa c):=by
 unfold txt
 rw [if_pos (.inr rfl)]
 rfl
theorem ZaT(t:Int × Rat)(F:List (Int × Rat))(c:Rat):txt (t::F,c)=sgT (ngT t.2) (prt t)++tlT c F:=by
 have h:=Zm2 c F (txS [] t) (Zjj (ZiI t))
 exact h
theorem Zut{f g:Zf}(hf:∀t∈f.1,0≤t.1)(hg:∀t∈g.1,0≤t.1)(h:txt f=txt g):f=g:=by
 obtain ⟨F,c⟩:=f
 obtain ⟨G,d⟩:=g
 have noA:∀(n:Bool) (q:Rat),(120:UInt8) ∉ sgT n (Qa q):=fun n q=>Zu2 (ZbI (by decide) (by decide)) (by decide)
 have inX:∀(n:Bool) (t:Int × Rat) (T:List UInt8),(120:UInt8)∈sgT n (prt t)++T:=fun n t T=>by
  have:=ZuL t T
  unfold sgT
  split
  ·exact List.mem_cons_of_mem _ this
  ·exact this
 cases F with
 | nil=>
   cases G with
   | nil=>
     rw [Zct,Zct] at h
     obtain ⟨e1,e2⟩:=ZuI (ZbI (by decide) (by decide)) (ZbI (by decide) (by decide)) h
     rw [ZfD e1 e2]
   | cons u G=>
     rw [Zct,ZaT] at h
     have:=inX (ngT u.2) u (tlT d G)
     rw [←h] at this
     exact absurd this (noA _ _)
 | cons t F=>
   cases G with
   | nil=>
     rw [Zct,ZaT] at h
     have:=inX (ngT t.2) t (tlT c F)
     rw [h] at this
     exact absurd this (noA _ _)
   | cons u G=>
     rw [ZaT,ZaT] at h
     have no:∀(n:Bool) (t:Int × Rat),(32:UInt8) ∉ sgT n (prt t):=fun n t=>Zu2 (ZiB (by decide) (by decide) (by decide) (by decide)) (by decide)
     obtain ⟨e1,e2⟩:=Zbe (no _ t) (no _ u) (Ze0 c F) (Ze0 d G) h
     have no5:∀t:Int × Rat,(45:UInt8) ∉ prt t:=fun t=>ZiB (by decide) (by decide) (by decide) (by decide)
     obtain ⟨e3,e4⟩:=ZuI (no5 t) (no5 u) e1
     obtain ⟨rfl,rfl⟩:=ZoD (fun x hx=>hf x (List.mem_cons_of_mem _ hx)) (fun x hx=>hg x (List.mem_cons_of_mem _ hx)) e2
     rw [ZjR (hf t List.mem_cons_self) (hg u List.mem_cons_self) e3 e4]
end
theorem Zqu(a b:ByteArray):(a==b)=decide (a=b):=by
 by_cases h:a=b
 ·rw [decide_eq_true h]
  exact (MapKept.bytes_beq a b).2 h
 ·rw [decide_eq_false h,Bool.eq_false_iff]
  exact fun e=>h ((MapKept.bytes_beq a b).1 e)
def Qz(L:List Zf):List (ByteArray × Value):=L.map fun f=>(bs (txt f),.bool true)
theorem Zei{n:Zf}:∀{L:List Zf},(∀f∈L,txt n=txt f→n=f)→Wr (bs (txt n)) (Qz L)=if n∈L then some (.bool true) else none
 | [],_=>by simp [Qz,Wr]
 | f::L,h=>by
   have ih:=Zei fun g hg=>h g (List.mem_cons_of_mem _ hg)
   have e:Qz (f::L)=(bs (txt f),.bool true)::Qz L:=rfl
   rw [e,Wr,Zqu]
   by_cases hf:n=f
   ·subst hf
    rw [decide_eq_true rfl,if_pos rfl,if_pos List.mem_cons_self]
   ·have h2:¬bs (txt n)=bs (txt f):=fun e=>hf (h f List.mem_cons_self (Zc8 e))
    rw [decide_eq_false h2,if_neg Bool.false_ne_true,ih]
    by_cases hm:n∈L
    ·rw [if_pos hm,if_pos (List.mem_cons_of_mem _ hm)]
    ·rw [if_neg hm,if_neg fun x=>by
      rcases List.mem_cons.1 x with e|e
      ·exact hf e
      ·exact hm e]
theorem Zhs{n:Zf}:∀{L:List Zf},(∀f∈L,txt n≠txt f)→Zbw (bs (txt n)) (.bool true) (Qz L)=Qz (L++[n])
 | [],_=>rfl
 | f::L,h=>by
   have ih:=Zhs fun g hg=>h g (List.mem_cons_of_mem _ hg)
   have e:Qz (f::L)=(bs (txt f),.bool true)::Qz L:=rfl
   have h2:¬bs (txt n)=bs (txt f):=fun e=>h f List.mem_cons_self (Zc8 e)
   rw [e,Zbw,Zqu,decide_eq_false h2,if_neg Bool.false_ne_true,ih]
   rfl
section
variable {a0 : Zf} {n : Nat} {q : Rat} {r : Rat} {r2 : Int} {r3 : Zf} {v : Int}
theorem Zx9(C1:(a0.1.length:Int)=0)(B2a:H a0.2≤17179869184)(W3:InI (sgR a0.2)):
  run (n+7) 11 [Zc a0]=some (.agg [.sl 4 [],.lit (.bool (Ze (ofQ (sgR a0.2))).s),Zd (Ze (ofQ (sgR a0.2))).l1,Zd (Ze (ofQ (sgR a0.2))).l2]):=by
 have C1_:((a0.1.length:Int)==0)=true:=by rw [C1];simp
 have K2:=ZN (p:=a0.2) B2a
 have K3:=YD (z:=sgR a0.2) W3.1 W3.2
 unfold run fnP
 simp+decide [Tryz.f11,C1_,K2,K3]
theorem Zwx(C1:¬(a0.1.length:Int)=0)(E2:a0.1[0]?=some (v,q))(K4:run (n+6) 36 [Zk (ofQ 1),.agg [.lit (.bool false),Zd (Ze q).l1,Zd (Ze q).l2]]=some (.tup [Zk r,.lit (.int .i64 r2)]))(K5:run (n+6) 37 [Zc a0,Zk r]=some (Zc r3)):
  run (n+7) 11 [Zc a0]=some (Zc r3):=by
 have C1_:((a0.1.length:Int)==0)=false:=by simpa using C1
 obtain ⟨EL2,EG2⟩:=gEi E2
 have K3:=YD (z:=1) (by omega) (by omega)
 simp only [Zk] at K4
 simp only [Zk,Zc] at K5
 unfold run fnP
 simp+decide [Tryz.f11,C1_,EL2,EG2,K3,K4,K5]
end
section
variable {a0 : Zf} {n : Nat} {q : Rat} {r : Rat} {r2 : Int} {r3 : Zf} {v : Int} {r5 : Int} {r6 : Zf} {r4 : Rat}
theorem ZvM(C1:(a0.1.length:Int)=0)(B2a:H a0.2≤17179869184)(W3:InI (sgR a0.2)):
  run (n+7) 14 [Zc a0]=some (.agg [.sl 4 [],.lit (.bool (Ze (ofQ (sgR a0.2))).s),Zd (Ze (ofQ (sgR a0.2))).l1,Zd (Ze (ofQ (sgR a0.2))).l2]):=by
 have C1_:((a0.1.length:Int)==0)=true:=by rw [C1];simp
 have K2:=ZN (p:=a0.2) B2a
 have K3:=YD (z:=sgR a0.2) W3.1 W3.2
 unfold run fnP
 simp+decide [Tryz.f14,C1_,K2,K3]
theorem Zv0(C1:¬(a0.1.length:Int)=0)(E2:a0.1[0]?=some (v,q))(B3a:H q≤17179869184)(C4:sgR q<0)(K7:run (n+6) 23 [Zk (ofQ 1),Zk (-q)]=some (.tup [Zk r,.lit (.int .i64 r2)]))(K8:run (n+6) 41 [Zc a0,Zk r]=some (Zc r3)):
  run (n+7) 14 [Zc a0]=some (Zc r3):=by
 have C1_:((a0.1.length:Int)==0)=false:=by simpa using C1
 obtain ⟨EL2,EG2⟩:=gEi E2
 have K3:=ZN (p:=q) B3a
 have K5:=VR (p:=q) B3a
 have K6:=YD (z:=1) (by omega) (by omega)
 simp only [Zk] at K7
 simp only [Zk,Zc] at K8
 unfold run fnP
 simp+decide [Tryz.f14,C1_,EL2,EG2,K3,C4,K5,K6,K7,K8]
theorem Zvr(C1:¬(a0.1.length:Int)=0)(E2:a0.1[0]?=some (v,q))(B3a:H q≤17179869184)(C4:¬sgR q<0)(K6:run (n+6) 23 [Zk (ofQ 1),Zk q]=some (.tup [Zk r4,.lit (.int .i64 r5)]))(K7:run (n+6) 41 [Zc a0,Zk r4]=some (Zc r6)):
  run (n+7) 14 [Zc a0]=some (Zc r6):=by
 have C1_:((a0.1.length:Int)==0)=false:=by simpa using C1
 obtain ⟨EL2,EG2⟩:=gEi E2
 have K3:=ZN (p:=q) B3a
 have K5:=YD (z:=1) (by omega) (by omega)
 simp only [Zk] at K6
 simp only [Zk,Zc] at K7
 unfold run fnP
 simp+decide [Tryz.f14,C1_,EL2,EG2,K3,C4,K5,K6,K7]
end
section
variable{a1:Zf}{r:Zf}{M:List (ByteArray × Value)}{n:Nat}{r2:ByteArray}{L:List Zf}{u:Bool}
section
variable(K1:run (n+7) 11 [Zc a1]=some (Zc r))(K2:run (n+7) 84 [Zc r]=some (.lit (.string r2)))
include K1 K2
theorem ZxO(C3:(r.1.length:Int)=0)(C4:(Ze r.2).s=false):
  Zr (n+8) 46 [.ptr 0 0,Zc a1] [.box 78 [.own 1 L.length,.mp 2] false,.row 28 4 (L.map Zh) 0,.mp M]=some (.tup [],[(0,.box 78 [.own 1 L.length,.mp 2] false),(1,.row 28 4 (L.map Zh) 0),(2,.mp M)]):=by
 simp only [Zc] at K1
 simp only [Zc] at K2
 have C3_:((r.1.length:Int)==0)=true:=by rw [C3];simp
 try simp only [C4] at K1
 try simp only [C4] at K2
 unfold Zr fnL
 simp+decide [Tryz.f46,K1,K2,C3_]
theorem ZxN(C3:(r.1.length:Int)=0)(C4:(Ze r.2).s=true)(K5:Wr r2 M=some (.bool u))(C6:u=true):
  Zr (n+8) 46 [.ptr 0 0,Zc a1] [.box 78 [.own 1 L.length,.mp 2] false,.row 28 4 (L.map Zh) 0,.mp M]=some (.tup [],[(0,.box 78 [.own 1 L.length,.mp 2] false),(1,.row 28 4 (L.map Zh) 0),(2,.mp M)]):=by
 simp only [Zc] at K1
 simp only [Zc] at K2
 have C3_:((r.1.length:Int)==0)=true:=by rw [C3];simp
 try simp only [C4] at K1
 try simp only [C4] at K2
 unfold Zr fnL
 simp+decide [Tryz.f46,K1,K2,C3_,K5,C6]
theorem ZxJ(C3:(r.1.length:Int)=0)(C4:(Ze r.2).s=true)(K5:Wr r2 M=none)(M6:L.length+1≤100000000):
  Zr (n+8) 46 [.ptr 0 0,Zc a1] [.box 78 [.own 1 L.length,.mp 2] false,.row 28 4 (L.map Zh) 0,.mp M]=some (.tup [],[(0,.box 78 [.own 6 (L.length+1),.mp 2] false),(2,.mp (Zbw r2 (.bool true) M)),(6,.row 28 4 ((L++[r]).map Zh) 0)]):=by
 simp only [Zc] at K1
 simp only [Zc] at K2
 have C3_:((r.1.length:Int)==0)=true:=by rw [C3];simp
 have M6_:∀b,b≤10000→ZG (L.length+1) b=true:=fun b hb=>Zq M6 hb
 try simp only [C4] at K1
 try simp only [C4] at K2
 unfold Zr fnL
 simp+decide [Tryz.f46,K1,K2,C3_,C4,K5,M6_]
theorem Zw4(C3:¬(r.1.length:Int)=0)(K4:Wr r2 M=some (.bool u))(C5:u=true):
  Zr (n+8) 46 [.ptr 0 0,Zc a1] [.box 78 [.own 1 L.length,.mp 2] false,.row 28 4 (L.map Zh) 0,.mp M]=some (.tup [],[(0,.box 78 [.own 1 L.length,.mp 2] false),(1,.row 28 4 (L.map Zh) 0),(2,.mp M)]):=by
 simp only [Zc] at K1
 simp only [Zc] at K2
 have C3_:((r.1.length:Int)==0)=false:=by simpa using C3
 unfold Zr fnL
 simp+decide [Tryz.f46,K1,K2,C3_,K4,C5]
theorem ZxI(C3:¬(r.1.length:Int)=0)(K4:Wr r2 M=none)(M5:L.length+1≤100000000):
  Zr (n+8) 46 [.ptr 0 0,Zc a1] [.box 78 [.own 1 L.length,.mp 2] false,.row 28 4 (L.map Zh) 0,.mp M]=some (.tup [],[(0,.box 78 [.own 6 (L.length+1),.mp 2] false),(2,.mp (Zbw r2 (.bool true) M)),(6,.row 28 4 ((L++[r]).map Zh) 0)]):=by
 simp only [Zc] at K1
 simp only [Zc] at K2
 have C3_:((r.1.length:Int)==0)=false:=by simpa using C3
 have M5_:∀b,b≤10000→ZG (L.length+1) b=true:=fun b hb=>Zq M5 hb
 unfold Zr fnL
 simp+decide [Tryz.f46,K1,K2,C3_,K4,M5_]
end
end
noncomputable def XG:Code:=(Zb (ZR Tryz.f49)).getD 0 .skip
def Qt(a0:List Zf)(i_5:Nat)(r:Zf):St:=
 ⟨[(0,.own 0 a0.length),(5,.ptr 1 0),(6,.lit (.int .i64 (i_5:Int)))],
  [(0,some (.row 28 4 (a0.map Zh) 0)),
   (1,some (.box 28 [.sl 4 (r.1.map Zs),.lit (.bool (Ze r.2).s),Zd (Ze r.2).l1,Zd (Ze r.2).l2] false))],2⟩
def Kd(a0:List Zf)(r:Zf):St:=
 ⟨[(0,.own 0 a0.length),(4,.own 0 a0.length),(5,.ptr 1 0)],
  [(0,some (.row 28 4 (a0.map Zh) 0)),
   (1,some (.box 28 [.sl 4 (r.1.map Zs),.lit (.bool (Ze r.2).s),Zd (Ze r.2).l1,Zd (Ze r.2).l2] false))],2⟩
def Ke(a0:List Zf)(r:Zf):St:=
 ⟨[(0,.own 0 a0.length),(4,.any),(5,.ptr 1 0)],
  [(0,some (.row 28 4 (a0.map Zh) 0)),
   (1,some (.box 28 [.sl 4 (r.1.map Zs),.lit (.bool (Ze r.2).s),Zd (Ze r.2).l1,Zd (Ze r.2).l2] false))],2⟩
section
variable{r:Zf}{q3:Rat}{r4:Bool}{F3:List (Int × Rat)}{n:Nat}{a0:List Zf}{i_5:Nat}{a1:Zf}
section
variable(C1:(i_5:Int)<(a0.length:Int))(G2:i_5<a0.length)(E3:a0[i_5]?=some (F3,q3))(K4:run (n+7) 13 [Zc (F3,q3),Zc r]=some (.lit (.bool r4)))
include C1 G2 E3 K4
theorem Znp(C5:r4=false)(W6:InI ((i_5:Int)+1)):
  Zm 1 (exec Tryz.prog (tab (n+8)) 1 37 (Za 49) big XG) (Za 49 5) (Qt a0 i_5 r) (Qt a0 (i_5+1) r):=by
 have C1_:i_5<a0.length:=by omega
 obtain ⟨EL3,EG3⟩:=gEi E3
 simp only [Zc] at K4
 have W6_:IntKind.i64.wrap ((i_5:Int)+1)=(i_5:Int)+1:=Zp W6.1 W6.2
 unfold Zm
 simp+decide [Qt,Zb, Tryz.f49,XG,C1,C1_,EG3,K4,C5,W6_]
theorem Znz(C5:r4=true):
  Zj 1 (exec Tryz.prog (tab (n+8)) 1 37 (Za 49) big XG) (Za 49 (Zo 5)) (Qt a0 i_5 r) (.ret) (Kd a0 r):=by
 have C1_:i_5<a0.length:=by omega
 obtain ⟨EL3,EG3⟩:=gEi E3
 simp only [Zc] at K4
 unfold Zj
 simp+decide [Qt,Zb, Tryz.f49,Kd,XG,C1,C1_,EG3,K4,C5]
end
theorem ZpJ(C1:¬(i_5:Int)<(a0.length:Int)):
  Zj 1 (exec Tryz.prog (tab (n+8)) 1 37 (Za 49) big XG) (Za 49 (Zo 5)) (Qt a0 i_5 r) (.exit 0) (Ke a0 r):=by
 unfold Zj
 simp+decide [Qt,Zb, Tryz.f49,Ke,XG,C1]
section
variable(K1:run (n+7) 14 [Zc a1]=some (Zc r))
include K1
section
variable(C2:(r.1.length:Int)=0)(B3a:H r.2≤17179869184)
include C2 B3a
theorem ZxW(C4:0≤sgR r.2):
  Zr (n+8) 49 [.own 0 a0.length,Zc a1] [.row 28 4 (a0.map Zh) 0]=some (.own 0 a0.length,[(0,.row 28 4 (a0.map Zh) 0)]):=by
 simp only [Zc] at K1
 have C2_:((r.1.length:Int)==0)=true:=by rw [C2];simp
 have K3:=ZN (p:=r.2) B3a
 unfold Zr fnL
 simp+decide [Tryz.f49,K1,C2_,K3,C4]
theorem Zw9(C4:¬0≤sgR r.2)(L5:Zl Tryz.prog (tab (n+8)) 1 37 (Za 49) 5 XG (Qt a0 0 r)=some (.ret,Kd a0 r)):
  Zr (n+8) 49 [.own 0 a0.length,Zc a1] [.row 28 4 (a0.map Zh) 0]=some (.own 0 a0.length,[(0,.row 28 4 (a0.map Zh) 0)]):=by
 simp only [Zc] at K1
 have C2_:((r.1.length:Int)==0)=true:=by rw [C2];simp
 have K3:=ZN (p:=r.2) B3a
 unfold Zr fnL
 simp+decide [Tryz.f49,K1,C2_,K3,C4]
 rw [Zi (C':=XG) (e:=(Qt a0 0 r)) ?_ ?_,L5]
 rotate_left
 ·kernel_rfl
 ·simp+decide [Qt]
 simp+decide [Kd]
theorem ZxQ(C4:¬0≤sgR r.2)(L5:Zl Tryz.prog (tab (n+8)) 1 37 (Za 49) 5 XG (Qt a0 0 r)=some (.exit 0,Ke a0 r))(M6:a0.length+1≤100000000):
  Zr (n+8) 49 [.own 0 a0.length,Zc a1] [.row 28 4 (a0.map Zh) 0]=some (.own 3 (a0.length+1),[(3,.row 28 4 ((a0++[r]).map Zh) 0)]):=by
 simp only [Zc] at K1
 have C2_:((r.1.length:Int)==0)=true:=by rw [C2];simp
 have K3:=ZN (p:=r.2) B3a
 have M6_:∀b,b≤10000→ZG (a0.length+1) b=true:=fun b hb=>Zq M6 hb
 unfold Zr fnL
 simp+decide [Tryz.f49,K1,C2_,K3,C4]
 rw [Zi (C':=XG) (e:=(Qt a0 0 r)) ?_ ?_,L5]
 rotate_left
 ·kernel_rfl
 ·simp+decide [Qt]
 simp+decide [Ke,M6_]
end
theorem Zxv(C2:¬(r.1.length:Int)=0)(L3:Zl Tryz.prog (tab (n+8)) 1 37 (Za 49) 5 XG (Qt a0 0 r)=some (.ret,Kd a0 r)):
  Zr (n+8) 49 [.own 0 a0.length,Zc a1] [.row 28 4 (a0.map Zh) 0]=some (.own 0 a0.length,[(0,.row 28 4 (a0.map Zh) 0)]):=by
 simp only [Zc] at K1
 have C2_:((r.1.length:Int)==0)=false:=by simpa using C2
 unfold Zr fnL
 simp+decide [Tryz.f49,K1,C2_]
 rw [Zi (C':=XG) (e:=(Qt a0 0 r)) ?_ ?_,L3]
 rotate_left
 ·kernel_rfl
 ·simp+decide [Qt]
 simp+decide [Kd]
theorem ZvN(C2:¬(r.1.length:Int)=0)(L3:Zl Tryz.prog (tab (n+8)) 1 37 (Za 49) 5 XG (Qt a0 0 r)=some (.exit 0,Ke a0 r))(M4:a0.length+1≤100000000):
  Zr (n+8) 49 [.own 0 a0.length,Zc a1] [.row 28 4 (a0.map Zh) 0]=some (.own 3 (a0.length+1),[(3,.row 28 4 ((a0++[r]).map Zh) 0)]):=by
 simp only [Zc] at K1
 have C2_:((r.1.length:Int)==0)=false:=by simpa using C2
 have M4_:∀b,b≤10000→ZG (a0.length+1) b=true:=fun b hb=>Zq M4 hb
 unfold Zr fnL
 simp+decide [Tryz.f49,K1,C2_]
 rw [Zi (C':=XG) (e:=(Qt a0 0 r)) ?_ ?_,L3]
 rotate_left
 ·kernel_rfl
 ·simp+decide [Qt]
 simp+decide [Ke,M4_]
end
end
theorem Zxk{n:Nat}{a0:Rat}{a1:Raw}{r:List Nat}{r2:List Nat}{r3:List Nat}{r4:List Nat}{r5:Rat}(B1a:RawB a1)(C2:¬sgR a1.q=0)(K3:(o1 fun x=>Zd (unL x.l2)) [.agg [.lit (.bool a1.s),Zd a1.l1,Zd a1.l2]]=some (Zd r))(K4:(oN2 fun x y=>Zd (lmb (val x*val y))) [Zd (Ze a0).l1,Zd r]=some (Zd r2))(K5:(o1 fun x=>Zd (unL x.l2)) [Zk a0]=some (Zd r3))(K6:(oN2 fun x y=>Zd (lmb (val x*val y))) [Zd r3,Zd a1.l1]=some (Zd r4))(K7:(oQt) [.lit (.bool (!(((Ze a0).s)==a1.s))),Zd r2,Zd r4]=some (Zk r5)):
  run (n+6) 36 [Zk a0,.agg [.lit (.bool a1.s),Zd a1.l1,Zd a1.l2]]=some (.tup [Zk r5,.lit (.int .i64 0)]):=by
 have K1:=VW B1a
 have C2_:(sgR a1.q==0)=false:=by simpa using C2
 simp only [Zk] at K5
 simp only [Zk] at K7
 unfold run fnP
 simp+decide [Tryz.f36,K1,C2_,K3,K4,K5,K6,K7]
theorem Zxt{n:Nat}{a0:Rat}{a1:Raw}{r:List Nat}{r2:List Nat}{r3:List Nat}{r4:List Nat}{r5:Rat}(B1a:RawB a1)(C2:¬sgR a1.q=0)(K3:(oN1 (fun _=>true) fun x=>Zd (lmb (dn x))) [Zd a1.l2]=some (Zd r))(K4:(oN2 fun x y=>Zd (lmb (val x*val y))) [Zd (Ze a0).l1,Zd r]=some (Zd r2))(K5:(oN1 (fun _=>true) fun x=>Zd (lmb (dn x))) [Zd (Ze a0).l2]=some (Zd r3))(K6:(oN2 fun x y=>Zd (lmb (val x*val y))) [Zd r3,Zd a1.l1]=some (Zd r4))(K7:(oQt) [.lit (.bool (!(((Ze a0).s)==a1.s))),Zd r2,Zd r4]=some (Zk r5)):
  run (n+6) 23 [Zk a0,.agg [.lit (.bool a1.s),Zd a1.l1,Zd a1.l2]]=some (.tup [Zk r5,.lit (.int .i64 0)]):=by
 have K1:=VW B1a
 have C2_:(sgR a1.q==0)=false:=by simpa using C2
 simp only [Zk] at K7
 unfold run fnP
 simp+decide [Tryz.f23,K1,C2_,K3,K4,K5,K6,K7]
section
attribute [local irreducible] run Zr Zl exec
theorem ZtG(s1 s2:Bool)(n1 n2 d1 d2:Nat)(hn:n2≠0)(h1:d1≠0)(h2:d2≠0):mkRat (sgi (!(s1==s2)) (n1*d2)) (d1*n2)=mkRat (sgi s1 n1) d1 / mkRat (sgi s2 n2) d2:=by
 have hy:mkRat (sgi s2 n2) d2≠0:=fun h=>by
  rw [Rat.mkRat_eq_zero h2] at h
  have:=QD s2 n2
  rw [h] at this
  simp at this
  omega
 have key:mkRat (sgi (!(s1==s2)) (n1*d2)) (d1*n2)*mkRat (sgi s2 n2) d2=mkRat (sgi s1 n1) d1:=by
  have e1:sgi (!(s1==s2)) (n1*d2)*sgi s2 n2=sgi s1 n1*((n2*d2:Nat):Int):=by
   unfold sgi
   cases s1 <;>cases s2 <;>simp [Int.natCast_mul,Int.neg_mul,Int.mul_neg] <;>grind
  have e2:d1*n2*d2=d1*(n2*d2):=Nat.mul_assoc _ _ _
  rw [Rat.mkRat_mul_mkRat,e1,e2]
  exact Rat.mkRat_mul_right (Nat.mul_ne_zero hn h2)
 rw [←key]
 rw [Rat.div_def,Rat.mul_assoc,Rat.mul_inv_cancel _ hy,Rat.mul_one]
theorem Zfe(l:List Nat):val (unL l)=dn l:=by
 unfold unL dn
 split
 ·rfl
 ·rfl
theorem Zcr{l:List Nat}(h:Lim l):Lim (unL l):=by
 unfold unL
 split
 ·rw [←Xe];exact Yq _
 ·exact h
theorem ZjZ(l:List Nat):(unL l).length≤l.length+1:=by
 unfold unL
 split <;>simp
theorem Wf{l:List Nat}(h:l.length≤68719476736):XF l=true:=Nat.ble_eq_true_of_le h
theorem Zko{G:List Nat→Bool}{F:List Nat→AV}{l:List Nat}(h1:Lim l)(hx:XF l=true)(hg:G l=true):oN1 G F [Zd l]=some (F l):=by
 unfold oN1
 simp only [Qe h1]
 rw [if_pos (by rw [hx,hg];rfl)]
theorem ZjH{b:Bool}{l m:List Nat}(h1:Lim l)(h2:Lim m)(hx:XF l=true)(hy:XF m=true)(h0:0<val m):oQt [.lit (.bool b),Zd l,Zd m]=some (Zk (mkRat (sgi b (val l)) (val m))):=by
 unfold oQt
 simp only [Qe h1,Qe h2]
 have h9:Nat.blt 0 (val m)=true:=Nat.ble_eq_true_of_le h0
 rw [if_pos (by rw [hx,hy,h9];rfl)]
 rfl
theorem Zcu{a b:Nat}{k:Nat}(h:(lmb a).length+(lmb b).length≤68719476736):XF (lmb (a*b))=true:=Wf (Nat.le_trans (YB a b) h)
theorem ZnD{l:List Nat}(h:Lim l):(lmb (dn l)).length≤l.length+1:=by
 unfold dn
 split
 ·rw [Xe];simp
 ·exact Nat.le_trans (Zn h) (by omega)
theorem Zrr(a:Rat):a=mkRat (sgi (Ze a).s (val (Ze a).l1)) (dn (Ze a).l2):=by
 have h:(Ze a).q=a:=QI a
 unfold Raw.q sv at h
 exact h.symm
theorem Zkd(a:Rat){c:Raw}(hn:val c.l1≠0):mkRat (sgi (!((Ze a).s==c.s)) (val (Ze a).l1*dn c.l2)) (dn (Ze a).l2*val c.l1)=a / c.q:=by
 rw [ZtG _ _ _ _ _ _ hn (Nat.pos_iff_ne_zero.1 (Yx _)) (Nat.pos_iff_ne_zero.1 (Yx _)),←Zrr]
 rfl
theorem ZpV{c:Raw}(h0:c.q≠0):val c.l1≠0:=fun h=>h0 (by unfold Raw.q sv;rw [h,Zhw];simp)
theorem Zw0{n:Nat}{a:Rat}{c:Raw}(ha:H a≤17179869184)(hR:RawB c)(h0:c.q≠0):
  run (n+6) 36 [Zk a,.agg [.lit (.bool c.s),Zd c.l1,Zd c.l2]]=some (.tup [Zk (a / c.q),.lit (.int .i64 0)]):=by
 have hA:=ZbZ ha
 have hn:=ZpV h0
 have b1:=hR.bn
 have b2:=hR.bd
 have b3:=hA.bn
 have b4:=hA.bd
 have u1:=ZjZ c.l2
 have u2:=ZjZ (Ze a).l2
 have v1:=Zn hA.n
 have v2:=Zn (Zcr hR.d)
 have v3:=Zn (Zcr hA.d)
 have v4:=Zn hR.n
 refine Zxk hR (fun h=>h0 (Yl.1 h)) (Zul hR) (Jt hA.n (Zcr hR.d) (Wf (by omega)) (Wf (by omega))) (Zul hA) (Jt (Zcr hA.d) hR.n (Wf (by omega)) (Wf (by omega))) ?_
 rw [ZjH (Yq _) (Yq _) (Zcu (k:=0) (by omega)) (Zcu (k:=0) (by omega)) (by rw [Zg,Zfe];exact Nat.mul_pos (Yx _) (Nat.pos_of_ne_zero hn))]
 rw [Zg,Zg,Zfe,Zfe,Zkd a hn]
theorem Zoz{n:Nat}{a:Rat}{c:Raw}(ha:H a≤17179869184)(hR:RawB c)(h0:c.q≠0):
  run (n+6) 23 [Zk a,.agg [.lit (.bool c.s),Zd c.l1,Zd c.l2]]=some (.tup [Zk (a / c.q),.lit (.int .i64 0)]):=by
 have hA:=ZbZ ha
 have hn:=ZpV h0
 have b1:=hR.bn
 have b2:=hR.bd
 have b3:=hA.bn
 have b4:=hA.bd
 have u1:=ZnD hR.d
 have u2:=ZnD hA.d
 have v1:=Zn hA.n
 have v4:=Zn hR.n
 have w1:(lmb (val (lmb (dn c.l2)))).length=(lmb (dn c.l2)).length:=by rw [Zg]
 have w2:(lmb (val (lmb (dn (Ze a).l2)))).length=(lmb (dn (Ze a).l2)).length:=by rw [Zg]
 refine Zxt hR (fun h=>h0 (Yl.1 h)) (Zko hR.d (Wf (by omega)) rfl) (Jt hA.n (Yq _) (Wf (by omega)) (Wf (by omega))) (Zko hA.d (Wf (by omega)) rfl) (Jt (Yq _) hR.n (Wf (by omega)) (Wf (by omega))) ?_
 rw [ZjH (Yq _) (Yq _) (Zcu (k:=0) (by omega)) (Zcu (k:=0) (by omega)) (by rw [Zg,Zg];exact Nat.mul_pos (Yx _) (Nat.pos_of_ne_zero hn))]
 rw [Zg,Zg,Zg,Zg,Zkd a hn]
end
end Go.Proofs.YtdaonnnlgfhlaaaGreatDoor
