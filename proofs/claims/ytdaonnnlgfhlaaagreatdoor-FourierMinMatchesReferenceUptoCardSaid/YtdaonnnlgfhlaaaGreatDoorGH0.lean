import Derived.KernelRfl
set_option linter.all false
namespace Go.Proofs.YtdaonnnlgfhlaaaGreatDoor
def val:List Nat→Nat
 | []=>0
 | x::l=>x+4294967296*val l
def Lim(l:List Nat):Prop:=∀x∈l,x<4294967296
theorem XT:Lim []:=fun _ h=>by cases h
theorem X5{x:Nat}{l:List Nat}(hx:x<4294967296)(hl:Lim l):Lim (x::l):=fun y hy=>by
 rcases List.mem_cons.1 hy with rfl|h
 ·exact hx
 ·exact hl y h
theorem ZdR{x:Nat}{l:List Nat}(h:Lim (x::l)):x<4294967296:=h x (List.mem_cons_self ..)
theorem ZcU{x:Nat}{l:List Nat}(h:Lim (x::l)):Lim l:=fun y hy=>h y (List.mem_cons_of_mem _ hy)
theorem KJ{l:List Nat}(h:Lim l)(n:Nat):Lim (l.take n):=fun y hy=>h y (List.mem_of_mem_take hy)
theorem ZiM{a b:List Nat}(ha:Lim a)(hb:Lim b):Lim (a++b):=fun y hy=>by
 rcases List.mem_append.1 hy with h|h
 ·exact ha y h
 ·exact hb y h
theorem Zsu{l:List Nat}(h:Lim l)(i x:Nat)(hx:x<4294967296):Lim (l.set i x):=fun y hy=>by
 rcases List.mem_or_eq_of_mem_set hy with h1|h1
 ·exact h y h1
 ·omega
theorem Zd8(n:Nat):Lim (List.replicate n 0):=fun y hy=>by
 have:=List.eq_of_mem_replicate hy
 omega
theorem Ye{l:List Nat}(h:Lim l)(i:Nat):l.getD i 0<4294967296:=by
 rw [List.getD_eq_getElem?_getD]
 rcases Nat.lt_or_ge i l.length with hi|hi
 ·rw [List.getElem?_eq_getElem hi]
  exact h _ (List.getElem_mem hi)
 ·rw [List.getElem?_eq_none hi]
  decide
theorem XA(a b:List Nat):val (a++b)=val a+4294967296 ^ a.length*val b:=by
 induction a with
 | nil=>simp [val]
 | cons x a ih=>simp only [List.cons_append,val,ih,List.length_cons,Nat.pow_succ];grind
theorem WN(n:Nat):val (List.replicate n 0)=0:=by
 induction n with
 | zero=>rfl
 | succ n ih=>simp [List.replicate_succ,val,ih]
theorem XD{l:List Nat}(h:Lim l):val l<4294967296 ^ l.length:=by
 induction l with
 | nil=>simp [val]
 | cons x l ih=>
   have h1:=ih (ZcU h)
   have h2:=ZdR h
   simp only [val,List.length_cons,Nat.pow_succ]
   omega
theorem QB(l:List Nat)(n:Nat)(hn:n≤l.length):val l=val (l.take n)+4294967296 ^ n*val (l.drop n):=by
 have h:=XA (l.take n) (l.drop n)
 rw [List.take_append_drop,List.length_take,Nat.min_eq_left hn] at h
 exact h
theorem Kw(l:List Nat)(x:Nat):val (l++[x])=val l+4294967296 ^ l.length*x:=by
 rw [XA];simp [val]
theorem JJ(l:List Nat)(n:Nat)(hn:n<l.length):val (l.take (n+1))=val (l.take n)+4294967296 ^ n*l.getD n 0:=by
 rw [List.take_succ_eq_append_getElem hn,Kw,List.length_take,Nat.min_eq_left (by omega)]
 simp [List.getD_eq_getElem?_getD,List.getElem?_eq_getElem hn]
def ZgV:Nat→Nat→List Nat
 | 0,_=>[]
 | f+1,n=>if n=0 then [] else n % 4294967296::ZgV f (n / 4294967296)
def lmb(n:Nat):List Nat:=ZgV n n
theorem JB(f:Nat):ZgV f 0=[]:=by cases f <;>simp [ZgV]
theorem ZhB(f:Nat):∀g n,n≤f→n≤g→ZgV f n=ZgV g n:=by
 induction f with
 | zero=>intro g n hf _;obtain rfl:n=0:=by omega
         rw [JB,JB]
 | succ f ih=>
   intro g n hf hg
   rcases Nat.eq_zero_or_pos n with rfl|hn
   ·rw [JB,JB]
   ·cases g with
    | zero=>omega
    | succ g=>
      simp only [ZgV]
      rw [if_neg (by omega),if_neg (by omega),ih g _ (by omega) (by omega)]
@[simp] theorem Zad:lmb 0=[]:=rfl
theorem QA{n:Nat}(h:0<n):lmb n=n % 4294967296::lmb (n / 4294967296):=by
 unfold lmb
 cases n with
 | zero=>omega
 | succ n=>
   rw [ZgV,if_neg (by omega),ZhB n ((n+1) / 4294967296) _ (by omega) (Nat.le_refl _)]
theorem Zdd{n:Nat}:lmb n=[]↔n=0:=by
 constructor
 ·intro h
  rcases Nat.eq_zero_or_pos n with h0|h0
  ·exact h0
  ·rw [QA h0] at h;cases h
 ·rintro rfl;rfl
theorem Zg(n:Nat):val (lmb n)=n:=by
 induction n using Nat.strongRecOn with
 | _ n ih=>
   rcases Nat.eq_zero_or_pos n with rfl|h
   ·rfl
   ·rw [QA h,val,ih _ (by omega)];omega
theorem Yq(n:Nat):Lim (lmb n):=by
 induction n using Nat.strongRecOn with
 | _ n ih=>
   rcases Nat.eq_zero_or_pos n with rfl|h
   ·exact XT
   ·rw [QA h];exact X5 (by omega) (ih _ (by omega))
def Can(l:List Nat):Prop:=l=[]∨l.getD (l.length-1) 0≠0
theorem Zo4{x:Nat}{l:List Nat}(h:Can (x::l)):Can l:=by
 cases l with
 | nil=>exact .inl rfl
 | cons y l=>
   refine .inr ?_
   rcases h with h|h
   ·cases h
   ·simpa using h
theorem ZfN{l:List Nat}(hl:Lim l)(hc:Can l):lmb (val l)=l:=by
 induction l with
 | nil=>rfl
 | cons x l ih=>
   have hx:=ZdR hl
   have h1:=ih (ZcU hl) (Zo4 hc)
   rcases Nat.eq_zero_or_pos (val (x::l)) with h0|h0
   ·exfalso
    simp only [val] at h0
    have hv:val l=0:=by omega
    rw [hv] at h1
    rw [←h1] at hc
    rcases hc with hc|hc
    ·cases hc
    ·simp at hc;omega
   ·rw [QA h0]
    simp only [val] at*
    rw [show (x+4294967296*val l) % 4294967296=x by omega,show (x+4294967296*val l) / 4294967296=val l by omega,h1]
theorem Zcp(n:Nat):Can (lmb n):=by
 induction n using Nat.strongRecOn with
 | _ n ih=>
   rcases Nat.eq_zero_or_pos n with rfl|h
   ·exact .inl rfl
   ·rw [QA h]
    rcases Nat.eq_zero_or_pos (n / 4294967296) with h0|h0
    ·rw [h0];refine .inr ?_;simp;omega
    ·rcases ih (n / 4294967296) (by omega) with h1|h1
     ·rw [Zdd] at h1;omega
     ·refine .inr ?_
      rw [QA h0] at h1 ⊢
      simpa using h1
def Vg(l:List Nat):Nat→Nat
 | 0=>0
 | n+1=>if l.getD n 0=0 then Vg l n else n+1
theorem ZtZ(l:List Nat)(n:Nat):Vg l n≤n:=by
 induction n with
 | zero=>simp [Vg]
 | succ n ih=>unfold Vg;split <;>omega
theorem ZeN(l:List Nat){n:Nat}(hn:0<n)(h:l.getD (n-1) 0=0):Vg l (n-1)=Vg l n:=by
 obtain ⟨m,rfl⟩:∃m,n=m+1:=⟨n-1,by omega⟩
 simp only [Nat.add_sub_cancel] at*
 rw [Vg,if_pos h]
theorem Zmo(l:List Nat){n:Nat}(hn:0<n)(h:l.getD (n-1) 0≠0):Vg l n=n:=by
 obtain ⟨m,rfl⟩:∃m,n=m+1:=⟨n-1,by omega⟩
 simp only [Nat.add_sub_cancel] at*
 rw [Vg,if_neg h]
theorem Zoe(l:List Nat)(n:Nat)(hn:n≤l.length):val (l.take (Vg l n))=val (l.take n):=by
 induction n with
 | zero=>rfl
 | succ n ih=>
   rw [Vg];split
   ·rename_i h
    rw [ih (by omega),JJ l n (by omega),h];simp
   ·rfl
theorem Zon(l:List Nat)(n:Nat)(hn:n≤l.length):Can (l.take (Vg l n)):=by
 induction n with
 | zero=>exact .inl (by simp [Vg])
 | succ n ih=>
   rw [Vg];split
   ·exact ih (by omega)
   ·rename_i h
    refine .inr ?_
    rw [List.length_take,Nat.min_eq_left hn]
    simp only [Nat.add_sub_cancel,List.getD_eq_getElem?_getD] at*
    rw [List.getElem?_take,if_pos (by omega)]
    exact h
theorem Zft{l:List Nat}(hl:Lim l):l.take (Vg l l.length)=lmb (val l):=by
 have h:=ZfN (KJ hl (Vg l l.length)) (Zon l _ (Nat.le_refl _))
 rw [←h,Zoe _ _ (Nat.le_refl _),List.take_length]
theorem Ze2{l:List Nat}(hl:Lim l):(lmb (val l)).length=Vg l l.length:=by
 rw [←Zft hl,List.length_take,Nat.min_eq_left (ZtZ _ _)]
theorem Yg{n k:Nat}(h:n<4294967296 ^ k):(lmb n).length≤k:=by
 induction k generalizing n with
 | zero=>obtain rfl:n=0:=by simpa using h
         simp
 | succ k ih=>
   rcases Nat.eq_zero_or_pos n with rfl|hn
   ·simp
   ·rw [QA hn,List.length_cons]
    have:=ih (n:=n / 4294967296) (by rw [Nat.div_lt_iff_lt_mul (by omega)];rw [Nat.pow_succ] at h;exact h)
    omega
theorem YW(n:Nat):n<4294967296 ^ (lmb n).length:=by
 have h:=XD (Yq n)
 rwa [Zg] at h
theorem Zw{a b:Nat}(h:a≤b):(lmb a).length≤(lmb b).length:=Yg (Nat.lt_of_le_of_lt h (YW b))
theorem Zn{l:List Nat}(hl:Lim l):(lmb (val l)).length≤l.length:=Yg (XD hl)
theorem VT(a b:Nat):(lmb (a+b)).length≤max (lmb a).length (lmb b).length+1:=by
 refine Yg ?_
 have h1:=Nat.lt_of_lt_of_le (YW a) (Nat.pow_le_pow_right (n:=4294967296) (by omega) (Nat.le_max_left (lmb a).length (lmb b).length))
 have h2:=Nat.lt_of_lt_of_le (YW b) (Nat.pow_le_pow_right (n:=4294967296) (by omega) (Nat.le_max_right (lmb a).length (lmb b).length))
 rw [Nat.pow_succ];omega
theorem YB(a b:Nat):(lmb (a*b)).length≤(lmb a).length+(lmb b).length:=by
 refine Yg ?_
 rw [Nat.pow_add]
 exact Nat.mul_lt_mul'' (YW a) (YW b)
theorem Xe:lmb 1=[1]:=by rw [QA (by omega)];rfl
theorem ZZ{n:Nat}:(lmb n).length=0↔n=0:=by rw [List.length_eq_zero_iff,Zdd]
theorem ZtJ{a b:Nat}(h:lmb a=lmb b):a=b:=by rw [←Zg a,←Zg b,h]
theorem Zdp{a b:Nat}(h:(lmb a).length<(lmb b).length):a<b:=by
 rcases Nat.lt_or_ge a b with h1|h1
 ·exact h1
 ·have:=Zw h1;omega
theorem Zel(l:List Nat)(i:Nat)(hi:i<l.length):val l=val (l.take i)+4294967296 ^ i*(l.getD i 0+4294967296*val (l.drop (i+1))):=by
 rw [QB l i (by omega),List.drop_eq_getElem_cons hi,val]
 simp [List.getD_eq_getElem?_getD,List.getElem?_eq_getElem hi]
theorem ZeP{a b:List Nat}(ha:Lim a)(hl:a.length=b.length){i:Nat}(hi:i<a.length)(hd:a.drop (i+1)=b.drop (i+1))(h:a.getD i 0<b.getD i 0):val a<val b:=by
 rw [Zel a i hi,Zel b i (by omega),hd]
 have h1:=XD (KJ ha i)
 rw [List.length_take,Nat.min_eq_left (by omega)] at h1
 have h2:4294967296 ^ i*(a.getD i 0+1+4294967296*val (b.drop (i+1)))≤4294967296 ^ i*(b.getD i 0+4294967296*val (b.drop (i+1))):=Nat.mul_le_mul_left _ (by omega)
 have h3:4294967296 ^ i*(a.getD i 0+1+4294967296*val (b.drop (i+1)))=4294967296 ^ i*(a.getD i 0+4294967296*val (b.drop (i+1)))+4294967296 ^ i:=by grind
 omega
theorem ZmR{a b:List Nat}(hl:a.length=b.length){i:Nat}(hi:i<a.length)(hd:a.drop (i+1)=b.drop (i+1))(h:a.getD i 0=b.getD i 0):a.drop i=b.drop i:=by
 rw [List.drop_eq_getElem_cons hi,List.drop_eq_getElem_cons (show i<b.length by omega),hd]
 simp only [List.getD_eq_getElem?_getD,List.getElem?_eq_getElem hi,List.getElem?_eq_getElem (show i<b.length by omega),Option.getD_some] at h
 rw [h]
def QW(a b:Nat):Int:=if a<b then -1 else if a=b then 0 else 1
theorem Zap{a b:Nat}(h:a<b):QW a b=-1:=if_pos h
theorem Zfr{a b:Nat}(h:a=b):QW a b=0:=by unfold QW;rw [if_neg (by omega),if_pos h]
theorem Zbt{a b:Nat}(h:b≤a):¬QW a b<0:=by unfold QW;rw [if_neg (by omega)];split <;>omega
theorem ZcD{a b:Nat}(h:a<b):QW a b<0:=by rw [Zap h];omega
theorem Zfv{a b:Nat}(h:b<a):QW a b=1:=by unfold QW;rw [if_neg (by omega),if_neg (by omega)]
def vt(l:List Nat)(k:Nat):Nat:=val (l.take k)
theorem Yy(l:List Nat):vt l 0=0:=by simp [vt,val]
theorem ZQ(l:List Nat)(k:Nat):vt l (k+1)=vt l k+4294967296 ^ k*l.getD k 0:=by
 rcases Nat.lt_or_ge k l.length with h|h
 ·exact JJ l k h
 ·unfold vt
  rw [List.take_of_length_le (by omega),List.take_of_length_le h,List.getD_eq_getElem?_getD,List.getElem?_eq_none h]
  simp
theorem Z8(l:List Nat){k:Nat}(h:l.length≤k):vt l k=val l:=by unfold vt;rw [List.take_of_length_le h]
theorem VK(l:List Nat){k:Nat}(h:k<l.length)(x:Nat):vt (l.set k x) (k+1)=vt l k+4294967296 ^ k*x:=by
 rw [ZQ]
 unfold vt
 rw [List.take_set_of_le (Nat.le_refl k),List.getD_eq_getElem?_getD,List.getElem?_set_self h]
 rfl
theorem VU(l:List Nat){i j:Nat}(h:i≠j)(x:Nat):(l.set i x).getD j 0=l.getD j 0:=by
 simp only [List.getD_eq_getElem?_getD];rw [List.getElem?_set_ne h]
theorem KC(l:List Nat){i:Nat}(h:i<l.length)(x:Nat):(l.set i x).getD i 0=x:=by
 simp only [List.getD_eq_getElem?_getD];rw [List.getElem?_set_self h];rfl
theorem WS{l:List Nat}{i:Nat}(h:l.length≤i):l.getD i 0=0:=by rw [List.getD_eq_getElem?_getD,List.getElem?_eq_none h];rfl
theorem ZaX(c s:Nat):c*(s % 4294967296)+c*4294967296*(s / 4294967296)=c*s:=by
 have h:=Nat.mod_add_div s 4294967296
 calc c*(s % 4294967296)+c*4294967296*(s / 4294967296)=c*(s % 4294967296+4294967296*(s / 4294967296)):=by rw [Nat.mul_add,Nat.mul_assoc]
  _=c*s:=by rw [h]
theorem Zgs{cur a b:List Nat}{k cy x y:Nat}(hk:k<cur.length)(hx:a.getD k 0=x)(hy:b.getD k 0=y)(h:vt cur k+4294967296 ^ k*cy=vt a k+vt b k):
  vt (cur.set k ((cy+x+y) % 4294967296)) (k+1)+4294967296 ^ (k+1)*((cy+x+y) / 4294967296)=vt a (k+1)+vt b (k+1):=by
 have h2:=ZaX (4294967296 ^ k) (cy+x+y)
 rw [VK cur hk,ZQ a,ZQ b,hx,hy,Nat.pow_succ]
 have h3:4294967296 ^ k*(cy+x+y)=4294967296 ^ k*cy+4294967296 ^ k*x+4294967296 ^ k*y:=by rw [Nat.mul_add,Nat.mul_add]
 omega
theorem ZnI{cur a b:List Nat}{k bw x y z bz:Nat}(hk:k<cur.length)(hx:a.getD k 0=x)(hy:b.getD k 0=y)(hz:z+bw+y=x+4294967296*bz)(h:vt cur k+vt b k+0=vt a k+4294967296 ^ k*bw):
  vt (cur.set k z) (k+1)+vt b (k+1)+0=vt a (k+1)+4294967296 ^ (k+1)*bz:=by
 rw [VK cur hk,ZQ a,ZQ b,hx,hy,Nat.pow_succ]
 have h3:4294967296 ^ k*(z+bw+y)=4294967296 ^ k*z+4294967296 ^ k*bw+4294967296 ^ k*y:=by rw [Nat.mul_add,Nat.mul_add]
 have h4:4294967296 ^ k*(x+4294967296*bz)=4294967296 ^ k*x+4294967296 ^ k*4294967296*bz:=by rw [Nat.mul_add,Nat.mul_assoc]
 rw [hz,h4] at h3
 omega
theorem JH{l:List Nat}(h:Lim l)(k:Nat):vt l k<4294967296 ^ k:=by
 have h1:=XD (KJ h k)
 exact Nat.lt_of_lt_of_le h1 (Nat.pow_le_pow_right (by omega) (by rw [List.length_take];omega))
theorem Zgn{cur cur0 b:List Nat}{i k x y o cy:Nat}(hk:i+k<cur.length)(hy:b.getD k 0=y)(ho:cur0.getD (i+k) 0=o)(h:vt cur (i+k)+4294967296 ^ (i+k)*cy=vt cur0 (i+k)+4294967296 ^ i*x*vt b k):
  vt (cur.set (i+k) ((cy+(x*y+o)) % 4294967296)) (i+(k+1))+4294967296 ^ (i+(k+1))*((cy+(x*y+o)) / 4294967296)=vt cur0 (i+(k+1))+4294967296 ^ i*x*vt b (k+1):=by
 have h2:=ZaX (4294967296 ^ (i+k)) (cy+(x*y+o))
 rw [show i+(k+1)=i+k+1 from rfl,VK cur hk,ZQ cur0,ZQ b,hy,ho,Nat.pow_succ]
 have h3:4294967296 ^ (i+k)*(cy+(x*y+o))=4294967296 ^ (i+k)*cy+4294967296 ^ (i+k)*(x*y)+4294967296 ^ (i+k)*o:=by rw [Nat.mul_add,Nat.mul_add,←Nat.add_assoc]
 have h4:4294967296 ^ i*x*(vt b k+4294967296 ^ k*y)=4294967296 ^ i*x*vt b k+4294967296 ^ (i+k)*(x*y):=by
  rw [Nat.mul_add,Nat.pow_add];congr 1;grind
 omega
theorem Zi1{x y o cy:Nat}(hx:x<4294967296)(hy:y<4294967296)(ho:o<4294967296)(hc:cy<4294967296):x*y≤18446744065119617025∧(cy+(x*y+o)) / 4294967296<4294967296:=by
 have h:x*y≤4294967295*4294967295:=Nat.mul_le_mul (by omega) (by omega)
 omega
theorem Zbr{k:Nat}(hk:k≤32):2 ^ k≤4294967296:=Nat.pow_le_pow_right (n:=2) (by omega) hk
theorem Zbz{k:Nat}(hk:k≤32):2 ^ (32-k)*2 ^ k=4294967296:=by
 rw [←Nat.pow_add,Nat.sub_add_cancel hk]
theorem Zjh(y:Nat){k:Nat}(hk:k≤32):(y*2 ^ k) % 4294967296=(y % 2 ^ (32-k))*2 ^ k:=by
 rw [←Zbz hk,Nat.mul_mod_mul_right]
theorem Ze3{y k:Nat}(hy:y<4294967296)(hk:k≤32):y*2 ^ k<18446744073709551616∧(y*2 ^ k) / 4294967296<2 ^ k:=by
 have h:=Zbr hk
 have h1:y*2 ^ k<4294967296*2 ^ k:=Nat.mul_lt_mul_of_pos_right hy (Nat.two_pow_pos k)
 refine ⟨by omega,?_⟩
 rw [Nat.div_lt_iff_lt_mul (by omega)];omega
theorem Zlm{cur l:List Nat}{i y o k:Nat}(hi:i+1<cur.length)(hy:l.getD i 0=y)(ho:cur.getD i 0=o)(h:vt cur (i+1)=vt l i*2 ^ k):
  vt ((cur.set i (o+(y*2 ^ k) % 4294967296)).set (i+1) ((y*2 ^ k) / 4294967296)) (i+1+1)=vt l (i+1)*2 ^ k:=by
 rw [VK _ (by rw [List.length_set];exact hi),VK cur (by omega),ZQ l,hy]
 rw [ZQ,ho] at h
 have h2:=ZaX (4294967296 ^ i) (y*2 ^ k)
 rw [Nat.add_mul,←h,Nat.mul_add,Nat.pow_succ,Nat.mul_assoc (4294967296 ^ i) y]
 omega
theorem Vy(l:List Nat){i:Nat}(hi:i<l.length):val (l.drop i)=l.getD i 0+4294967296*val (l.drop (i+1)):=by
 rw [List.drop_eq_getElem_cons hi,val]
 simp [List.getD_eq_getElem?_getD,List.getElem?_eq_getElem hi]
theorem Zcd(l:List Nat){i j:Nat}(h:i<j)(x:Nat):(l.set i x).drop j=l.drop j:=List.drop_set_of_lt h
theorem Ziq{cur l:List Nat}{i y d r:Nat}(hi:i<cur.length)(hil:i<l.length)(hy:l.getD i 0=y)(hd:0<d)(h:val (l.drop (i+1))=d*val (cur.drop (i+1))+r):
  val (l.drop i)=d*val ((cur.set i ((r*4294967296+y) / d)).drop i)+(r*4294967296+y) % d:=by
 rw [Vy l hil,Vy (cur.set i _) (by rw [List.length_set];exact hi),KC _ hi,Zcd _ (by omega),hy,h]
 have h1:=Nat.div_add_mod (r*4294967296+y) d
 rw [Nat.mul_add,Nat.mul_add]
 have h2:4294967296*(d*val (cur.drop (i+1)))=d*(4294967296*val (cur.drop (i+1))):=by grind
 omega
theorem ZhQ{r y d:Nat}(hr:r<d)(hy:y<4294967296)(hd:d<4294967296):(r*4294967296+y) / d<4294967296:=by
 rw [Nat.div_lt_iff_lt_mul (by omega)]
 have:(r+1)*4294967296≤d*4294967296:=Nat.mul_le_mul_right _ hr
 omega
theorem ZfB(l:List Nat)(i:Nat)(hi:i<l.length):val l / 4294967296 ^ i=l.getD i 0+4294967296*(l.getD (i+1) 0+4294967296*val (l.drop (i+2)))∨¬Lim l:=by
 by_cases hl:Lim l
 ·left
  rw [QB l i (by omega),Nat.add_mul_div_left _ _ (Nat.pow_pos (by omega)),Nat.div_eq_of_lt,Nat.zero_add,Vy l hi]
  ·rcases Nat.lt_or_ge (i+1) l.length with h|h
   ·rw [Vy l h]
   ·rw [WS h,List.drop_of_length_le h,List.drop_of_length_le (by omega)];simp [val]
  ·have:=XD (KJ hl i)
   rwa [List.length_take,Nat.min_eq_left (by omega)] at this
 ·exact .inr hl
theorem ZqJ{l:List Nat}(hl:Lim l){i k:Nat}(hi:i<l.length)(hk:k≤32):
  ((l.getD i 0+l.getD (i+1) 0*4294967296) / 2 ^ k) % 4294967296=(val l / 2 ^ k) / 4294967296 ^ i % 4294967296:=by
 rw [Nat.div_div_eq_div_mul,Nat.mul_comm (2 ^ k),←Nat.div_div_eq_div_mul,(ZfB l i hi).resolve_right (fun h=>h hl)]
 have e:l.getD i 0+4294967296*(l.getD (i+1) 0+4294967296*val (l.drop (i+2)))=(l.getD i 0+l.getD (i+1) 0*4294967296)+2 ^ k*(2 ^ (32-k)*(4294967296*val (l.drop (i+2)))):=by
  rw [←Nat.mul_assoc (2 ^ k),Nat.mul_comm (2 ^ k),Zbz hk];omega
 rw [e,Nat.add_mul_div_left _ _ (Nat.two_pow_pos k),←Nat.mul_assoc,Nat.mul_comm (2 ^ (32-k)),Nat.mul_assoc,Nat.add_mul_mod_self_left]
theorem ZqK{cur:List Nat}{N i x:Nat}(hi:i<cur.length)(hx:x=N / 4294967296 ^ i % 4294967296)(h:vt cur i=N % 4294967296 ^ i):
  vt (cur.set i x) (i+1)=N % 4294967296 ^ (i+1):=by
 rw [VK cur hi,h,hx,Nat.mod_pow_succ]
def sgi(neg:Bool)(n:Nat):Int:=if neg then -(n:Int) else (n:Int)
theorem QD(neg:Bool)(n:Nat):(sgi neg n).natAbs=n:=by unfold sgi;cases neg <;>simp
theorem Zhw(neg:Bool):sgi neg 0=0:=by unfold sgi;cases neg <;>simp
def QX(d:Nat):List Nat:=if d=1 then [] else lmb d
theorem ZdH(neg:Bool)(D:Nat):mkRat (sgi neg 0) D=0:=by rw [Zhw];simp
theorem Us(neg:Bool){N D:Nat}(hN:0<N)(hD:0<D):
  (mkRat (sgi neg N) D).num=sgi neg (N / Nat.gcd N D)∧(mkRat (sgi neg N) D).den=D / Nat.gcd N D:=by
 rw [Rat.num_mkRat,Rat.den_mkRat,if_neg (by omega),if_neg (by omega),QD,Nat.gcd_comm D N]
 refine ⟨?_,rfl⟩
 unfold sgi
 cases neg
 ·simp
 ·simp only [if_true]
  rw [Int.neg_ediv_of_dvd (Int.natCast_dvd_natCast.2 (Nat.gcd_dvd_left N D)),Int.natCast_ediv]
theorem Zcw{N D:Nat}(hD:0<D):0<Nat.gcd N D:=Nat.gcd_pos_of_pos_right _ hD
theorem Zsi{neg:Bool}{n:Nat}(h:0<n):decide (sgi neg n<0)=neg:=by unfold sgi;cases neg <;>simp <;>omega
theorem ZgX(neg:Bool){N D:Nat}(hN:0<N)(hD:0<D):neg=decide ((mkRat (sgi neg N) D).num<0):=by
 rw [(Us neg hN hD).1,Zsi]
 exact Nat.div_pos (Nat.le_of_dvd hN (Nat.gcd_dvd_left N D)) (Zcw hD)
theorem KE(neg:Bool){N D:Nat}(hN:0<N)(hD:0<D):(mkRat (sgi neg N) D).num.natAbs=N / Nat.gcd N D:=by rw [(Us neg hN hD).1,QD]
theorem ZsR(neg:Bool)(n:Nat):sgi (!neg) n=- sgi neg n:=by unfold sgi;cases neg <;>simp
theorem Zcs(neg:Bool)(n d:Nat):mkRat (sgi (!neg) n) d=- mkRat (sgi neg n) d:=by rw [ZsR,Rat.neg_mkRat]
theorem Zi6(z:Int):mkRat z 1=(z:Rat):=by
 have:=Rat.mkRat_self (z:Rat)
 simpa using this
theorem ZgS(z:Int){d:Nat}(hd:0<d):(mkRat z d).num.sign=z.sign:=by
 rw [Rat.num_mkRat,if_neg (by omega)]
 have hg:(0:Int)<(d.gcd z.natAbs:Nat):=by have:=Nat.gcd_pos_of_pos_left z.natAbs hd;omega
 obtain ⟨k,hk⟩:((d.gcd z.natAbs:Nat):Int) ∣ z:=by
  exact Int.ofNat_dvd_left.2 (Nat.gcd_dvd_right _ _)
 generalize ((d.gcd z.natAbs:Nat):Int)=g at*
 rw [hk,Int.mul_ediv_cancel_left _ (by omega),Int.sign_mul,Int.sign_eq_one_of_pos hg,Int.one_mul]
theorem Zjn(s1 s2:Bool)(n1 n2 d1 d2:Nat):mkRat (sgi (s1 !=s2) (n1*n2)) (d1*d2)=mkRat (sgi s1 n1) d1*mkRat (sgi s2 n2) d2:=by
 rw [Rat.mkRat_mul_mkRat]
 congr 1
 unfold sgi
 cases s1 <;>cases s2 <;>simp [Int.natCast_mul,Int.neg_mul,Int.mul_neg]
theorem ZaI(a b:Int){d1 d2:Nat}(h1:0<d1)(h2:0<d2):mkRat (a*d2+b*d1) (d1*d2)=mkRat a d1+mkRat b d2:=by
 rw [Rat.mkRat_add_mkRat _ _ (by omega) (by omega)]
theorem Zoy(z:Int):sgi (decide (z<0)) z.natAbs=z:=by
 unfold sgi
 by_cases h:z<0
 ·simp [h];omega
 ·simp [h];omega
theorem Zp7(q:Rat):mkRat (sgi (decide (q.num<0)) q.num.natAbs) q.den=q:=by rw [Zoy,Rat.mkRat_self]
theorem ZoF{l:List Nat}{n:Nat}(hn:2≤n)(hl:l.length=n+1)(hL:Lim l):
  ∃w,val l=w+4294967296 ^ (n-2)*(l.getD (n-2) 0+4294967296*(l.getD (n-1) 0+4294967296*l.getD n 0))∧w<4294967296 ^ (n-2):=by
 refine ⟨vt l (n-2),?_,JH hL _⟩
 obtain ⟨m,rfl⟩:∃m,n=m+2:=⟨n-2,by omega⟩
 rw [←Z8 l (k:=m+2+1) (by omega),ZQ,show m+2=(m+1)+1 from rfl,ZQ,ZQ,Nat.add_sub_cancel]
 simp only [Nat.pow_succ,show m+1+1-1=m+1 by omega,show m+1+1-2=m by omega]
 generalize l.getD m 0=a
 generalize l.getD (m+1) 0=b
 generalize l.getD (m+1+1) 0=c
 generalize 4294967296 ^ m=P
 grind
theorem Zpj{l:List Nat}{n:Nat}(hn:2≤n)(hl:l.length=n)(hL:Lim l):
  ∃w,val l=w+4294967296 ^ (n-2)*(l.getD (n-2) 0+4294967296*l.getD (n-1) 0)∧w<4294967296 ^ (n-2):=by
 refine ⟨vt l (n-2),?_,JH hL _⟩
 obtain ⟨m,rfl⟩:∃m,n=m+2:=⟨n-2,by omega⟩
 rw [←Z8 l (k:=m+2) (by omega),show m+2=(m+1)+1 from rfl,ZQ,ZQ]
 simp only [Nat.pow_succ,show m+1+1-1=m+1 by omega,show m+1+1-2=m by omega]
 generalize l.getD m 0=a
 generalize l.getD (m+1) 0=b
 generalize 4294967296 ^ m=P
 grind
structure ZbG (u0 u1 u2 v1 v2 Q:Nat):Prop where
 h0:u0≤v1
 b0:u0<4294967296
 b1:u1<4294967296
 b2:u2<4294967296
 c1:v1<4294967296
 c2:v2<4294967296
 norm:2147483648≤v1
 Qlt:Q<4294967296
 up:Q*(v2+4294967296*v1)≤u2+4294967296*(u1+4294967296*u0)
 down:∀q,q<4294967296→q*(v2+4294967296*v1)≤u2+4294967296*(u1+4294967296*u0)→q≤Q+1
theorem Zt5{lu lv:List Nat}{n:Nat}(hn:2≤n)(hlu:lu.length=n+1)(hlv:lv.length=n)(hLu:Lim lu)(hLv:Lim lv)(hnorm:2147483648≤lv.getD (n-1) 0)(hlt:val lu<val lv*4294967296):
  ZbG (lu.getD n 0) (lu.getD (n-1) 0) (lu.getD (n-2) 0) (lv.getD (n-1) 0) (lv.getD (n-2) 0) (val lu / val lv):=by
 obtain ⟨wu,hu,hwu⟩:=ZoF hn hlu hLu
 obtain ⟨wv,hv,hwv⟩:=Zpj hn hlv hLv
 have b0:=Ye hLu n
 have b1:=Ye hLu (n-1)
 have b2:=Ye hLu (n-2)
 have c1:=Ye hLv (n-1)
 have c2:=Ye hLv (n-2)
 generalize lu.getD n 0=u0 at*
 generalize lu.getD (n-1) 0=u1 at*
 generalize lu.getD (n-2) 0=u2 at*
 generalize lv.getD (n-1) 0=v1 at*
 generalize lv.getD (n-2) 0=v2 at*
 generalize 4294967296 ^ (n-2)=P at*
 generalize val lu=U at*
 generalize val lv=V at*
 have hP:0<P:=by omega
 have hVpos:0<V:=by
  have:P*1≤P*(v2+4294967296*v1):=Nat.mul_le_mul_left _ (by omega)
  omega
 have hQ1:V*(U / V)≤U:=Nat.mul_div_le U V
 have hQ2:U<V*(U / V+1):=by rw [Nat.mul_add,Nat.mul_one];have:=Nat.div_add_mod U V;have:=Nat.mod_lt U hVpos;omega
 refine ⟨?_,b0,b1,b2,c1,c2,hnorm,Nat.div_lt_of_lt_mul hlt,?_,?_⟩
 ·rcases Nat.lt_or_ge v1 u0 with h|h
  ·exfalso
   have h1:P*(4294967296*(4294967296*(v1+1)))≤P*(u2+4294967296*(u1+4294967296*u0)):=Nat.mul_le_mul_left _ (by omega)
   have h2:P*(v2+4294967296*v1)+P≤P*(4294967296*(v1+1)):=by
    have:P*(v2+4294967296*v1+1)≤P*(4294967296*(v1+1)):=Nat.mul_le_mul_left _ (by omega)
    rw [Nat.mul_add _ _ 1,Nat.mul_one] at this
    exact this
   have h3:P*(4294967296*(4294967296*(v1+1)))=4294967296*(P*(4294967296*(v1+1))):=by grind
   omega
  ·exact h
 ·generalize U / V=Q at*
  have h1:P*(Q*(v2+4294967296*v1))<P*(u2+4294967296*(u1+4294967296*u0)+1):=by
   have h2:P*(Q*(v2+4294967296*v1))≤V*Q:=by
    rw [hv,Nat.add_mul]
    have:P*(Q*(v2+4294967296*v1))=P*(v2+4294967296*v1)*Q:=by grind
    omega
   rw [Nat.mul_add _ _ 1,Nat.mul_one]
   omega
  have:=Nat.lt_of_mul_lt_mul_left h1
  omega
 ·intro q hq hle
  generalize U / V=Q at*
  rcases Nat.lt_or_ge (Q+1) q with h|h
  ·exfalso
   have h1:V*(Q+1+1)≤V*q:=Nat.mul_le_mul_left _ h
   rw [Nat.mul_add _ _ 1,Nat.mul_one] at h1
   have h2:V*q≤P*4294967295+U:=by
    rw [hv,hu,Nat.add_mul]
    have h3:wv*q≤P*4294967295:=Nat.mul_le_mul (by omega) (by omega)
    have h4:P*(v2+4294967296*v1)*q=P*(q*(v2+4294967296*v1)):=by grind
    have h5:P*(q*(v2+4294967296*v1))≤P*(u2+4294967296*(u1+4294967296*u0)):=Nat.mul_le_mul_left _ hle
    omega
   have h6:P*(4294967296*2147483648)≤P*(v2+4294967296*v1):=Nat.mul_le_mul_left _ (by omega)
   omega
  ·exact h
structure ZbH (u0 u1 v1 Q q r:Nat):Prop where
 eq:q*v1+r=u0*4294967296+u1
 ge:Q≤q
theorem ZlX{u0 u1 u2 v1 v2 Q:Nat}(h:ZbG u0 u1 u2 v1 v2 Q):ZbH u0 u1 v1 Q ((u0*4294967296+u1) / v1) ((u0*4294967296+u1) % v1):=by
 have hv:0<v1:=by have:=h.norm;omega
 refine ⟨by rw [Nat.mul_comm];exact Nat.div_add_mod _ _,?_⟩
 rw [Nat.le_div_iff_mul_le hv]
 have h1:=h.up
 have h2:=h.b2
 have e:Q*(v2+4294967296*v1)=Q*v2+4294967296*(Q*v1):=by grind
 omega
theorem ZsF{u0 u1 u2 v1 v2 Q:Nat}(h:ZbG u0 u1 u2 v1 v2 Q):(u0*4294967296+u1) / v1≤4294967297:=by
 have hv:0<v1:=by have:=h.norm;omega
 rw [←Nat.lt_succ_iff,Nat.div_lt_iff_lt_mul hv]
 have h0:=h.h0;have h1:=h.b1;have h2:=h.norm
 omega
theorem Zkl{u0 u1 u2 v1 v2 Q q r:Nat}(h:ZbG u0 u1 u2 v1 v2 Q)(hI:ZbH u0 u1 v1 Q q r)(hc:4294967296≤q∨r*4294967296+u2<q*v2):ZbH u0 u1 v1 Q (q-1) (r+v1)∧1≤q:=by
 have hQ:=h.Qlt
 have hlt:Q<q:=by
  rcases hc with hc|hc
  ·omega
  ·rcases Nat.lt_or_ge Q q with h1|h1
   ·exact h1
   ·exfalso
    have e:Q=q:=Nat.le_antisymm hI.ge h1
    subst e
    have h2:=h.up
    have h3:=hI.eq
    have e2:Q*(v2+4294967296*v1)=Q*v2+4294967296*(Q*v1):=by grind
    omega
 refine ⟨⟨?_,by omega⟩,by omega⟩
 obtain ⟨p,rfl⟩:∃p,q=p+1:=⟨q-1,by omega⟩
 have:=hI.eq
 rw [Nat.add_mul] at this
 simp only [Nat.add_sub_cancel]
 omega
theorem ZoS{u0 u1 u2 v1 v2 Q q r:Nat}(h:ZbG u0 u1 u2 v1 v2 Q)(hI:ZbH u0 u1 v1 Q q r)(hq:q<4294967296)(hc:q*v2≤r*4294967296+u2):Q≤q∧q≤Q+1:=by
 refine ⟨hI.ge,h.down q hq ?_⟩
 have h3:=hI.eq
 have e2:q*(v2+4294967296*v1)=q*v2+4294967296*(q*v1):=by grind
 omega
theorem ZeI{u0 u1 u2 v1 v2 Q q r:Nat}(h:ZbG u0 u1 u2 v1 v2 Q)(hI:ZbH u0 u1 v1 Q q r)(hr:4294967296≤r):q<4294967296∧Q≤q∧q≤Q+1:=by
 have hq:q<4294967296:=by
  rcases Nat.lt_or_ge q 4294967296 with h1|h1
  ·exact h1
  ·exfalso
   have h2:=hI.eq
   have h3:4294967296*v1≤q*v1:=Nat.mul_le_mul_right _ h1
   have:=h.h0;have:=h.b1
   omega
 refine ⟨hq,ZoS h hI hq ?_⟩
 have h1:q*v2≤4294967295*4294967295:=Nat.mul_le_mul (by omega) (by have:=h.c2;omega)
 omega
theorem Znk{q v2:Nat}(hq:q<4294967296)(hv:v2<4294967296):q*v2≤18446744065119617025:=by
 have h1:q*v2≤4294967295*4294967295:=Nat.mul_le_mul (by omega) (by omega)
 omega
theorem ZqQ{cur P v:List Nat}{k q d u cy bw z bz:Nat}(hk:k<cur.length)(hd:v.getD k 0=d)(hu:P.getD k 0=u)(hz:z+(cy+q*d) % 4294967296+bw=u+4294967296*bz)(h:vt cur k+q*vt v k=vt P k+4294967296 ^ k*(cy+bw)):
  vt (cur.set k z) (k+1)+q*vt v (k+1)=vt P (k+1)+4294967296 ^ (k+1)*((cy+q*d) / 4294967296+bz):=by
 rw [VK cur hk,ZQ v,ZQ P,hd,hu,Nat.pow_succ]
 have h1:=Nat.mod_add_div (cy+q*d) 4294967296
 generalize (cy+q*d) % 4294967296=lo at*
 generalize (cy+q*d) / 4294967296=hi at*
 generalize 4294967296 ^ k=B at*
 have h2:B*(z+lo+bw)=B*(u+4294967296*bz):=by rw [hz]
 have h3:B*(lo+4294967296*hi)=B*(cy+q*d):=by rw [h1]
 simp only [Nat.mul_add] at*
 have e1:q*(B*d)=B*(q*d):=by grind
 have e2:B*4294967296*hi=B*(4294967296*hi):=by grind
 have e3:B*4294967296*bz=B*(4294967296*bz):=by grind
 omega
theorem Zln{cy q d:Nat}(hc:cy<4294967296)(hq:q<4294967296)(hd:d<4294967296):q*d≤18446744065119617025∧(cy+q*d) / 4294967296<4294967296:=by
 have h:=Znk hq hd
 omega
theorem ZfE{cur P v:List Nat}{n q u cy bw z bz V:Nat}(hl:cur.length=n+1)(hP:P.length=n+1)(hv:v.length=n)(hV:val v=V)(hu:P.getD n 0=u)(hz:z+cy+bw=u+4294967296*bz)(h:vt cur n+q*vt v n=vt P n+4294967296 ^ n*(cy+bw)):val (cur.set n z)+q*V=val P+4294967296 ^ (n+1)*bz:=by
 rw [←Z8 (cur.set n z) (k:=n+1) (by rw [List.length_set];omega),VK cur (by omega),←Z8 P (k:=n+1) (by omega),ZQ P,hu,←hV,←Z8 v (k:=n) (by omega),Nat.pow_succ]
 generalize 4294967296 ^ n=B at*
 have h2:B*(z+cy+bw)=B*(u+4294967296*bz):=by rw [hz]
 simp only [Nat.mul_add] at*
 have e3:B*4294967296*bz=B*(4294967296*bz):=by grind
 omega
theorem Znf{U V Q q w:Nat}(hQ:Q=U / V)(hV:0<V)(h1:Q≤q)(h:w+q*V=U):q=Q∧w=U % V:=by
 have h2:q≤U / V:=by rw [Nat.le_div_iff_mul_le hV];omega
 have e:q=Q:=by omega
 refine ⟨e,?_⟩
 have h3:=Nat.div_add_mod U V
 rw [←hQ,←e,Nat.mul_comm V] at h3
 omega
theorem Zep{U V Q q w M:Nat}(hQ:Q=U / V)(hV:0<V)(h1:Q≤q)(h2:q≤Q+1)(hw:w<M)(h:w+q*V=U+M)(hU:U<M):q=Q+1∧(w+V) % M=U % V:=by
 have h3:=Nat.div_add_mod U V
 have h4:=Nat.mod_lt U hV
 rw [←hQ] at h3
 have e:q=Q+1:=by
  rcases Nat.lt_or_ge Q q with h5|h5
  ·omega
  ·exfalso
   have e:q=Q:=by omega
   subst e
   rw [Nat.mul_comm] at h3
   omega
 refine ⟨e,?_⟩
 subst e
 rw [Nat.add_mul,Nat.one_mul,Nat.mul_comm] at h
 have e2:w+V=U % V+M:=by omega
 rw [e2,Nat.add_mod_right,Nat.mod_eq_of_lt (by omega)]
theorem ZgJ{cur w v:List Nat}{n cy z x V:Nat}(hl:cur.length=n+1)(hw:w.length=n+1)(hv:v.length=n)(hV:val v=V)(hx:w.getD n 0=x)(hz:z=(x+cy) % 4294967296)(h:vt cur n+4294967296 ^ n*cy=vt w n+vt v n)(hL:Lim cur):val (cur.set n z)=(val w+V) % 4294967296 ^ (n+1):=by
 rw [←Z8 (cur.set n z) (k:=n+1) (by rw [List.length_set];omega),VK cur (by omega),←Z8 w (k:=n+1) (by omega),ZQ w,hx,←hV,←Z8 v (k:=n) (by omega),Nat.pow_succ]
 have h3:=JH hL n
 have h4:=Nat.mod_add_div (x+cy) 4294967296
 rw [←hz] at h4
 generalize (x+cy) / 4294967296=hi at*
 have hz2:z<4294967296:=by omega
 generalize 4294967296 ^ n=B at*
 have h5:B*(z+4294967296*hi)=B*(x+cy):=by rw [h4]
 have h6:B*(z+1)≤B*4294967296:=Nat.mul_le_mul_left _ hz2
 have e:vt w n+B*x+vt v n=vt cur n+B*z+B*4294967296*hi:=by
  simp only [Nat.mul_add] at*
  have:B*4294967296*hi=B*(4294967296*hi):=by grind
  omega
 rw [e,Nat.add_mul_mod_self_left,Nat.mod_eq_of_lt]
 rw [Nat.mul_add] at h6
 omega
theorem Zcx{b m:Nat}(h:(lmb b).length=m)(hm:0<m):4294967296 ^ (m-1)*(lmb b).getD (m-1) 0≤b∧b<4294967296 ^ (m-1)*((lmb b).getD (m-1) 0+1)∧0<(lmb b).getD (m-1) 0:=by
 have h1:=ZQ (lmb b) (m-1)
 have h2:=JH (Yq b) (m-1)
 rw [show m-1+1=m by omega,Z8 _ (Nat.le_of_eq h),Zg] at h1
 refine ⟨by omega,by rw [Nat.mul_add];omega,?_⟩
 rcases Zcp b with hc|hc
 ·rw [hc] at h;simp at h;omega
 ·rw [h] at hc;omega
theorem Zif{b m s x:Nat}(h:(lmb b).length=m)(hm:0<m)(hx:(lmb b).getD (m-1) 0=x)(h1:2147483648≤x*2 ^ s)(h2:x*2 ^ s+2 ^ s≤4294967296):
  (lmb (b*2 ^ s)).length=m∧2147483648≤(lmb (b*2 ^ s)).getD (m-1) 0∧4294967296 ^ (m-1)*2147483648≤b*2 ^ s:=by
 obtain ⟨t1,t2,t3⟩:=Zcx h hm
 rw [hx] at t1 t2 t3
 have e1:4294967296 ^ (m-1)*(x*2 ^ s)≤b*2 ^ s:=by rw [←Nat.mul_assoc];exact Nat.mul_le_mul_right _ t1
 have e2:b*2 ^ s<4294967296 ^ m:=by
  have h3:b*2 ^ s<4294967296 ^ (m-1)*(x+1)*2 ^ s:=Nat.mul_lt_mul_of_pos_right t2 (Nat.two_pow_pos s)
  have h4:4294967296 ^ (m-1)*(x+1)*2 ^ s=4294967296 ^ (m-1)*(x*2 ^ s+2 ^ s):=by rw [Nat.mul_assoc,Nat.add_mul,Nat.one_mul]
  have h5:4294967296 ^ (m-1)*(x*2 ^ s+2 ^ s)≤4294967296 ^ (m-1)*4294967296:=Nat.mul_le_mul_left _ h2
  have h6:4294967296 ^ m=4294967296 ^ (m-1)*4294967296:=by rw [←Nat.pow_succ];congr 1;omega
  omega
 have e3:4294967296 ^ (m-1)*2147483648≤4294967296 ^ (m-1)*(x*2 ^ s):=Nat.mul_le_mul_left _ h1
 have hl:(lmb (b*2 ^ s)).length=m:=by
  have l1:=Yg e2
  rcases Nat.lt_or_ge (lmb (b*2 ^ s)).length m with h3|h3
  ·exfalso
   have h4:=YW (b*2 ^ s)
   have h5:4294967296 ^ (lmb (b*2 ^ s)).length≤4294967296 ^ (m-1):=Nat.pow_le_pow_right (by omega) (by omega)
   omega
  ·omega
 refine ⟨hl,?_,by omega⟩
 obtain ⟨u1,u2,u3⟩:=Zcx hl hm
 rcases Nat.lt_or_ge ((lmb (b*2 ^ s)).getD (m-1) 0) 2147483648 with h3|h3
 ·exfalso
  have:4294967296 ^ (m-1)*((lmb (b*2 ^ s)).getD (m-1) 0+1)≤4294967296 ^ (m-1)*2147483648:=Nat.mul_le_mul_left _ h3
  omega
 ·exact h3
structure ZbO (m n k U V:Nat) (uc oc:List Nat):Prop where
 ulen:uc.length=m+1
 olen:oc.length=m-n+1
 low:val (uc.drop k)<V
 sum:val uc+V*4294967296 ^ k*val (oc.drop k)=U
theorem ZkV{m n U V:Nat}{uc:List Nat}(hn:n≤m)(hl:uc.length=m+1)(hL:Lim uc)(hU:val uc=U)(hlt:U<4294967296 ^ (m-n+1)*V):ZbO m n (m-n+1) U V uc (List.replicate (m-n+1) 0):=by
 refine ⟨hl,by simp,?_,by rw [List.drop_of_length_le (by simp)];simp [val,hU]⟩
 have h1:=QB uc (m-n+1) (by omega)
 rw [hU] at h1
 exact Nat.lt_of_mul_lt_mul_left (a:=4294967296 ^ (m-n+1)) (by omega)
theorem ZgY{m n k U V:Nat}{uc oc:List Nat}(h:ZbO m n (k+1) U V uc oc)(hL:Lim uc)(hk:k<m-n+1)(hn:n≤m)(hV:V<4294967296 ^ n):
  ((uc.drop k).take (n+1)).length=n+1∧val ((uc.drop k).take (n+1))<V*4294967296∧val (uc.drop (k+(n+1)))=0∧uc=uc.take k++((uc.drop k).take (n+1)++uc.drop (k+(n+1)))∧(uc.take k).length=k:=by
 have hul:=h.ulen
 have h0:val (uc.drop (k+(n+1)))=0:=by
  have h1:=QB (uc.drop (k+1)) n (by rw [List.length_drop];omega)
  rw [List.drop_drop,show k+1+n=k+(n+1) by omega] at h1
  rcases Nat.eq_zero_or_pos (val (uc.drop (k+(n+1)))) with hz|hz
  ·exact hz
  ·exfalso
   have h2:4294967296 ^ n*1≤4294967296 ^ n*val (uc.drop (k+(n+1))):=Nat.mul_le_mul_left _ hz
   have:=h.low
   omega
 refine ⟨by rw [List.length_take,List.length_drop];omega,?_,h0,?_,by rw [List.length_take];omega⟩
 ·have h1:=QB (uc.drop k) (n+1) (by rw [List.length_drop];omega)
  rw [List.drop_drop,h0,Nat.mul_zero,Nat.add_zero] at h1
  rw [←h1,Vy uc (by omega)]
  have h2:=Ye hL k
  have:=h.low
  omega
 ·rw [←List.drop_drop,List.take_append_drop,List.take_append_drop]
theorem ZqT{m n k U V:Nat}{uc oc P':List Nat}(h:ZbO m n (k+1) U V uc oc)(hL:Lim uc)(hk:k<m-n+1)(hn:n≤m)(hV:V<4294967296 ^ n)(hV0:0<V)(hP:P'.length=n+1)(hv:val P'=val ((uc.drop k).take (n+1)) % V):
  ZbO m n k U V (uc.take k++(P'++uc.drop (k+(n+1)))) (oc.set k (val ((uc.drop k).take (n+1)) / V)):=by
 obtain ⟨p1,p2,p3,p4,p5⟩:=ZgY h hL hk hn hV
 have hul:=h.ulen
 have hol:=h.olen
 refine ⟨by simp [hP];omega,by rw [List.length_set];exact hol,?_,?_⟩
 ·rw [List.drop_append_of_le_length (by omega),List.drop_of_length_le (by omega),List.nil_append,XA,p3,hv,Nat.mul_zero,Nat.add_zero]
  exact Nat.mod_lt _ hV0
 ·have h1:=h.sum
  rw [p4] at h1
  rw [XA,XA,p5,p3,hv,Nat.mul_zero,Nat.add_zero]
  rw [XA,XA,p5,p3,Nat.mul_zero,Nat.add_zero] at h1
  rw [Vy (oc.set k _) (by rw [List.length_set,hol];omega),KC _ (by rw [hol];omega),Zcd _ (by omega)]
  generalize val ((uc.drop k).take (n+1))=W at*
  have h2:=Nat.div_add_mod W V
  generalize W / V=Q at*
  generalize W % V=R at*
  generalize val (oc.drop (k+1))=D at*
  rw [Nat.pow_succ] at h1
  generalize 4294967296 ^ k=B at*
  rw [←h1,←h2]
  grind
theorem Ztw{m n U V:Nat}{uc oc:List Nat}(h:ZbO m n 0 U V uc oc):val oc=U / V∧val uc=U % V:=by
 have h1:=h.sum
 have h2:=h.low
 rw [List.drop_zero] at h2
 rw [List.drop_zero,Nat.pow_zero,Nat.mul_one] at h1
 rw [←h1,Nat.add_mul_div_left _ _ (by omega),Nat.add_mul_mod_self_left,Nat.div_eq_of_lt h2,Nat.mod_eq_of_lt h2,Nat.zero_add]
 exact ⟨rfl,rfl⟩
theorem Zl0(a b s:Nat):(a*2 ^ s) / (b*2 ^ s)=a / b∧((a*2 ^ s) % (b*2 ^ s)) / 2 ^ s=a % b:=by
 have h:=Nat.two_pow_pos s
 refine ⟨Nat.mul_div_mul_right _ _ h,?_⟩
 rw [Nat.mul_mod_mul_right,Nat.mul_div_cancel _ h]
theorem Zms{a b m n s:Nat}(ha:(lmb a).length=m)(hs:s≤31)(hn:0<n)(hnm:n≤m)(hV:4294967296 ^ (n-1)*2147483648≤b*2 ^ s):a*2 ^ s<4294967296 ^ (m-n+1)*(b*2 ^ s):=by
 have h1:=YW a
 rw [ha] at h1
 have h2:a*2 ^ s<4294967296 ^ m*2 ^ s:=Nat.mul_lt_mul_of_pos_right h1 (Nat.two_pow_pos s)
 have h3:2 ^ s≤2 ^ 31:=Nat.pow_le_pow_right (by omega) hs
 have h4:4294967296 ^ m=4294967296 ^ (m-n+1)*4294967296 ^ (n-1):=by rw [←Nat.pow_add];congr 1;omega
 have h5:4294967296 ^ m*2 ^ s≤4294967296 ^ m*2147483648:=Nat.mul_le_mul_left _ (by omega)
 have h6:4294967296 ^ (m-n+1)*(4294967296 ^ (n-1)*2147483648)≤4294967296 ^ (m-n+1)*(b*2 ^ s):=Nat.mul_le_mul_left _ hV
 rw [←Nat.mul_assoc,←h4] at h6
 omega
theorem Zq8{x k:Nat}(h1:2 ^ (k-1)≤x)(h2:x<2 ^ k)(h3:k≤32)(h0:0<k):2147483648≤x*2 ^ (32-k)∧x*2 ^ (32-k)+2 ^ (32-k)≤4294967296:=by
 have e1:2 ^ (k-1)*2 ^ (32-k)=2147483648:=by rw [←Nat.pow_add,show k-1+(32-k)=31 by omega]
 have e2:2 ^ k*2 ^ (32-k)=4294967296:=by rw [←Nat.pow_add,show k+(32-k)=32 by omega]
 have h4:2 ^ (k-1)*2 ^ (32-k)≤x*2 ^ (32-k):=Nat.mul_le_mul_right _ h1
 have h5:(x+1)*2 ^ (32-k)≤2 ^ k*2 ^ (32-k):=Nat.mul_le_mul_right _ h2
 rw [Nat.add_mul,Nat.one_mul] at h5
 omega
theorem Zkq{a b:List Nat}{k m:Nat}(hkm:k≤m)(h:∀j,k≤j→j<m→a.getD j 0=b.getD j 0):vt a m+vt b k=vt b m+vt a k:=by
 induction m with
 | zero=>obtain rfl:k=0:=by omega
         omega
 | succ m ih=>
   rcases Nat.lt_or_ge k (m+1) with h1|h1
   ·have h2:=ih (by omega) (fun j hj hm=>h j hj (by omega))
    rw [ZQ,ZQ,h m (by omega) (by omega)]
    omega
   ·obtain rfl:k=m+1:=by omega
    omega
theorem Zeg{a b:List Nat}{i m:Nat}(ha:Lim a)(him:i+1≤m)(h:∀j,i+1≤j→j<m→a.getD j 0=b.getD j 0)(hlt:a.getD i 0<b.getD i 0):vt a m<vt b m:=by
 have h1:=Zkq him h
 have h2:=JH ha i
 rw [ZQ,ZQ] at h1
 have h3:4294967296 ^ i*(a.getD i 0+1)≤4294967296 ^ i*b.getD i 0:=Nat.mul_le_mul_left _ hlt
 rw [Nat.mul_add,Nat.mul_one] at h3
 omega
theorem Zlf{a b:List Nat}{m:Nat}(h:∀j,0≤j→j<m→a.getD j 0=b.getD j 0):vt a m=vt b m:=by
 have h1:=Zkq (Nat.zero_le m) h
 rw [Yy,Yy] at h1
 omega
theorem Zd7{a b:List Nat}(hl:a.length=b.length)(h:∀j,j<a.length→a.getD j 0=b.getD j 0):a=b:=by
 apply List.ext_getElem hl
 intro i h1 h2
 have:=h i h1
 simpa [List.getD_eq_getElem?_getD,List.getElem?_eq_getElem h1,List.getElem?_eq_getElem h2] using this
theorem Zs6{k:Nat}(h:(lmb k).length=2):k=(lmb k).getD 0 0+(lmb k).getD 1 0*4294967296:=by
 have h1:=ZQ (lmb k) 1
 have h0:=ZQ (lmb k) 0
 rw [Yy] at h0
 rw [Z8 (k:=1+1) _ (by omega),Zg,Nat.pow_one] at h1
 simp only [Nat.zero_add,Nat.pow_zero,Nat.one_mul] at h0
 omega
theorem Zq6{k:Nat}(h:(lmb k).length=1):k=(lmb k).getD 0 0:=by
 have h1:=ZQ (lmb k) 0
 rw [Yy,Z8 _ (by omega),Zg] at h1
 omega
theorem Zfl{k:Nat}(h:(lmb k).length≤2):k<18446744073709551616:=by
 have h1:=YW k
 exact Nat.lt_of_lt_of_le h1 (Nat.pow_le_pow_right (n:=4294967296) (by omega) h)
theorem ZfA{k:Nat}(h:2<(lmb k).length):18446744073709551616≤k:=by
 rcases Nat.lt_or_ge k 18446744073709551616 with h1|h1
 ·have:=Yg (n:=k) (k:=2) (by omega)
  omega
 ·exact h1
theorem ZjG{L a b:List Nat}{k cy x y:Nat}(hk:L.length=k)(hx:a.getD k 0=x)(hy:b.getD k 0=y)(h:val L+4294967296 ^ k*cy=vt a k+vt b k):
  val (L++[(cy+(x+y)) % 4294967296])+4294967296 ^ (k+1)*((cy+(x+y)) / 4294967296)=vt a (k+1)+vt b (k+1):=by
 have h2:=ZaX (4294967296 ^ k) (cy+(x+y))
 rw [Kw,hk,ZQ a,ZQ b,hx,hy,Nat.pow_succ]
 have h3:4294967296 ^ k*(cy+(x+y))=4294967296 ^ k*cy+4294967296 ^ k*x+4294967296 ^ k*y:=by rw [Nat.mul_add,Nat.mul_add];omega
 omega
theorem Zj8{L a b:List Nat}{k bw x y z bz:Nat}(hk:L.length=k)(hx:a.getD k 0=x)(hy:b.getD k 0=y)(hz:z+(y+bw)=x+4294967296*bz)(h:val L+vt b k=vt a k+4294967296 ^ k*bw):
  val (L++[z])+vt b (k+1)=vt a (k+1)+4294967296 ^ (k+1)*bz:=by
 rw [Kw,hk,ZQ a,ZQ b,hx,hy,Nat.pow_succ]
 have h3:4294967296 ^ k*(z+(y+bw))=4294967296 ^ k*z+4294967296 ^ k*y+4294967296 ^ k*bw:=by rw [Nat.mul_add,Nat.mul_add];omega
 have h4:4294967296 ^ k*(x+4294967296*bz)=4294967296 ^ k*x+4294967296 ^ k*4294967296*bz:=by rw [Nat.mul_add,Nat.mul_assoc]
 rw [hz,h4] at h3
 omega
theorem ZtE{l:List Nat}(hL:Lim l)(k:Nat)(h:val l<4294967296 ^ k):vt l k=val l:=by
 rcases Nat.lt_or_ge k l.length with h1|h1
 ·have h2:=QB l k (by omega)
  have h3:val (l.drop k)=0:=by
   rcases Nat.eq_zero_or_pos (val (l.drop k)) with h4|h4
   ·exact h4
   ·have:4294967296 ^ k*1≤4294967296 ^ k*val (l.drop k):=Nat.mul_le_mul_left _ h4
    omega
  rw [h3,Nat.mul_zero,Nat.add_zero] at h2
  exact h2.symm
 ·exact Z8 l h1
theorem ZoY{cur cur0 b:List Nat}{i n x cy V A:Nat}(hb:b.length≤n)(hV:val b=V)(hA:A<4294967296 ^ i)(hx:x<4294967296)(hn:V<4294967296 ^ n)(h0:vt cur0 (i+n)=A*V)(hz:cur0.getD (i+n) 0=0)(h:vt cur (i+(n+1))+4294967296 ^ (i+(n+1))*cy=vt cur0 (i+(n+1))+4294967296 ^ i*x*vt b (n+1)):vt cur (i+1+n)=(A+4294967296 ^ i*x)*V:=by
 have e0:=Nat.add_mul A (4294967296 ^ i*x) V
 rw [Z8 b (by omega),hV,show i+(n+1)=(i+n)+1 from rfl] at h
 rw [ZQ cur0,hz,h0,Nat.mul_zero] at h;simp only [Nat.add_zero] at h
 rw [←e0] at h
 have h1:(A+4294967296 ^ i*x)*V<4294967296 ^ (i+1)*4294967296 ^ n:=by
  refine Nat.mul_lt_mul'' ?_ hn
  have:4294967296 ^ i*(x+1)≤4294967296 ^ i*4294967296:=Nat.mul_le_mul_left _ hx
  rw [Nat.mul_add,Nat.mul_one] at this
  rw [Nat.pow_succ];omega
 rw [←Nat.pow_add,show i+1+n=(i+n)+1 by omega] at h1
 have h2:cy=0:=by
  rcases Nat.eq_zero_or_pos cy with hc|hc
  ·exact hc
  ·have:4294967296 ^ (i+n+1)*1≤4294967296 ^ (i+n+1)*cy:=Nat.mul_le_mul_left _ hc
   omega
 rw [h2,Nat.mul_zero,Nat.add_zero] at h
 rw [show i+1+n=(i+n)+1 by omega]
 exact h
theorem Zqd{L:List Nat}{z:Nat}(h:Lim L)(hz:z<4294967296):Lim (L++[z]):=ZiM h (X5 hz XT)
end Go.Proofs.YtdaonnnlgfhlaaaGreatDoor
