import Derived.Test.YtdaonnnlgfhlaaaGreatDoorGH5
import Derived.BigGuard
import Derived.OrdersHeld
import Derived.Deep.RegionHeld
import Derived.Test.YtdaonnnlgfhlaaaGreatDoorGH9
set_option linter.all false
namespace Go.Proofs.YtdaonnnlgfhlaaaGreatDoor
open Go.RowKit
structure Up (U:World) where
 w:World
 below:Below U.heap.size U w
instance (U:World):Nonempty (Up U):=⟨⟨U,Below.refl _ _⟩⟩
theorem Up.cell{U:World}(x:Up U)(b o:Nat)(h:b<U.heap.size):x.w.cell? ⟨b,o,none⟩=U.cell? ⟨b,o,none⟩:=x.below.cell (p:=⟨b,o,none⟩) h
section
variable {P : Program} {ops : Array Oper} {Q : Exit → Act → World → Prop} {md : Region.Mode} {S : World → Prop} {s : Nat}
end
structure RD where
 neg:Bool
 a1:Option Addr
 n1:Nat
 c1:Nat
 l1:List Nat
 a2:Option Addr
 n2:Nat
 c2:Nat
 l2:List Nat
structure RD.In (r:RD) (w:World):Prop where
 num:LimR w r.a1 r.n1 r.c1 r.l1
 den:LimR w r.a2 r.n2 r.c2 r.l2
def RD.q(r:RD):Rat:=sv r.neg r.l1 r.l2
def RD.Ok(r:RD):Prop:=QY r.neg r.l1 r.l2
instance (r:RD):Decidable r.Ok:=by unfold RD.Ok;infer_instance
theorem RD.In.on{r:RD}{w w':World}(h:r.In w)(hb:Below w.heap.size w w'):r.In w':=⟨h.num.on hb,h.den.on hb⟩
structure TD where
 v:Int
 c:RD
structure TermsR (w:World) (ad:Option Addr) (n c:Nat) (ts:List TD):Prop where
 len:ts.length=n
 cap:n≤c
 ok:∀(i:Nat) (t:TD),ts[i]?=some t→t.c.In w
 cells:0<n→∃b o,ad=some ⟨b,o,none⟩∧b<w.heap.size∧∀(i:Nat) (t:TD),ts[i]?=some t→
  w.cell? ⟨b,o+i*4,none⟩=some (.int .i64 t.v)∧w.cell? ⟨b,o+i*4+1,none⟩=some (.bool t.c.neg)∧
  w.cell? ⟨b,o+i*4+2,none⟩=some (.slice t.c.a1 t.c.n1 t.c.c1)∧w.cell? ⟨b,o+i*4+3,none⟩=some (.slice t.c.a2 t.c.n2 t.c.c2)
theorem TermsR.on{w w':World}{ad:Option Addr}{n c:Nat}{ts:List TD}(h:TermsR w ad n c ts)(hb:Below w.heap.size w w'):TermsR w' ad n c ts:=
 ⟨h.len,h.cap,fun i t ht=>(h.ok i t ht).on hb,fun h0=>by
  obtain ⟨b,o,e,hlt,hc⟩:=h.cells h0
  refine ⟨b,o,e,Nat.lt_of_lt_of_le hlt hb.size,fun i t ht=>?_⟩
  obtain ⟨e0,e1,e2,e3⟩:=hc i t ht
  have f:=fun k=>hb.cell (p:=⟨b,k,none⟩) hlt
  exact ⟨(f _).trans e0,(f _).trans e1,(f _).trans e2,(f _).trans e3⟩⟩
def ZAz(ts:List TD)(vars:Int)(i:Nat):Prop:=∀t,ts[i]?=some t→0≤t.v∧t.v<vars∧(∀(j:Nat) (u:TD),i=j+1→ts[j]?=some u→u.v<t.v)∧sgR t.c.q≠0∧t.c.Ok
def ZzY(ts:List TD)(k:RD)(vars:Int):Prop:=(∀i,ZAz ts vars i)∧k.Ok
noncomputable instance (ts:List TD) (k:RD) (vars:Int):Decidable (ZzY ts k vars):=Classical.propDecidable _
def H(q:Rat):Nat:=max (lmb q.num.natAbs).length (lmb q.den).length
theorem ZzK(z:Int){D:Nat}(hD:0<D):H (mkRat z D)≤max (lmb z.natAbs).length (lmb D).length:=by
 unfold H
 rw [Rat.num_mkRat,Rat.den_mkRat,if_neg (by omega),if_neg (by omega)]
 have h1:=Zw (Int.natAbs_ediv_le_natAbs z ((D.gcd z.natAbs:Nat):Int))
 have h2:=Zw (Nat.div_le_self D (D.gcd z.natAbs))
 omega
theorem Zek(a b:Rat):H (a+b)≤H a+H b+1:=by
 have e:=ZaI a.num b.num a.den_pos b.den_pos
 rw [Rat.mkRat_self,Rat.mkRat_self] at e
 rw [←e]
 have h0:=ZzK (a.num*b.den+b.num*a.den) (Nat.mul_pos a.den_pos b.den_pos)
 have e2:=Zw (Int.natAbs_add_le (a.num*b.den) (b.num*a.den))
 rw [Int.natAbs_mul,Int.natAbs_mul,Int.natAbs_natCast,Int.natAbs_natCast] at e2
 have e3:=VT (a.num.natAbs*b.den) (b.num.natAbs*a.den)
 have e4:=YB a.num.natAbs b.den
 have e5:=YB b.num.natAbs a.den
 have e6:=YB a.den b.den
 have u1:(lmb a.num.natAbs).length≤H a:=Nat.le_max_left _ _
 have u2:(lmb a.den).length≤H a:=Nat.le_max_right _ _
 have u3:(lmb b.num.natAbs).length≤H b:=Nat.le_max_left _ _
 have u4:(lmb b.den).length≤H b:=Nat.le_max_right _ _
 omega
theorem Kk(a b:Rat):H (a*b)≤H a+H b:=by
 have e:=Rat.mkRat_mul_mkRat a.num b.num a.den b.den
 rw [Rat.mkRat_self,Rat.mkRat_self] at e
 rw [e]
 have h0:=ZzK (a.num*b.num) (Nat.mul_pos a.den_pos b.den_pos)
 rw [Int.natAbs_mul] at h0
 have e4:=YB a.num.natAbs b.num.natAbs
 have e6:=YB a.den b.den
 have u1:(lmb a.num.natAbs).length≤H a:=Nat.le_max_left _ _
 have u2:(lmb a.den).length≤H a:=Nat.le_max_right _ _
 have u3:(lmb b.num.natAbs).length≤H b:=Nat.le_max_left _ _
 have u4:(lmb b.den).length≤H b:=Nat.le_max_right _ _
 omega
theorem Zbb(a:Rat):H (-a)=H a:=by unfold H;rw [Rat.neg_num,Rat.neg_den,Int.natAbs_neg]
theorem ZcW(d:Nat):(QX d).length≤(lmb d).length:=by unfold QX;split <;>simp
section
variable {w : World} {neg : Bool} {a1 a2 : Option Addr} {n1 c1 n2 c2 : Nat} {q : Rat}
end
theorem Yl{q:Rat}:sgR q=0↔q=0:=by
 unfold sgR
 rw [Int.sign_eq_zero_iff_zero,Rat.num_eq_zero]
section
variable {w w' : World} {base : Nat} {e : TypeId} {size : Nat} {v : Value} {n : Nat} {xs : List Value}
def V7(ts:List TD):List Value:=ts.flatMap fun t=>[.int .i64 t.v,.bool t.c.neg,.slice t.c.a1 t.c.n1 t.c.c1,.slice t.c.a2 t.c.n2 t.c.c2]
theorem ZiW(ts:List TD):(V7 ts).length=ts.length*4:=by
 induction ts with
 | nil=>rfl
 | cons t ts ih=>simp [V7,List.flatMap_cons] at*;omega
theorem Zh7{ts:List TD}{i:Nat}{t:TD}(h:ts[i]?=some t):(V7 ts)[i*4]?=some (.int .i64 t.v)∧(V7 ts)[i*4+1]?=some (.bool t.c.neg)∧
  (V7 ts)[i*4+2]?=some (.slice t.c.a1 t.c.n1 t.c.c1)∧(V7 ts)[i*4+3]?=some (.slice t.c.a2 t.c.n2 t.c.c2):=by
 induction ts generalizing i with
 | nil=>cases h
 | cons u ts ih=>
   have e:V7 (u::ts)=.int .i64 u.v::.bool u.c.neg::.slice u.c.a1 u.c.n1 u.c.c1::.slice u.c.a2 u.c.n2 u.c.c2::V7 ts:=rfl
   rw [e]
   cases i with
   | zero=>cases h;exact ⟨rfl,rfl,rfl,rfl⟩
   | succ i=>
     have:=ih (i:=i) h
     rw [show (i+1)*4=i*4+4 by omega]
     exact this
theorem LimR.row{ad:Option Addr}{m c:Nat}{l:List Nat}(h:LimR w ad m c l)(hr:Row Xp w base e size v n xs)(hg:w.grownBy w' v.ownBlock):LimR w' ad m c l:=
 ⟨h.len,h.cap,h.lim,fun hn=>by
  obtain ⟨b,o,e1,hlt,hc⟩:=h.cells hn
  have hne:some b≠v.ownBlock:=fun h9=>by
   rcases hr.own.2 with ⟨rfl,_⟩|⟨g,cap,cur,rfl,_,hgg,_⟩
   ·simp [Value.ownBlock] at h9
   ·simp only [Value.ownBlock,Option.some.injEq] at h9
    subst h9
    have h8:=hc 0 hn
    rw [cell_of_row w b _ cur e (0,0) hgg] at h8
    exact hr.all b cur e (0,0) rfl hgg _ (Array.mem_of_getElem? h8) _ rfl
  exact ⟨b,o,e1,Nat.lt_of_lt_of_le hlt hg.size,fun i hi=>(World.cell?_of_block (hg.block b hlt hne)).trans (hc i hi)⟩⟩
theorem RD.In.row{r:RD}(h:r.In w)(hr:Row Xp w base e size v n xs)(hg:w.grownBy w' v.ownBlock):r.In w':=⟨h.num.row hr hg,h.den.row hr hg⟩
theorem RatC.row{neg:Bool}{a1 a2:Option Addr}{n1 c1 n2 c2:Nat}{q:Rat}(h:RatC w neg a1 n1 c1 a2 n2 c2 q)(hr:Row Xp w base e size v n xs)(hg:w.grownBy w' v.ownBlock):RatC w' neg a1 n1 c1 a2 n2 c2 q:=
 ⟨h.sign,h.num.row hr hg,h.den.row hr hg⟩
theorem Row.terms{ad:Option Addr}{c:Nat}{ts:List TD}(h:Row Xp w base 68 4 (.slice ad n c) n (V7 ts))(hin:∀(i:Nat) (t:TD),ts[i]?=some t→t.c.In w):TermsR w ad n c ts:=by
 have hlen:ts.length=n:=by have:=h.own.1;rw [ZiW] at this;omega
 rcases h.own.2 with ⟨hv,h0⟩|⟨g,cap,cur,hv,_,hg,hnc,_,hsz,htake⟩
 ·cases hv
  exact ⟨hlen,by omega,hin,fun h=>by omega⟩
 ·cases hv
  refine ⟨hlen,hnc,hin,fun _=>⟨g,0,rfl,(Array.getElem?_eq_some_iff.1 hg).1,fun i t ht=>?_⟩⟩
  have hi:=(List.getElem?_eq_some_iff.1 ht).1
  have key:∀k x,(V7 ts)[k]?=some x→w.cell? ⟨g,k,none⟩=some x:=fun k x hk=>by
   rw [cell_of_row w g k cur _ (0,0) hg,←Array.getElem?_toList]
   rw [←htake,List.getElem?_take] at hk
   split at hk
   ·exact hk
   ·cases hk
  obtain ⟨e0,e1,e2,e3⟩:=Zh7 ht
  simp only [Nat.zero_add]
  exact ⟨key _ _ e0,key _ _ e1,key _ _ e2,key _ _ e3⟩
end
section
variable {P : Program} {w : World}
end
structure Spc where
 p:Value→World→Prop
 mono:∀v w w',p v w→Below w.heap.size w w'→p v w'
def Spc.any:Spc:=⟨fun _ _=>True,fun _ _ _ h _=>h⟩
section
variable {P : Program} {ops : Array Oper} {Q : Exit → Act → World → Prop} {md : Region.Mode}
end
structure IntR (w:World) (ad:Option Addr) (n c:Nat) (xs:List Int):Prop where
 len:xs.length=n
 cap:n≤c
 cells:0<n→∃b o,ad=some ⟨b,o,none⟩∧b<w.heap.size∧∀(i:Nat) (x:Int),xs[i]?=some x→w.cell? ⟨b,o+i,none⟩=some (.int .i64 x)
theorem IntR.on{w w':World}{ad:Option Addr}{n c:Nat}{xs:List Int}(h:IntR w ad n c xs)(hb:Below w.heap.size w w'):IntR w' ad n c xs:=
 ⟨h.len,h.cap,fun h0=>by
  obtain ⟨b,o,e,hlt,hc⟩:=h.cells h0
  exact ⟨b,o,e,Nat.lt_of_lt_of_le hlt hb.size,fun i x hx=>(hb.cell (p:=⟨b,o+i,none⟩) hlt).trans (hc i x hx)⟩⟩
theorem Row.lit{w:World}{t:TypeId}(Qc:Value→Prop)(size n:Nat){cs:Array Value}(hn:n≤maxLen)(hcs:cs.size=n*size)(hQ:∀x∈cs,Qc x):Row Qc (w.alloc (.cells cs t)) w.heap.size t size (.slice (some ⟨w.heap.size,0,none⟩) n n) n cs.toList:=by
 have h:(w.alloc (.cells cs t)).heap[w.heap.size]?=some (.cells cs t (0,0)):=heap_alloc_new ..
 refine ⟨⟨by simp [hcs],.inr ⟨w.heap.size,n,cs,rfl,Nat.le_refl _,h,Nat.le_refl _,hn,hcs,by rw [←hcs,←Array.length_toList,List.take_length]⟩⟩,fun g cur t' p hg hc x hx=>?_⟩
 simp only [Value.ownBlock,Option.some.injEq] at hg
 subst hg
 rw [h] at hc
 cases hc
 exact hQ x hx
def RetMk(q:Rat)(w:World)(e:Ending)(w':World):Prop:=
 ∃s a1 n1 c1 a2 n2 c2,e=.returned (.tuple #[.agg #[.bool s,.slice a1 n1 c1,.slice a2 n2 c2],.int .i64 0])∧RatC w' s a1 n1 c1 a2 n2 c2 q∧Below w.heap.size w w'
theorem ZvS{s1 s2:Bool}{x y:Int}(h1:s1=decide (x<0))(h2:s2=decide (y<0))(hy:y≠0):mkRat (sgi (!(s1==s2)) x.natAbs) y.natAbs=(x:Rat) / (y:Rat):=by
 rw [Rat.mkRat_eq_div]
 subst h1 h2
 have e1:∀z:Int,0≤z→((z.natAbs:Nat):Rat)=(z:Rat):=fun z hz=>by
  rw [←Rat.intCast_natCast,Int.natAbs_of_nonneg hz]
 have e2:∀z:Int,z<0→((z.natAbs:Nat):Rat)=-(z:Rat):=fun z hz=>by
  rw [←Rat.intCast_natCast,Int.ofNat_natAbs_of_nonpos (by omega),Rat.intCast_neg]
 have hyr:(y:Rat)≠0:=fun h=>hy (Rat.intCast_inj.1 (h.trans (rfl:(0:Rat)=((0:Int):Rat))))
 unfold sgi
 by_cases hx:x<0 <;>by_cases hy':y<0 <;>simp only [hx,hy',decide_true,decide_false] <;>simp
 ·rw [Int.ofNat_natAbs_of_nonpos (by omega),e2 y hy'];grind
 ·rw [Int.ofNat_natAbs_of_nonpos (by omega),e1 y (by omega)];simp
 ·rw [Int.natAbs_of_nonneg (by omega),e2 y hy'];grind
 ·rw [Int.natAbs_of_nonneg (by omega),e1 y (by omega)]
set_option maxRecDepth 100000 in
set_option maxHeartbeats 3200000 in
theorem Zw3(w:World){s1 s2:Bool}{a1 a2:Option Addr}{n1 n2 c1 c2:Nat}{x y:Int}(h1:IntC w s1 a1 n1 c1 x)(h2:IntC w s2 a2 n2 c2 y)(hy:y≠0)(hn1:n1≤4398046511104)(hn2:n2≤4398046511104):
  Calls Tryz.prog 125 #[.agg #[.bool s1,.slice a1 n1 c1],.agg #[.bool s2,.slice a2 n2 c2]] w (RetMk ((x:Rat) / (y:Rat)) w):=by
 have hsg:y.sign≠0:=fun h=>hy (Int.sign_eq_zero_iff_zero.1 h)
 have HSG:=Lib.hid hsg
 clear hsg
 have hP := Pro3.mk' w #[.bool s1, .slice a1 n1 c1] #[.bool s2, .slice a2 n2 c2] #[.bool false, .slice none 0 0, .slice none 0 0] 74 74 26
 go_enter Tryz.func125, Tryz.ntmps125
 go_upto_region 1 with (fail)
 generalize ((w.alloc (.cells #[.bool s1, .slice a1 n1 c1] 74)).alloc (.cells #[.bool s2, .slice a2 n2 c2] 74)).alloc (.cells #[.bool false, .slice none 0 0, .slice none 0 0] 26) = W at *
 have k00 := hP.b0.cell 0
 have f00 := hP.b0.frozen 0
 have k01 := hP.b0.cell 1
 have f01 := hP.b0.frozen 1
 have z0 := hP.b0.lt
 have k10 := hP.b1.cell 0
 have f10 := hP.b1.frozen 0
 have k11 := hP.b1.cell 1
 have f11 := hP.b1.frozen 1
 have z1 := hP.b1.lt
 have k20 := hP.b2.cell 0
 have f20 := hP.b2.frozen 0
 have k21 := hP.b2.cell 1
 have f21 := hP.b2.frozen 1
 have k22 := hP.b2.cell 2
 have f22 := hP.b2.frozen 2
 have z2 := hP.b2.lt
 simp at k00 k01 k10 k11 k20 k21 k22
 have nb20 : w.heap.size + 1 + 1 ≠ w.heap.size := by omega
 have hw0 : Below W.heap.size W W.drew := Below.drew (Below.refl _ _)
 have g1:=h1.on hP.below
 have g2:=h2.on hP.below
 have e2:iv s2 (lmb y.natAbs)=y:=by
  have:=h2.sign.out
  unfold iv;rw [Zg,this]
  by_cases h:y<0 <;>simp [h] <;>omega
 have HE:=Lib.hid e2
 clear e2
 go_wp2_with fail
 refine (ZeV _ g2.mag (by omega)).mono ?_
 rintro e w5 ⟨rfl,hb5⟩
 rw [HE.out]
 obtain ⟨hc5,hf5⟩:=Zy hb5
 have g1':=g1.on hb5
 have g2':=g2.on hb5
 have hsg:=HSG.out
 generalize y.sign=sg at*
 have dsg:decide (sg=0)=false:=decide_eq_false hsg
 have HS:=Lib.hid (ZvS h1.sign.out h2.sign.out hy)
 have z0':=Nat.lt_of_lt_of_le z0 hb5.size
 have z1':=Nat.lt_of_lt_of_le z1 hb5.size
 have z2':=Nat.lt_of_lt_of_le z2 hb5.size
 clear h1 h2 g1 g2
 go_wp2_with fail
 refine (Uh _ g1'.mag g2'.mag (by omega) (by omega) (by rw [Zg];omega)).mono ?_
 rintro e w6 ⟨s6,a6,m6,c6,a7,m7,c7,rfl,g6,hb6⟩
 have hb56:=hb5.trans (hb6.mono hb5.size)
 obtain ⟨hc6,hf6⟩:=Zy hb56
 rw [Zg,Zg,HS.out] at g6
 clear g1' g2' hc5 hf5
 go_wp2_with fail
 exact bodyPost_ret (v:=.tuple #[.agg #[.bool s6,.slice a6 m6 c6,.slice a7 m7 c7],.int .i64 0]) (by simp [results, Tryz.results125,go_sem, *]) rfl
  ⟨_,_,_,_,_,_,_,rfl,g6.box27 (B:=w.heap.size+1+1) (x:=false) (a:=none) (a':=none) (m:=0) (k:=0) (m':=0) (k':=0) (by simp [*]) (by simp [*]) (by simp [*]) _ _ _,ZC (hP.below.trans (hb56.mono (by omega))) (by omega) _ _ _⟩
theorem Zz4{x:Int}(h0:-9223372036854775808≤x)(h1:x≤9223372036854775807):(lmb x.natAbs).length≤2:=Yg (by omega)
set_option maxRecDepth 100000 in
set_option maxHeartbeats 3200000 in
theorem ZvZ(w:World){x y:Int}(hx0:-9223372036854775808≤x)(hx1:x≤9223372036854775807)(hy0:-9223372036854775808≤y)(hy1:y≤9223372036854775807)(hy:y≠0):
  Calls Tryz.prog 96 #[.int .i64 x,.int .i64 y] w (RetMk ((x:Rat) / (y:Rat)) w):=by
 have hP := Pro1.mk' w #[.bool false, .slice none 0 0, .slice none 0 0] 26
 go_enter Tryz.func96, Tryz.ntmps96
 go_upto_region 1 with (fail)
 generalize w.alloc (.cells #[.bool false, .slice none 0 0, .slice none 0 0] 26) = W at *
 have k00 := hP.b0.cell 0
 have f00 := hP.b0.frozen 0
 have k01 := hP.b0.cell 1
 have f01 := hP.b0.frozen 1
 have k02 := hP.b0.cell 2
 have f02 := hP.b0.frozen 2
 have z0 := hP.b0.lt
 simp at k00 k01 k02
 have hw0 : Below W.heap.size W W.drew := Below.drew (Below.refl _ _)
 go_wp2_with fail
 refine (ZfO _ x hx0 hx1).mono ?_
 rintro e w3 ⟨s3,a3,n3,c3,rfl,g3,hb3⟩
 go_wp2_with fail
 refine (ZfO _ y hy0 hy1).mono ?_
 rintro e w4 ⟨s4,a4,n4,c4,rfl,g4,hb4'⟩
 have hb4:=hb3.trans (hb4'.mono hb3.size)
 have l3:n3≤2:=by rw [←g3.mag.len];exact Zz4 hx0 hx1
 have l4:n4≤2:=by rw [←g4.mag.len];exact Zz4 hy0 hy1
 go_wp2_with fail
 refine (Zw3 _ (g3.on hb4') g4 hy (by omega) (by omega)).mono ?_
 rintro e w6 ⟨s6,a6,m6,c6,a7,m7,c7,rfl,g6,hb6⟩
 have hb56:=hb4.trans (hb6.mono hb4.size)
 obtain ⟨hc6,hf6⟩:=Zy hb56
 have z0':=Nat.lt_of_lt_of_le z0 hb56.size
 clear g3 g4 hb3 hb4' hb4 hy
 go_wp2_with fail
 exact bodyPost_ret (v:=.tuple #[.agg #[.bool s6,.slice a6 m6 c6,.slice a7 m7 c7],.int .i64 0]) (by simp [results, Tryz.results96,go_sem, *]) rfl
  ⟨_,_,_,_,_,_,_,rfl,g6.box27 (B:=w.heap.size) (x:=false) (a:=none) (a':=none) (m:=0) (k:=0) (m':=0) (k':=0) (by simp [*]) (by simp [*]) (by simp [*]) _ _ _,ZC (hP.below.trans (hb56.mono (by omega))) (by omega) _ _ _⟩
structure ED where
 k:Int
 i:Int
 c:RD
def ED.In(e:ED)(w:World):Prop:=e.c.In w
theorem ED.In.on{e:ED}{w w':World}(h:e.In w)(hb:Below w.heap.size w w'):e.In w':=RD.In.on h hb
structure EsR (w:World) (ad:Option Addr) (n c:Nat) (es:List ED):Prop where
 len:es.length=n
 cap:n≤c
 ok:∀(i:Nat) (e:ED),es[i]?=some e→e.In w
 cells:0<n→∃b o,ad=some ⟨b,o,none⟩∧b<w.heap.size∧∀(i:Nat) (e:ED),es[i]?=some e→
  w.cell? ⟨b,o+i*5,none⟩=some (.int .i64 e.k)∧w.cell? ⟨b,o+i*5+1,none⟩=some (.int .i64 e.i)∧w.cell? ⟨b,o+i*5+2,none⟩=some (.bool e.c.neg)∧
  w.cell? ⟨b,o+i*5+3,none⟩=some (.slice e.c.a1 e.c.n1 e.c.c1)∧w.cell? ⟨b,o+i*5+4,none⟩=some (.slice e.c.a2 e.c.n2 e.c.c2)
theorem EsR.on{w w':World}{ad:Option Addr}{n c:Nat}{es:List ED}(h:EsR w ad n c es)(hb:Below w.heap.size w w'):EsR w' ad n c es:=
 ⟨h.len,h.cap,fun i t ht=>(h.ok i t ht).on hb,fun h0=>by
  obtain ⟨b,o,e,hlt,hc⟩:=h.cells h0
  refine ⟨b,o,e,Nat.lt_of_lt_of_le hlt hb.size,fun i t ht=>?_⟩
  obtain ⟨e0,e1,e2,e3,e4⟩:=hc i t ht
  have f:=fun k=>hb.cell (p:=⟨b,k,none⟩) hlt
  exact ⟨(f _).trans e0,(f _).trans e1,(f _).trans e2,(f _).trans e3,(f _).trans e4⟩⟩
def ED.u(e:ED):Bool:=decide (e.k=1∨e.k=2)
def ED.V(e:ED):Prop:=0≤e.i∧((e.u=true∧e.i<1024∧e.c.neg=false∧e.c.l1=[]∧e.c.l2=[])∨((e.k=3∨e.k=4)∧e.i<256∧e.c.Ok))
noncomputable instance (e:ED):Decidable e.V:=Classical.propDecidable _
def TwN(es:List ED)(n:Nat):Prop:=∃(i j:Nat) (a b:ED),j<i∧i<n∧es[i]?=some a∧es[j]?=some b∧a.u=true∧b.u=true∧a.i=b.i
def Tw(es:List ED):Prop:=TwN es es.length
noncomputable instance (es:List ED):Decidable (Tw es):=Classical.propDecidable _
def ZB9(es:List ED)(units:Int):Prop:=∀(i:Nat) (e:ED),es[i]?=some e→e.V∧(e.u=true→e.i<units)
noncomputable instance (es:List ED) (units:Int):Decidable (ZB9 es units):=Classical.propDecidable _
end Go.Proofs.YtdaonnnlgfhlaaaGreatDoor
