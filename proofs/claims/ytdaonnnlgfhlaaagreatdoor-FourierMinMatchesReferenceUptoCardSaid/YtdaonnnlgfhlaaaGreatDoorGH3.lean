import Derived.Test.YtdaonnnlgfhlaaaGreatDoorGH2
import Derived.Test.YtdaonnnlgfhlaaaGreatDoorGH0
set_option linter.all false
namespace Go.Proofs.YtdaonnnlgfhlaaaGreatDoor
open Go.RowKit
set_option maxHeartbeats 400000 in
theorem Zc9(w:World):Calls Tryz.prog 101 #[] w (RetN 1 w):=by
 go_enter Tryz.func101, Tryz.ntmps101
 go_wp2_with fail
 go_ret
 have hB:LB (w.alloc (.cells (Vr [1]) 114)) w.heap.size [1]:=⟨Blk.new w _ _,X5 (by omega) XT⟩
 exact ⟨_,_,_,rfl,by rw [Xe];exact hB.read 1 rfl,(Below.refl _ _).alloc (Nat.le_refl _) _⟩
theorem ZqM{k n:Nat}(hn:(lmb k).length=n):k=1↔n=1∧(lmb k).getD 0 0=1:=by
 constructor
 ·rintro rfl;rw [Xe] at*;exact ⟨hn.symm,rfl⟩
 ·rintro ⟨h1,h2⟩
  subst h1
  have:=ZQ (lmb k) 0
  rw [Yy,h2,Z8 _ (by omega),Zg] at this
  omega
set_option maxHeartbeats 800000 in
theorem JA(w:World){ad:Option Addr}{n c k:Nat}(h:LimR w ad n c (lmb k))(hn:n≤17592186044416):
  Calls Tryz.prog 106 #[.slice ad n c] w fun e w'=>e=.returned (.bool (decide (k=1)))∧w=w':=by
 have HU:=Lib.hid (ZqM h.len)
 by_cases h1:n=1
 ·subst h1
  obtain ⟨b,o,x,rfl,_,hx,hu,HX⟩:=h.at_ (show 0<1 by omega)
  rw [Nat.add_zero] at hx
  have HD:Hid (decide (k=1)=decide (x=1)):=by
   show _=_
   have:=HU.out
   rw [HX.out] at this
   by_cases hk:k=1
   ·rw [decide_eq_true hk,decide_eq_true (this.1 hk).2]
   ·rw [decide_eq_false hk,decide_eq_false (fun e=>hk (this.2 ⟨rfl,e⟩))]
  go_enter Tryz.func106, Tryz.ntmps106
  go_wp2_with fail
  go_ret
  refine ⟨?_,rfl⟩
  rw [HD.out]
  have e9:((x:Int)==1)=decide (x=1):=by rw [Bool.eq_iff_iff];simp;omega
  show Ending.returned (Value.bool ((x:Int)==1))=_
  rw [e9]
 ·have HD:Hid (decide (k=1)=false):=decide_eq_false (fun e=>h1 (HU.out.1 e).1)
  have e1:((n:Int)==1)=false:=by simp;omega
  clear h1
  go_enter Tryz.func106, Tryz.ntmps106
  go_wp2_with fail
  go_ret
  exact ⟨by rw [HD.out];rfl,rfl⟩
def dn(l:List Nat):Nat:=if val l=0 then 1 else val l
theorem Yx(l:List Nat):0<dn l:=by unfold dn;split <;>omega
def ZkU(l:List Nat)(n2:Nat)(w:World)(e:Ending)(w':World):Prop:=
 ∃ad n c l',e=.returned (.slice ad n c)∧LimR w' ad n c l'∧Hid (val l'=dn l)∧n≤n2+1∧Below w.heap.size w w'
set_option maxHeartbeats 800000 in
theorem Ww(w:World){neg:Bool}{a1 a2:Option Addr}{n1 n2 c1 c2:Nat}{l:List Nat}(h:LimR w a2 n2 c2 l)(hn:n2≤17592186044416):
  Calls Tryz.prog 77 #[.agg #[.bool neg,.slice a1 n1 c1,.slice a2 n2 c2]] w (ZkU l n2 w):=by
 have hb0:Below w.heap.size w (w.alloc (.cells #[.bool neg,.slice a1 n1 c1,.slice a2 n2 c2] 26)):=(Below.refl _ _).alloc (Nat.le_refl _) _
 have h':=h.on hb0
 go_enter Tryz.func77, Tryz.ntmps77
 go_wp2_with fail
 refine (ZbL _ h' (by omega)).mono ?_
 rintro e w1 ⟨b,rfl,hb,HB,rfl⟩
 by_cases hz:b=0
 ·have HZ:Hid (val l=0):=HB.out.1 hz
  subst hz
  go_wp2_with fail
  refine (Zc9 _).mono ?_
  rintro e w1 ⟨ad3,n3,c3,rfl,g3,hb3⟩
  go_wp2_with fail
  go_ret
  exact ⟨_,_,_,_,rfl,g3,(by rw [Zg];unfold dn;rw [if_pos HZ.out]:val (lmb 1)=dn l),by have:=g3.len;rw [Xe] at this;simp at this;omega,hb0.trans (hb3.mono hb0.size)⟩
 ·have HZ:Hid (val l≠0):=fun e=>hz (HB.out.2 e)
  have e1:(b==0)=false:=by simp;exact hz
  clear hz
  go_wp2_with fail
  go_ret
  exact ⟨_,_,_,_,rfl,h',(by unfold dn;rw [if_neg HZ.out]:val l=dn l),by omega,hb0⟩
structure RatC (w:World) (neg:Bool) (a1:Option Addr) (n1 c1:Nat) (a2:Option Addr) (n2 c2:Nat) (q:Rat):Prop where
 sign:Hid (neg=decide (q.num<0))
 num:LimR w a1 n1 c1 (lmb q.num.natAbs)
 den:LimR w a2 n2 c2 (QX q.den)
theorem RatC.on{w w':World}{neg:Bool}{a1 a2:Option Addr}{n1 c1 n2 c2:Nat}{q:Rat}(h:RatC w neg a1 n1 c1 a2 n2 c2 q)(hb:Below w.heap.size w w'):RatC w' neg a1 n1 c1 a2 n2 c2 q:=⟨h.sign,h.num.on hb,h.den.on hb⟩
theorem RatC.box27{w:World}{neg:Bool}{a1 a2:Option Addr}{n1 c1 n2 c2:Nat}{q:Rat}(h:RatC w neg a1 n1 c1 a2 n2 c2 q){B m k m' k':Nat}{x:Bool}{a a':Option Addr}(h0:w.cell? ⟨B,0,none⟩=some (.bool x))(h1:w.cell? ⟨B,1,none⟩=some (.slice a m k))(h2:w.cell? ⟨B,2,none⟩=some (.slice a' m' k'))(u v s:Value):
  RatC (((w.setCell ⟨B,0,none⟩ u).setCell ⟨B,1,none⟩ v).setCell ⟨B,2,none⟩ s) neg a1 n1 c1 a2 n2 c2 q:=⟨h.sign,h.num.box27 h0 h1 h2 u v s,h.den.box27 h0 h1 h2 u v s⟩
def RetR(q:Rat)(w:World)(e:Ending)(w':World):Prop:=
 ∃neg a1 n1 c1 a2 n2 c2,e=.returned (.agg #[.bool neg,.slice a1 n1 c1,.slice a2 n2 c2])∧RatC w' neg a1 n1 c1 a2 n2 c2 q∧Below w.heap.size w w'
theorem ZkK(w:World){a1 a2:Option Addr}{c1 c2:Nat}:RatC w false a1 0 c1 a2 0 c2 0:=⟨(rfl:false=decide ((0:Rat).num<0)),LimR.nil _ _ _,LimR.nil _ _ _⟩
theorem Zqo{w:World}{neg:Bool}{a1 a2:Option Addr}{n1 c1 c2 N:Nat}(hN:0<N)(h:LimR w a1 n1 c1 (lmb N)):RatC w neg a1 n1 c1 a2 0 c2 (mkRat (sgi neg N) 1):=by
 refine ⟨ZgX neg hN (by omega),?_,?_⟩
 ·rw [KE neg hN (by omega),Nat.gcd_one_right,Nat.div_one];exact h
 ·rw [(Us neg hN (by omega:0<1)).2,Nat.gcd_one_right];exact LimR.nil _ _ _
theorem ZaJ{w:World}{neg:Bool}{a1 a2:Option Addr}{n1 c1 n2 c2 N D:Nat}(hN:0<N)(hD:0<D)(h:LimR w a1 n1 c1 (lmb (N / Nat.gcd N D)))(hd:LimR w a2 n2 c2 (QX (D / Nat.gcd N D))):RatC w neg a1 n1 c1 a2 n2 c2 (mkRat (sgi neg N) D):=by
 refine ⟨ZgX neg hN hD,?_,?_⟩
 ·rw [KE neg hN hD];exact h
 ·rw [(Us neg hN hD).2];exact hd
theorem Zhb:QX 1=[]:=rfl
theorem ZfC{d:Nat}(h:d≠1):QX d=lmb d:=if_neg h
set_option maxRecDepth 100000 in
set_option maxHeartbeats 3200000 in
theorem Kx(w:World){neg:Bool}{a1 a2:Option Addr}{n1 n2 c1 c2:Nat}{l1 l2:List Nat}(h1:LimR w a1 n1 c1 l1)(h2:LimR w a2 n2 c2 l2)(hn1:n1≤8796093022208)(hn2:n2≤8796093022208)(hd:0<val l2):
  Calls Tryz.prog 75 #[.bool neg,.slice a1 n1 c1,.slice a2 n2 c2] w (RetR (mkRat (sgi neg (val l1)) (val l2)) w):=by
 have hb0:Below w.heap.size w (w.alloc (.cells #[.bool false,.slice none 0 0,.slice none 0 0] 26)):=(Below.refl _ _).alloc (Nat.le_refl _) _
 have hB:=Blk.new w 26 #[.bool false,.slice none 0 0,.slice none 0 0]
 go_enter Tryz.func75, Tryz.ntmps75
 go_upto_region 1 with (fail)
 generalize w.alloc (.cells #[.bool false,.slice none 0 0,.slice none 0 0] 26)=W at*
 have z0:=hB.lt
 have g1:=h1.on hb0
 have g2:=h2.on hb0
 have HL1:=Lib.hid (Zn h1.lim)
 have HL2:=Lib.hid (Zn h2.lim)
 rw [h1.len] at HL1
 rw [h2.len] at HL2
 clear h1 h2
 go_wp2_with fail
 refine (Ws _ g1 (by omega)).mono ?_
 rintro e w3 ⟨a3,n3,c3,rfl,g3,hb3⟩
 have g2':=g2.on hb3
 have hB3:=hB.on hb3
 have hW3:Below w.heap.size w w3:=hb0.trans (hb3.mono hb0.size)
 have hn3:n3≤n1:=by rw [←g3.len];exact HL1.out
 have z3:=hB3.lt
 clear g1 g2 hb3 hB hb0 z0
 generalize val l1=N at*
 rcases Nat.eq_zero_or_pos n3 with h0|h0
 ·have hN:Hid (N=0):=by have:=g3.len;rw [h0] at this;exact ZZ.1 this
  have e1:((n3:Int)==0)=true:=by simp;omega
  have k0:=hB3.cell 0
  have k1:=hB3.cell 1
  have k2:=hB3.cell 2
  have k3:=hB3.frozen 0
  have k4:=hB3.frozen 1
  have k5:=hB3.frozen 2
  simp at k0 k1 k2
  clear h0
  go_wp2_with fail
  exact bodyPost_ret (v:=.agg #[.bool false,.slice none 0 0,.slice none 0 0]) (by simp [results, Tryz.results75,go_sem, *]) rfl
   ⟨_,_,_,_,_,_,_,rfl,by rw [hN.out,ZdH];exact ZkK _,ZC hW3 (Nat.le_refl _) _ _ _⟩
 ·have hN:0<N:=by
   rcases Nat.eq_zero_or_pos N with h9|h9
   ·have:=g3.len;rw [h9] at this;simp at this;omega
   ·exact h9
  have e1:((n3:Int)==0)=false:=by simp;omega
  clear h0
  go_wp2_with fail
  refine (Ws _ g2' (by omega)).mono ?_
  rintro e w4 ⟨a4,n4,c4,rfl,g4,hb4⟩
  have g3':=g3.on hb4
  have hB4:=hB3.on hb4
  have hW4:Below w.heap.size w w4:=hW3.trans (hb4.mono hW3.size)
  have hn4:n4≤n2:=by rw [←g4.len];exact HL2.out
  clear g3 g2' hb4 hB3 hW3 z3
  generalize val l2=D at*
  go_wp2_with fail
  refine (JA _ g4 (by omega)).mono ?_
  rintro e w1 ⟨rfl,rfl⟩
  by_cases hD1:D=1
  ·subst hD1
   have k0:=hB4.cell 0
   have k1:=hB4.cell 1
   have k2:=hB4.cell 2
   have k3:=hB4.frozen 0
   have k4:=hB4.frozen 1
   have k5:=hB4.frozen 2
   have z4:=hB4.lt
   simp at k0 k1 k2
   go_wp2_with fail
   exact bodyPost_ret (v:=.agg #[.bool neg,.slice a3 n3 c3,.slice none 0 0]) (by simp [results, Tryz.results75,go_sem, *]) rfl
    ⟨_,_,_,_,_,_,_,rfl,(Zqo hN g3').box27 k0 k1 k2 _ _ _,ZC hW4 (Nat.le_refl _) _ _ _⟩
  ·rw [decide_eq_false hD1]
   have HD1:=Lib.hid hD1
   clear hD1
   go_wp2_with fail
   refine (Zre _ g3' g4 (by omega) (by omega)).mono ?_
   rintro e w5 ⟨a5,n5,c5,rfl,g5,hb5⟩
   rw [Zg,Zg] at g5
   have g3'':=g3'.on hb5
   have g4':=g4.on hb5
   have hB5:=hB4.on hb5
   have hW5:Below w.heap.size w w5:=hW4.trans (hb5.mono hW4.size)
   have hn5:n5≤n4:=by rw [←g5.len,←g4.len];exact Zw (Nat.le_of_dvd hd (Nat.gcd_dvd_right N D))
   clear g3' g4 hb5 hB4 hW4
   go_wp2_with fail
   refine (JA _ g5 (by omega)).mono ?_
   rintro e w1 ⟨rfl,rfl⟩
   by_cases hG:Nat.gcd N D=1
   ·have hres:=fun w1 neg a1 n1 c1 a2 n2 c2 (h:LimR w1 a1 n1 c1 (lmb N)) (h2:LimR w1 a2 n2 c2 (lmb D))=>ZaJ (w:=w1) (neg:=neg) hN hd (by rw [hG,Nat.div_one];exact h) (by rw [hG,Nat.div_one,ZfC HD1.out];exact h2)
    have HR:=Lib.hid hres
    clear hres
    rw [decide_eq_true hG]
    have HG:=Lib.hid hG
    clear hG
    go_wp2_with fail
    refine (JA _ g4' (by omega)).mono ?_
    rintro e w1 ⟨rfl,rfl⟩
    rw [decide_eq_false HD1.out]
    have k0:=hB5.cell 0
    have k1:=hB5.cell 1
    have k2:=hB5.cell 2
    have k3:=hB5.frozen 0
    have k4:=hB5.frozen 1
    have k5:=hB5.frozen 2
    have z5:=hB5.lt
    simp at k0 k1 k2
    go_wp2_with fail
    exact bodyPost_ret (v:=.agg #[.bool neg,.slice a3 n3 c3,.slice a4 n4 c4]) (by simp [results, Tryz.results75,go_sem, *]) rfl
     ⟨_,_,_,_,_,_,_,rfl,(HR.out _ _ _ _ _ _ _ _ g3'' g4').box27 k0 k1 k2 _ _ _,ZC hW5 (Nat.le_refl _) _ _ _⟩
   ·rw [decide_eq_false hG]
    have HG:=Lib.hid hG
    clear hG
    have hgp:=Zcw (N:=N) hd
    go_wp2_with fail
    refine (Kz _ g3'' g5 (by omega) (by omega) (by rw [Zg];exact hgp)).mono ?_
    rintro e w6 ⟨a6,n6,c6,a7,n7,c7,rfl,g6,_,hb6⟩
    rw [Zg,Zg] at g6
    have g4'':=g4'.on hb6
    have g5':=g5.on hb6
    have hB6:=hB5.on hb6
    have hW6:Below w.heap.size w w6:=hW5.trans (hb6.mono hW5.size)
    clear g3'' g4' g5 hb6 hB5 hW5
    go_wp2_with fail
    refine (Kz _ g4'' g5' (by omega) (by omega) (by rw [Zg];exact hgp)).mono ?_
    rintro e w8 ⟨a8,n8,c8,a9,n9,c9,rfl,g8,_,hb8⟩
    rw [Zg,Zg] at g8
    have g6':=g6.on hb8
    have hB8:=hB6.on hb8
    have hW8:Below w.heap.size w w8:=hW6.trans (hb8.mono hW6.size)
    have hn8:n8≤n4:=by rw [←g8.len,←g4''.len];exact Zw (Nat.div_le_self _ _)
    clear g4'' g5' g6 hb8 hB6 hW6
    go_wp2_with fail
    refine (JA _ g8 (by omega)).mono ?_
    rintro e w1 ⟨rfl,rfl⟩
    have k0:=hB8.cell 0
    have k1:=hB8.cell 1
    have k2:=hB8.cell 2
    have k3:=hB8.frozen 0
    have k4:=hB8.frozen 1
    have k5:=hB8.frozen 2
    have z8:=hB8.lt
    simp at k0 k1 k2
    by_cases hQ:D / Nat.gcd N D=1
    ·have HR:=Lib.hid (ZaJ (neg:=neg) (a2:=none) (n2:=0) (c2:=0) hN hd g6' (by rw [hQ,Zhb];exact LimR.nil _ _ _))
     rw [decide_eq_true hQ]
     clear hQ
     go_wp2_with fail
     exact bodyPost_ret (v:=.agg #[.bool neg,.slice a6 n6 c6,.slice none 0 0]) (by simp [results, Tryz.results75,go_sem, *]) rfl
      ⟨_,_,_,_,_,_,_,rfl,HR.out.box27 k0 k1 k2 _ _ _,ZC hW8 (Nat.le_refl _) _ _ _⟩
    ·have HR:=Lib.hid (ZaJ (neg:=neg) hN hd g6' (by rw [ZfC hQ];exact g8))
     rw [decide_eq_false hQ]
     clear hQ
     go_wp2_with fail
     exact bodyPost_ret (v:=.agg #[.bool neg,.slice a6 n6 c6,.slice a8 n8 c8]) (by simp [results, Tryz.results75,go_sem, *]) rfl
      ⟨_,_,_,_,_,_,_,rfl,HR.out.box27 k0 k1 k2 _ _ _,ZC hW8 (Nat.le_refl _) _ _ _⟩
structure Pro1 (w W:World) (x:Array Value) (tx:TypeId):Prop where
 b0:Blk W w.heap.size tx x
 size:W.heap.size=w.heap.size+1
 below:Below w.heap.size w W
theorem Pro1.mk'(w:World)(x:Array Value)(tx:TypeId):Pro1 w (w.alloc (.cells x tx)) x tx:=⟨Blk.new w tx x,by simp,(Below.refl _ _).alloc (Nat.le_refl _) _⟩
structure Pro2 (w W:World) (x y:Array Value) (tx ty:TypeId):Prop where
 b0:Blk W w.heap.size tx x
 b1:Blk W (w.heap.size+1) ty y
 size:W.heap.size=w.heap.size+2
 below:Below w.heap.size w W
theorem Pro2.mk'(w:World)(x y:Array Value)(tx ty:TypeId):Pro2 w ((w.alloc (.cells x tx)).alloc (.cells y ty)) x y tx ty:=by
 have e1:(w.alloc (.cells x tx)).heap.size=w.heap.size+1:=by simp
 refine ⟨(Blk.new w tx x).alloc _,?_,by simp,((Below.refl _ _).alloc (Nat.le_refl _) _).alloc (by simp) _⟩
 have:=Blk.new (w.alloc (.cells x tx)) ty y
 rwa [e1] at this
structure Pro4 (w W:World) (x y z u:Array Value) (tx ty tz tu:TypeId):Prop where
 b0:Blk W w.heap.size tx x
 b1:Blk W (w.heap.size+1) ty y
 b2:Blk W (w.heap.size+2) tz z
 b3:Blk W (w.heap.size+3) tu u
 size:W.heap.size=w.heap.size+4
 below:Below w.heap.size w W
theorem Pro4.mk'(w:World)(x y z u:Array Value)(tx ty tz tu:TypeId):Pro4 w ((((w.alloc (.cells x tx)).alloc (.cells y ty)).alloc (.cells z tz)).alloc (.cells u tu)) x y z u tx ty tz tu:=by
 have h:=Pro3.mk' w x y z tx ty tz
 have:=Blk.new (((w.alloc (.cells x tx)).alloc (.cells y ty)).alloc (.cells z tz)) tu u
 rw [h.size] at this
 exact ⟨h.b0.alloc _,h.b1.alloc _,h.b2.alloc _,this,by rw [World.size_alloc,h.size],h.below.alloc h.below.size _⟩
def sv(neg:Bool)(l d:List Nat):Rat:=mkRat (sgi neg (val l)) (dn d)
set_option maxRecDepth 100000 in
set_option maxHeartbeats 3200000 in
theorem ZbB(w:World){neg:Bool}{a1 a2:Option Addr}{n1 n2 c1 c2:Nat}{l1 l2:List Nat}(h1:LimR w a1 n1 c1 l1)(h2:LimR w a2 n2 c2 l2)(hn1:n1≤4398046511104)(hn2:n2≤4398046511104):
  Calls Tryz.prog 85 #[.agg #[.bool neg,.slice a1 n1 c1,.slice a2 n2 c2]] w (RetR (sv neg l1 l2) w):=by
 have hP := Pro2.mk' w #[.bool neg, .slice a1 n1 c1, .slice a2 n2 c2] #[.bool false, .slice none 0 0, .slice none 0 0] 26 26
 go_enter Tryz.func85, Tryz.ntmps85
 go_upto_region 1 with (fail)
 generalize (w.alloc (.cells #[.bool neg, .slice a1 n1 c1, .slice a2 n2 c2] 26)).alloc (.cells #[.bool false, .slice none 0 0, .slice none 0 0] 26) = W at *
 have k00 := hP.b0.cell 0
 have f00 := hP.b0.frozen 0
 have k01 := hP.b0.cell 1
 have f01 := hP.b0.frozen 1
 have k02 := hP.b0.cell 2
 have f02 := hP.b0.frozen 2
 have z0 := hP.b0.lt
 have k10 := hP.b1.cell 0
 have f10 := hP.b1.frozen 0
 have k11 := hP.b1.cell 1
 have f11 := hP.b1.frozen 1
 have k12 := hP.b1.cell 2
 have f12 := hP.b1.frozen 2
 have z1 := hP.b1.lt
 simp at k00 k01 k02 k10 k11 k12
 have hw0 : Below W.heap.size W W.drew := Below.drew (Below.refl _ _)
 have g1:=h1.on hP.below
 have g2:=h2.on hP.below
 go_region_held3 (fun w' => w'.cell? ⟨w.heap.size, 0, none⟩ = some (.bool neg) ∧ w'.cell? ⟨w.heap.size, 1, none⟩ = some (.slice a1 n1 c1) ∧ w'.cell? ⟨w.heap.size, 2, none⟩ = some (.slice a2 n2 c2))
  (go_keep)
  (first
   | (go_at_call 77;refine (Ww _ (g2.on hw0) (by omega)).mono ?_;rintro e w3 ⟨ad3,n3,c3,l3,rfl,g3,HD3,hn3,hb3'⟩;have hb3:Below W.heap.size W w3:=hw0.trans hb3';obtain ⟨hc3,hf3⟩:=Zy hb3)
   | (go_at_call 75;refine (Kx _ (g1.on hb3) g3 (by omega) (by omega) (by rw [HD3.out];exact Yx _)).mono ?_;rintro e w4 ⟨neg4,a4,n4,c4,a5,n5,c5,rfl,g4,hb4'⟩;have hb4:Below W.heap.size W w4:=hb3.trans (hb4'.mono hb3.size);obtain ⟨hc4,hf4⟩:=Zy hb4))
 go_wp2_with fail
 rw [HD3.out] at g4
 exact bodyPost_ret (v:=.agg #[.bool neg4,.slice a4 n4 c4,.slice a5 n5 c5]) (by simp [results, Tryz.results85,go_sem, *]) rfl
  ⟨_,_,_,_,_,_,_,rfl,g4.box27 (B:=w.heap.size+1) (x:=false) (a:=none) (a':=none) (m:=0) (k:=0) (m':=0) (k':=0) (by simp [*]) (by simp [*]) (by simp [*]) _ _ _,ZC (hP.below.trans (hb4.mono (by omega))) (by omega) _ _ _⟩
theorem Zpx{w:World}{neg:Bool}{ad:Option Addr}{n c:Nat}{z:Int}(h:IntC w neg ad n c z):sgi neg (val (lmb z.natAbs))=z:=h.val_
set_option maxRecDepth 100000 in
set_option maxHeartbeats 3200000 in
theorem ZmA(w:World){neg:Bool}{a1:Option Addr}{n1 c1:Nat}{z:Int}(h:IntC w neg a1 n1 c1 z)(hn1:n1≤4398046511104):
  Calls Tryz.prog 71 #[.agg #[.bool neg,.slice a1 n1 c1]] w (RetR (z:Rat) w):=by
 have HS:=Lib.hid (Zpx h)
 have h1:=h.mag
 clear h
 have hP := Pro2.mk' w #[.bool neg, .slice a1 n1 c1] #[.bool false, .slice none 0 0, .slice none 0 0] 74 26
 go_enter Tryz.func71, Tryz.ntmps71
 go_upto_region 1 with (fail)
 generalize (w.alloc (.cells #[.bool neg, .slice a1 n1 c1] 74)).alloc (.cells #[.bool false, .slice none 0 0, .slice none 0 0] 26) = W at *
 have k00 := hP.b0.cell 0
 have f00 := hP.b0.frozen 0
 have k01 := hP.b0.cell 1
 have f01 := hP.b0.frozen 1
 have z0 := hP.b0.lt
 have k10 := hP.b1.cell 0
 have f10 := hP.b1.frozen 0
 have k11 := hP.b1.cell 1
 have f11 := hP.b1.frozen 1
 have k12 := hP.b1.cell 2
 have f12 := hP.b1.frozen 2
 have z1 := hP.b1.lt
 simp at k00 k01 k10 k11 k12
 have hw0 : Below W.heap.size W W.drew := Below.drew (Below.refl _ _)
 have g1:=h1.on hP.below
 go_region_held3 (fun w' => w'.cell? ⟨w.heap.size, 0, none⟩ = some (.bool neg) ∧ w'.cell? ⟨w.heap.size, 1, none⟩ = some (.slice a1 n1 c1))
  (go_keep)
  (first
   | (go_at_call 101;refine (Zc9 _).mono ?_;rintro e w3 ⟨ad3,n3,c3,rfl,g3,hb3'⟩;have hb3:Below W.heap.size W w3:=hw0.trans hb3';obtain ⟨hc3,hf3⟩:=Zy hb3)
   | (go_at_call 75;refine (Kx _ (g1.on hb3) g3 (by omega) (by have:=g3.len;rw [Xe] at this;simp at this;omega) (by rw [Zg];omega)).mono ?_;rintro e w4 ⟨neg4,a4,n4,c4,a5,n5,c5,rfl,g4,hb4'⟩;have hb4:Below W.heap.size W w4:=hb3.trans (hb4'.mono hb3.size);obtain ⟨hc4,hf4⟩:=Zy hb4))
 go_wp2_with fail
 rw [HS.out,Zg,Zi6] at g4
 exact bodyPost_ret (v:=.agg #[.bool neg4,.slice a4 n4 c4,.slice a5 n5 c5]) (by simp [results, Tryz.results71,go_sem, *]) rfl
  ⟨_,_,_,_,_,_,_,rfl,g4.box27 (B:=w.heap.size+1) (x:=false) (a:=none) (a':=none) (m:=0) (k:=0) (m':=0) (k':=0) (by simp [*]) (by simp [*]) (by simp [*]) _ _ _,ZC (hP.below.trans (hb4.mono (by omega))) (by omega) _ _ _⟩
set_option maxRecDepth 100000 in
set_option maxHeartbeats 1600000 in
theorem Zso(w:World)(x:Int)(h0:-9223372036854775808≤x)(h1:x≤9223372036854775807):
  Calls Tryz.prog 34 #[.int .i64 x] w (RetR (x:Rat) w):=by
 have hlen:∀w1 neg a n c,IntC w1 neg a n c x→n≤2:=fun w1 neg a n c h=>by rw [←h.mag.len];exact Yg (by omega)
 have HL:=Lib.hid hlen
 clear hlen
 have hP := Pro1.mk' w #[.bool false, .slice none 0 0, .slice none 0 0] 26
 go_enter Tryz.func34, Tryz.ntmps34
 go_upto_region 1 with (fail)
 generalize w.alloc (.cells #[.bool false, .slice none 0 0, .slice none 0 0] 26) = W at *
 have k00 := hP.b0.cell 0
 have f00 := hP.b0.frozen 0
 have k01 := hP.b0.cell 1
 have f01 := hP.b0.frozen 1
 have k02 := hP.b0.cell 2
 have f02 := hP.b0.frozen 2
 have z0 := hP.b0.lt
 simp at k00 k01 k02
 have hw0 : Below W.heap.size W W.drew := Below.drew (Below.refl _ _)
 go_wp2_with fail
 refine (Zsv _ x h0 h1).mono ?_
 rintro e w3 ⟨neg3,a3,n3,c3,rfl,g3,hb3⟩
 go_wp2_with fail
 refine (ZmA _ g3 (by have:=HL.out _ _ _ _ _ g3;omega)).mono ?_
 rintro e w4 ⟨neg4,a4,n4,c4,a5,n5,c5,rfl,g4,hb4'⟩
 have hb4:Below W.heap.size W w4:=hb3.trans (hb4'.mono hb3.size)
 obtain ⟨hc4,hf4⟩:=Zy hb4
 go_wp2_with fail
 exact bodyPost_ret (v:=.agg #[.bool neg4,.slice a4 n4 c4,.slice a5 n5 c5]) (by simp [results, Tryz.results34,go_sem, *]) rfl
  ⟨_,_,_,_,_,_,_,rfl,g4.box27 (B:=w.heap.size) (x:=false) (a:=none) (a':=none) (m:=0) (k:=0) (m':=0) (k':=0) (by simp [*]) (by simp [*]) (by simp [*]) _ _ _,ZC (hP.below.trans (hb4.mono (by omega))) (by omega) _ _ _⟩
set_option maxRecDepth 100000 in
set_option maxHeartbeats 1600000 in
theorem Zpb(w:World){neg:Bool}{a1 a2:Option Addr}{n1 n2 c1 c2:Nat}{l1 l2:List Nat}(h1:LimR w a1 n1 c1 l1)(h2:LimR w a2 n2 c2 l2)(hn1:n1≤4398046511104)(hn2:n2≤4398046511104):
  Calls Tryz.prog 47 #[.agg #[.bool neg,.slice a1 n1 c1,.slice a2 n2 c2]] w (RetR (-(sv neg l1 l2)) w):=by
 have hP := Pro2.mk' w #[.bool neg, .slice a1 n1 c1, .slice a2 n2 c2] #[.bool false, .slice none 0 0, .slice none 0 0] 26 26
 go_enter Tryz.func47, Tryz.ntmps47
 go_upto_region 1 with (fail)
 generalize (w.alloc (.cells #[.bool neg, .slice a1 n1 c1, .slice a2 n2 c2] 26)).alloc (.cells #[.bool false, .slice none 0 0, .slice none 0 0] 26) = W at *
 have k00 := hP.b0.cell 0
 have f00 := hP.b0.frozen 0
 have k01 := hP.b0.cell 1
 have f01 := hP.b0.frozen 1
 have k02 := hP.b0.cell 2
 have f02 := hP.b0.frozen 2
 have z0 := hP.b0.lt
 have k10 := hP.b1.cell 0
 have f10 := hP.b1.frozen 0
 have k11 := hP.b1.cell 1
 have f11 := hP.b1.frozen 1
 have k12 := hP.b1.cell 2
 have f12 := hP.b1.frozen 2
 have z1 := hP.b1.lt
 simp at k00 k01 k02 k10 k11 k12
 have hw0 : Below W.heap.size W W.drew := Below.drew (Below.refl _ _)
 have g1:=(h1.on hP.below).box (p:=⟨w.heap.size,0,none⟩) k00 (fun _=>by simp) (.bool !neg)
 have g2:=(h2.on hP.below).box (p:=⟨w.heap.size,0,none⟩) k00 (fun _=>by simp) (.bool !neg)
 have hb:Below w.heap.size w (W.setCell ⟨w.heap.size,0,none⟩ (.bool !neg)):=hP.below.setCell (p:=⟨w.heap.size,0,none⟩) (Nat.le_refl _) _
 have hsz:(W.setCell ⟨w.heap.size,0,none⟩ (.bool !neg)).heap.size=W.heap.size:=by simp [World.setCell]
 have hz:w.heap.size+1<(W.setCell ⟨w.heap.size,0,none⟩ (.bool !neg)).heap.size:=by rw [hsz];exact z1
 have q0:(W.setCell ⟨w.heap.size,0,none⟩ (.bool !neg)).cell? ⟨w.heap.size+1,0,none⟩=some (.bool false):=by simp [go_sem, *]
 have q1:(W.setCell ⟨w.heap.size,0,none⟩ (.bool !neg)).cell? ⟨w.heap.size+1,1,none⟩=some (.slice none 0 0):=by simp [go_sem, *]
 have q2:(W.setCell ⟨w.heap.size,0,none⟩ (.bool !neg)).cell? ⟨w.heap.size+1,2,none⟩=some (.slice none 0 0):=by simp [go_sem, *]
 have q3:(W.setCell ⟨w.heap.size,0,none⟩ (.bool !neg)).frozen? ⟨w.heap.size+1,0,none⟩=false:=by simp [go_sem, *]
 have q4:(W.setCell ⟨w.heap.size,0,none⟩ (.bool !neg)).frozen? ⟨w.heap.size+1,1,none⟩=false:=by simp [go_sem, *]
 have q5:(W.setCell ⟨w.heap.size,0,none⟩ (.bool !neg)).frozen? ⟨w.heap.size+1,2,none⟩=false:=by simp [go_sem, *]
 clear hsz
 go_wp2_with fail
 generalize W.setCell ⟨w.heap.size,0,none⟩ (.bool !neg)=V at*
 refine (ZbB _ g1 g2 (by omega) (by omega)).mono ?_
 rintro e w4 ⟨neg4,a4,n4,c4,a5,n5,c5,rfl,g4,hb4⟩
 obtain ⟨hc4,hf4⟩:=Zy hb4
 have g5:RatC w4 neg4 a4 n4 c4 a5 n5 c5 (-(sv neg l1 l2)):=by unfold sv at*;rw [←Zcs];exact g4
 clear hP k00 k01 k02 k10 k11 k12 f00 f01 f02 f10 f11 f12 z0 z1 hw0
 go_wp2_with fail
 exact bodyPost_ret (v:=.agg #[.bool neg4,.slice a4 n4 c4,.slice a5 n5 c5]) (by simp [results, Tryz.results47,go_sem, *]) rfl
  ⟨_,_,_,_,_,_,_,rfl,g5.box27 (B:=w.heap.size+1) (x:=false) (a:=none) (a':=none) (m:=0) (k:=0) (m':=0) (k':=0) (by simp [*]) (by simp [*]) (by simp [*]) _ _ _,ZC (hb.trans (hb4.mono (by omega))) (by omega) _ _ _⟩
def sgR(q:Rat):Int:=q.num.sign
theorem ZiG(neg:Bool)(l1 l2:List Nat):(iv neg l1).sign=sgR (sv neg l1 l2):=by
 unfold sgR sv
 rw [ZgS _ (Yx _)]
 rfl
set_option maxRecDepth 100000 in
set_option maxHeartbeats 1600000 in
theorem Zey(w:World){neg:Bool}{a1 a2:Option Addr}{n1 n2 c1 c2:Nat}{l1:List Nat}(l2:List Nat)(h1:LimR w a1 n1 c1 l1)(hn1:n1≤4398046511104):
  Calls Tryz.prog 35 #[.agg #[.bool neg,.slice a1 n1 c1,.slice a2 n2 c2]] w (RetInt (sgR (sv neg l1 l2)) w):=by
 have HS:=Lib.hid (ZiG neg l1 l2)
 have hP := Pro1.mk' w #[.bool neg, .slice a1 n1 c1, .slice a2 n2 c2] 26
 go_enter Tryz.func35, Tryz.ntmps35
 go_upto_region 1 with (fail)
 generalize w.alloc (.cells #[.bool neg, .slice a1 n1 c1, .slice a2 n2 c2] 26) = W at *
 have k00 := hP.b0.cell 0
 have f00 := hP.b0.frozen 0
 have k01 := hP.b0.cell 1
 have f01 := hP.b0.frozen 1
 have k02 := hP.b0.cell 2
 have f02 := hP.b0.frozen 2
 have z0 := hP.b0.lt
 simp at k00 k01 k02
 have hw0 : Below W.heap.size W W.drew := Below.drew (Below.refl _ _)
 have g1:=h1.on hP.below
 go_wp2_with fail
 refine (JO _ g1 (by omega)).mono ?_
 rintro e w3 ⟨neg3,a3,n3,c3,rfl,g3,hb3⟩
 have hn3:n3≤n1:=by
  rw [←g3.mag.len,←g1.len]
  have:(iv neg l1).natAbs=val l1:=QD neg (val l1)
  rw [this];exact Zn g1.lim
 have e3:=Lib.hid g3.val_
 go_wp2_with fail
 refine (Zer _ g3.mag (by omega)).mono ?_
 rintro e w4 ⟨rfl,hb4⟩
 rw [e3.out,HS.out]
 go_wp2_with fail
 go_ret
 exact ⟨rfl,hP.below.trans ((hb3.trans (hb4.mono hb3.size)).mono (by omega))⟩
theorem Vp{w:World}{ad:Option Addr}{n c:Nat}{l:List Nat}(h:LimR w ad n c l):(lmb (val l)).length≤n:=by rw [←h.len];exact Zn h.lim
set_option maxRecDepth 100000 in
set_option maxHeartbeats 6400000 in
theorem Zm3(w:World){s1 s2:Bool}{a1 a2 a3 a4:Option Addr}{n1 n2 n3 n4 c1 c2 c3 c4:Nat}{l1 l2 l3 l4:List Nat}(h1:LimR w a1 n1 c1 l1)(h2:LimR w a2 n2 c2 l2)(h3:LimR w a3 n3 c3 l3)(h4:LimR w a4 n4 c4 l4)(hn1:n1≤1099511627776)(hn2:n2≤1099511627776)(hn3:n3≤1099511627776)(hn4:n4≤1099511627776):
  Calls Tryz.prog 111 #[.agg #[.bool s1,.slice a1 n1 c1,.slice a2 n2 c2],.agg #[.bool s2,.slice a3 n3 c3,.slice a4 n4 c4]] w (RetR (sv s1 l1 l2*sv s2 l3 l4) w):=by
 have hP := Pro3.mk' w #[.bool s1, .slice a1 n1 c1, .slice a2 n2 c2] #[.bool s2, .slice a3 n3 c3, .slice a4 n4 c4] #[.bool false, .slice none 0 0, .slice none 0 0] 26 26 26
 go_enter Tryz.func111, Tryz.ntmps111
 go_upto_region 1 with (fail)
 generalize ((w.alloc (.cells #[.bool s1, .slice a1 n1 c1, .slice a2 n2 c2] 26)).alloc (.cells #[.bool s2, .slice a3 n3 c3, .slice a4 n4 c4] 26)).alloc (.cells #[.bool false, .slice none 0 0, .slice none 0 0] 26) = W at *
 have k00 := hP.b0.cell 0
 have f00 := hP.b0.frozen 0
 have k01 := hP.b0.cell 1
 have f01 := hP.b0.frozen 1
 have k02 := hP.b0.cell 2
 have f02 := hP.b0.frozen 2
 have z0 := hP.b0.lt
 have k10 := hP.b1.cell 0
 have f10 := hP.b1.frozen 0
 have k11 := hP.b1.cell 1
 have f11 := hP.b1.frozen 1
 have k12 := hP.b1.cell 2
 have f12 := hP.b1.frozen 2
 have z1 := hP.b1.lt
 have k20 := hP.b2.cell 0
 have f20 := hP.b2.frozen 0
 have k21 := hP.b2.cell 1
 have f21 := hP.b2.frozen 1
 have k22 := hP.b2.cell 2
 have f22 := hP.b2.frozen 2
 have z2 := hP.b2.lt
 simp at k00 k01 k02 k10 k11 k12 k20 k21 k22
 have nb20 : w.heap.size + 1 + 1 ≠ w.heap.size := by omega
 have hw0 : Below W.heap.size W W.drew := Below.drew (Below.refl _ _)
 have g1:=h1.on hP.below
 have g2:=h2.on hP.below
 have g3:=h3.on hP.below
 have g4:=h4.on hP.below
 go_region_held3 (fun w' => w'.cell? ⟨w.heap.size, 0, none⟩ = some (.bool s1) ∧ w'.cell? ⟨w.heap.size, 1, none⟩ = some (.slice a1 n1 c1) ∧ w'.cell? ⟨w.heap.size, 2, none⟩ = some (.slice a2 n2 c2) ∧ w'.cell? ⟨w.heap.size + 1, 0, none⟩ = some (.bool s2) ∧ w'.cell? ⟨w.heap.size + 1, 1, none⟩ = some (.slice a3 n3 c3) ∧ w'.cell? ⟨w.heap.size + 1, 2, none⟩ = some (.slice a4 n4 c4))
  (go_keep)
  (first
   | (go_at_call_of 76 (Value.slice a1 n1 c1);refine (KD _ (g1.on hw0) (g3.on hw0) (by omega) (by omega)).mono ?_;rintro e w5 ⟨a5,n5,c5,rfl,g5,hb5'⟩;have hb5:Below W.heap.size W w5:=hw0.trans hb5';obtain ⟨hc5,hf5⟩:=Zy hb5)
   | (go_at_call_of 77 (Value.slice a1 n1 c1);refine (Ww _ (g2.on hb5) (by omega)).mono ?_;rintro e w6 ⟨a6,n6,c6,l6,rfl,g6,HD6,hn6,hb6'⟩;have hb6:Below W.heap.size W w6:=hb5.trans (hb6'.mono hb5.size);obtain ⟨hc6,hf6⟩:=Zy hb6)
   | (go_at_call_of 77 (Value.slice a3 n3 c3);refine (Ww _ (g4.on hb6) (by omega)).mono ?_;rintro e w7 ⟨a7,n7,c7,l7,rfl,g7,HD7,hn7,hb7'⟩;have hb7:Below W.heap.size W w7:=hb6.trans (hb7'.mono hb6.size);obtain ⟨hc7,hf7⟩:=Zy hb7)
   | (go_at_call_of 76 (Value.slice a7 n7 c7);refine (KD _ (g6.on hb7') g7 (by omega) (by omega)).mono ?_;rintro e w8 ⟨a8,n8,c8,rfl,g8,hb8'⟩;have hb8:Below W.heap.size W w8:=hb7.trans (hb8'.mono hb7.size);obtain ⟨hc8,hf8⟩:=Zy hb8)
   | (go_at_call 75;refine (Kx _ ((g5.on hb6').on (hb7'.trans (hb8'.mono hb7'.size))) g8 (by have h9:=XS h1 h3;rw [g5.len] at h9;omega) (by have h9:=XS g6 g7;rw [g8.len] at h9;omega) (by rw [Zg,HD6.out,HD7.out];exact Nat.mul_pos (Yx _) (Yx _))).mono ?_;rintro e w9 ⟨neg9,a9,n9,c9,a10,n10,c10,rfl,g9,hb9'⟩;have hb9:Below W.heap.size W w9:=hb8.trans (hb9'.mono hb8.size);obtain ⟨hc9,hf9⟩:=Zy hb9))
 go_wp2_with fail
 have g10:RatC w9 neg9 a9 n9 c9 a10 n10 c10 (sv s1 l1 l2*sv s2 l3 l4):=by
  rw [Zg,Zg,HD6.out,HD7.out] at g9
  unfold sv
  rw [←Zjn]
  exact g9
 exact bodyPost_ret (v:=.agg #[.bool neg9,.slice a9 n9 c9,.slice a10 n10 c10]) (by simp [results, Tryz.results111,go_sem, *]) rfl
  ⟨_,_,_,_,_,_,_,rfl,g10.box27 (B:=w.heap.size+1+1) (x:=false) (a:=none) (a':=none) (m:=0) (k:=0) (m':=0) (k':=0) (by simp [*]) (by simp [*]) (by simp [*]) _ _ _,ZC (hP.below.trans (hb9.mono (by omega))) (by omega) _ _ _⟩
def Zlu(x y:Int)(w:World)(e:Ending)(w':World):Prop:=
 ∃s1 a1 n1 c1 s2 a2 n2 c2,e=.returned (.tuple #[.agg #[.bool s1,.slice a1 n1 c1],.agg #[.bool s2,.slice a2 n2 c2]])∧IntC w' s1 a1 n1 c1 x∧IntC w' s2 a2 n2 c2 y∧Below w.heap.size w w'
theorem Zrf(l:List Nat):iv false l=(val l:Int):=rfl
theorem ZjU{w:World}{s:Bool}{ad:Option Addr}{n c:Nat}{x y:Int}(h:IntC w s ad n c (x*y)):n≤(lmb x.natAbs).length+(lmb y.natAbs).length:=by
 rw [←h.mag.len,Int.natAbs_mul];exact YB _ _
theorem ZjX{w w':World}{s s':Bool}{ad a':Option Addr}{n c n' c':Nat}{l:List Nat}(h:IntC w s ad n c (iv s' l))(h':LimR w' a' n' c' l):n≤n':=by
 rw [←h.mag.len,←h'.len]
 have:(iv s' l).natAbs=val l:=QD s' (val l)
 rw [this];exact Zn h'.lim
set_option maxRecDepth 100000 in
set_option maxHeartbeats 6400000 in
theorem Zeo(w:World){s1 s2:Bool}{a1 a2 a3 a4:Option Addr}{n1 n2 n3 n4 c1 c2 c3 c4:Nat}{l1 l2 l3 l4:List Nat}(h1:LimR w a1 n1 c1 l1)(h2:LimR w a2 n2 c2 l2)(h3:LimR w a3 n3 c3 l3)(h4:LimR w a4 n4 c4 l4)(hn1:n1≤1099511627776)(hn2:n2≤1099511627776)(hn3:n3≤1099511627776)(hn4:n4≤1099511627776):
  Calls Tryz.prog 98 #[.agg #[.bool s1,.slice a1 n1 c1,.slice a2 n2 c2],.agg #[.bool s2,.slice a3 n3 c3,.slice a4 n4 c4]] w (Zlu (iv s1 l1*dn l4) (iv s2 l3*dn l2) w):=by
 have hP := Pro4.mk' w #[.bool s1, .slice a1 n1 c1, .slice a2 n2 c2] #[.bool s2, .slice a3 n3 c3, .slice a4 n4 c4] #[.bool false, .slice none 0 0] #[.bool false, .slice none 0 0] 26 26 74 74
 go_enter Tryz.func98, Tryz.ntmps98
 go_upto_region 1 with (fail)
 generalize (((w.alloc (.cells #[.bool s1, .slice a1 n1 c1, .slice a2 n2 c2] 26)).alloc (.cells #[.bool s2, .slice a3 n3 c3, .slice a4 n4 c4] 26)).alloc (.cells #[.bool false, .slice none 0 0] 74)).alloc (.cells #[.bool false, .slice none 0 0] 74) = W at *
 have k00 := hP.b0.cell 0
 have f00 := hP.b0.frozen 0
 have k01 := hP.b0.cell 1
 have f01 := hP.b0.frozen 1
 have k02 := hP.b0.cell 2
 have f02 := hP.b0.frozen 2
 have z0 := hP.b0.lt
 have k10 := hP.b1.cell 0
 have f10 := hP.b1.frozen 0
 have k11 := hP.b1.cell 1
 have f11 := hP.b1.frozen 1
 have k12 := hP.b1.cell 2
 have f12 := hP.b1.frozen 2
 have z1 := hP.b1.lt
 have k20 := hP.b2.cell 0
 have f20 := hP.b2.frozen 0
 have k21 := hP.b2.cell 1
 have f21 := hP.b2.frozen 1
 have z2 := hP.b2.lt
 have k30 := hP.b3.cell 0
 have f30 := hP.b3.frozen 0
 have k31 := hP.b3.cell 1
 have f31 := hP.b3.frozen 1
 have z3 := hP.b3.lt
 simp at k00 k01 k02 k10 k11 k12 k20 k21 k30 k31
 have nb20 : w.heap.size + 1 + 1 ≠ w.heap.size := by omega
 have nb30 : w.heap.size + 1 + 1 + 1 ≠ w.heap.size := by omega
 have nb31 : w.heap.size + 1 + 1 + 1 ≠ w.heap.size + 1 := by omega
 have hw0 : Below W.heap.size W W.drew := Below.drew (Below.refl _ _)
 have g1:=h1.on hP.below
 have g2:=h2.on hP.below
 have g3:=h3.on hP.below
 have g4:=h4.on hP.below
 go_region_held3 (fun w' => w'.cell? ⟨w.heap.size, 0, none⟩ = some (.bool s1) ∧ w'.cell? ⟨w.heap.size, 1, none⟩ = some (.slice a1 n1 c1) ∧ w'.cell? ⟨w.heap.size, 2, none⟩ = some (.slice a2 n2 c2) ∧ w'.cell? ⟨w.heap.size + 1, 0, none⟩ = some (.bool s2) ∧ w'.cell? ⟨w.heap.size + 1, 1, none⟩ = some (.slice a3 n3 c3) ∧ w'.cell? ⟨w.heap.size + 1, 2, none⟩ = some (.slice a4 n4 c4))
  (go_keep)
  (first
   | (go_at_call_of 77 (Value.slice a1 n1 c1);refine (Ww _ (g2.on hw0) (by omega)).mono ?_;rintro e w6 ⟨a6,n6,c6,l6,rfl,g6,HD6,hn6,hb6'⟩;have hb6:Below W.heap.size W w6:=hw0.trans hb6';obtain ⟨hc6,hf6⟩:=Zy hb6)
   | (go_at_call_of 77 (Value.slice a3 n3 c3);refine (Ww _ (g4.on hb6) (by omega)).mono ?_;rintro e w7 ⟨a7,n7,c7,l7,rfl,g7,HD7,hn7,hb7'⟩;have hb7:Below W.heap.size W w7:=hb6.trans (hb7'.mono hb6.size);obtain ⟨hc7,hf7⟩:=Zy hb7))
 have g6':=g6.on hb7'
 have hs7:=hb7.size
 clear hb6' hb7' g6 hc6 hf6
 go_wp2_with fail
 have hx0:Below W.heap.size W w7.drew:=hb7.drew
 go_region_held3 (fun w' => w'.cell? ⟨w.heap.size, 0, none⟩ = some (.bool s1) ∧ w'.cell? ⟨w.heap.size, 1, none⟩ = some (.slice a1 n1 c1) ∧ w'.cell? ⟨w.heap.size, 2, none⟩ = some (.slice a2 n2 c2) ∧ w'.cell? ⟨w.heap.size + 1, 0, none⟩ = some (.bool s2) ∧ w'.cell? ⟨w.heap.size + 1, 1, none⟩ = some (.slice a3 n3 c3) ∧ w'.cell? ⟨w.heap.size + 1, 2, none⟩ = some (.slice a4 n4 c4))
  (go_keep)
  (first
   | (go_at_call_of 74 (Value.slice a1 n1 c1);refine (JO _ (g1.on hx0) (by omega)).mono ?_;rintro e w8 ⟨s8,a8,n8,c8,rfl,g8,hb8'⟩;have hb8:Below W.heap.size W w8:=hx0.trans (hb8'.mono hx0.size);obtain ⟨hc8,hf8⟩:=Zy hb8)
   | (go_at_call_of 128 (Value.slice a8 n8 c8);refine (Zhe _ (s2:=false) g8.mag ((g7.on (Below.drew (Below.refl _ _))).on hb8') (by have:=ZjX g8 h1;omega) (by omega)).mono ?_;rintro e w9 ⟨s9,a9,n9,c9,rfl,g9,hb9'⟩;have hb9:Below W.heap.size W w9:=hb8.trans (hb9'.mono hb8.size);obtain ⟨hc9,hf9⟩:=Zy hb9)
   | (go_at_call_of 74 (Value.slice a3 n3 c3);refine (JO _ (g3.on hb9) (by omega)).mono ?_;rintro e w10 ⟨s10,a10,n10,c10,rfl,g10,hb10'⟩;have hb10:Below W.heap.size W w10:=hb9.trans (hb10'.mono hb9.size);obtain ⟨hc10,hf10⟩:=Zy hb10)
   | (go_at_call_of 128 (Value.slice a10 n10 c10);refine (Zhe _ (s2:=false) g10.mag (((((g6'.on (Below.drew (Below.refl _ _))).on hb8').on hb9')).on hb10') (by have:=ZjX g10 h3;omega) (by omega)).mono ?_;rintro e w11 ⟨s11,a11,n11,c11,rfl,g11,hb11'⟩;have hb11:Below W.heap.size W w11:=hb10.trans (hb11'.mono hb10.size);obtain ⟨hc11,hf11⟩:=Zy hb11))
 go_wp2_with fail
 rw [g8.val_,Zrf,HD7.out] at g9
 rw [g10.val_,Zrf,HD6.out] at g11
 have g12:=(g9.on hb10').on hb11'
 have q0:w11.cell? ⟨w.heap.size+1+1,0,none⟩=some (.bool false):=by simp [*]
 have q1:w11.cell? ⟨w.heap.size+1+1,1,none⟩=some (.slice none 0 0):=by simp [*]
 have q2:((w11.setCell ⟨w.heap.size+1+1,0,none⟩ (.bool s9)).setCell ⟨w.heap.size+1+1,1,none⟩ (.slice a9 n9 c9)).cell? ⟨w.heap.size+1+1+1,0,none⟩=some (.bool false):=by simp [go_sem, *]
 have q3:((w11.setCell ⟨w.heap.size+1+1,0,none⟩ (.bool s9)).setCell ⟨w.heap.size+1+1,1,none⟩ (.slice a9 n9 c9)).cell? ⟨w.heap.size+1+1+1,1,none⟩=some (.slice none 0 0):=by simp [go_sem, *]
 exact bodyPost_ret (v:=.tuple #[.agg #[.bool s9,.slice a9 n9 c9],.agg #[.bool s11,.slice a11 n11 c11]]) (by simp [results, Tryz.results98,go_sem, *]) rfl
  ⟨_,_,_,_,_,_,_,_,rfl,(g12.box64 q0 q1 _ _).box64 q2 q3 _ _,(g11.box64 q0 q1 _ _).box64 q2 q3 _ _,ZV (ZV (hP.below.trans (hb11.mono (by omega))) (by omega) _ _) (by omega) _ _⟩
theorem Zj9{w:World}{s:Bool}{ad:Option Addr}{n c:Nat}{x y:Int}(h:IntC w s ad n c (x+y)):n≤(lmb x.natAbs).length+(lmb y.natAbs).length+1:=by
 rw [←h.mag.len]
 have h1:=Zw (Int.natAbs_add_le x y)
 have h2:=VT x.natAbs y.natAbs
 omega
theorem Zqz{w:World}{ad:Option Addr}{n c:Nat}{l:List Nat}(s:Bool)(h:LimR w ad n c l):(lmb (iv s l).natAbs).length≤n:=by
 have:(iv s l).natAbs=val l:=QD s (val l)
 rw [this];exact Vp h
theorem ZhT{w:World}{ad:Option Addr}{n c:Nat}{l:List Nat}(h:LimR w ad n c l):(lmb ((dn l:Nat):Int).natAbs).length≤n+1:=by
 have hb:=Vp h
 rw [Int.natAbs_natCast]
 unfold dn
 split
 ·rw [Xe];simp
 ·omega
set_option maxRecDepth 100000 in
set_option maxHeartbeats 6400000 in
theorem Zn2(w:World){s1 s2:Bool}{a1 a2 a3 a4:Option Addr}{n1 n2 n3 n4 c1 c2 c3 c4:Nat}{l1 l2 l3 l4:List Nat}(h1:LimR w a1 n1 c1 l1)(h2:LimR w a2 n2 c2 l2)(h3:LimR w a3 n3 c3 l3)(h4:LimR w a4 n4 c4 l4)(hn1:n1≤1099511627776)(hn2:n2≤1099511627776)(hn3:n3≤1099511627776)(hn4:n4≤1099511627776):
  Calls Tryz.prog 110 #[.agg #[.bool s1,.slice a1 n1 c1,.slice a2 n2 c2],.agg #[.bool s2,.slice a3 n3 c3,.slice a4 n4 c4]] w (RetR (sv s1 l1 l2+sv s2 l3 l4) w):=by
 have hP := Pro3.mk' w #[.bool s1, .slice a1 n1 c1, .slice a2 n2 c2] #[.bool s2, .slice a3 n3 c3, .slice a4 n4 c4] #[.bool false, .slice none 0 0, .slice none 0 0] 26 26 26
 go_enter Tryz.func110, Tryz.ntmps110
 go_upto_region 1 with (fail)
 generalize ((w.alloc (.cells #[.bool s1, .slice a1 n1 c1, .slice a2 n2 c2] 26)).alloc (.cells #[.bool s2, .slice a3 n3 c3, .slice a4 n4 c4] 26)).alloc (.cells #[.bool false, .slice none 0 0, .slice none 0 0] 26) = W at *
 have k00 := hP.b0.cell 0
 have f00 := hP.b0.frozen 0
 have k01 := hP.b0.cell 1
 have f01 := hP.b0.frozen 1
 have k02 := hP.b0.cell 2
 have f02 := hP.b0.frozen 2
 have z0 := hP.b0.lt
 have k10 := hP.b1.cell 0
 have f10 := hP.b1.frozen 0
 have k11 := hP.b1.cell 1
 have f11 := hP.b1.frozen 1
 have k12 := hP.b1.cell 2
 have f12 := hP.b1.frozen 2
 have z1 := hP.b1.lt
 have k20 := hP.b2.cell 0
 have f20 := hP.b2.frozen 0
 have k21 := hP.b2.cell 1
 have f21 := hP.b2.frozen 1
 have k22 := hP.b2.cell 2
 have f22 := hP.b2.frozen 2
 have z2 := hP.b2.lt
 simp at k00 k01 k02 k10 k11 k12 k20 k21 k22
 have nb20 : w.heap.size + 1 + 1 ≠ w.heap.size := by omega
 have hw0 : Below W.heap.size W W.drew := Below.drew (Below.refl _ _)
 have g1:=h1.on hP.below
 have g2:=h2.on hP.below
 have g3:=h3.on hP.below
 have g4:=h4.on hP.below
 have HX:=Lib.hid (And.intro (Zqz s1 h1) (And.intro (ZhT h2) (And.intro (Zqz s2 h3) (ZhT h4))))
 go_wp2_with fail
 refine (Zeo _ g1 g2 g3 g4 hn1 hn2 hn3 hn4).mono ?_
 rintro e w5 ⟨s5,a5,n5,c5,s6,a6,n6,c6,rfl,g5,g6,hb5⟩
 obtain ⟨hc5,hf5⟩:=Zy hb5
 have hn5:n5≤n1+n4+1:=by have:=ZjU g5;have:=HX.out;omega
 have hn6:n6≤n3+n2+1:=by have:=ZjU g6;have:=HX.out;omega
 have V5:=Lib.hid g5.val_
 have V6:=Lib.hid g6.val_
 go_upto_region 2 with (fail)
 have hQ:=Pro2.mk' w5 #[.bool s5,.slice a5 n5 c5] #[.bool s6,.slice a6 n6 c6] 74 74
 generalize (w5.alloc (.cells #[.bool s5,.slice a5 n5 c5] 74)).alloc (.cells #[.bool s6,.slice a6 n6 c6] 74)=V at*
 have hbV:Below W.heap.size W V:=hb5.trans (hQ.below.mono hb5.size)
 obtain ⟨hcV,hfV⟩:=Zy hbV
 have v00:=hQ.b0.cell 0
 have v01:=hQ.b0.cell 1
 have v10:=hQ.b1.cell 0
 have v11:=hQ.b1.cell 1
 simp at v00 v01 v10 v11
 go_wp2_with fail
 refine (Zov _ (g5.mag.on hQ.below) (g6.mag.on hQ.below) (by omega) (by omega)).mono ?_
 rintro e w7 ⟨s7,a7,n7,c7,rfl,g7,hb7'⟩
 rw [V5.out,V6.out] at g7
 have hb7:Below W.heap.size W w7:=hbV.trans (hb7'.mono hbV.size)
 have hn7:n7≤n5+n6+1:=by
  have h9:=Zj9 g7
  have h8:=g5.mag.len
  have h7:=g6.mag.len
  omega
 clear v00 v01 v10 v11 hcV hfV hc5 hf5 hb5 hbV hb7' g5 g6 V5 V6 hQ
 go_upto_region 3 with (fail)
 have hQ:=Pro1.mk' w7 #[.bool s7,.slice a7 n7 c7] 74
 generalize w7.alloc (.cells #[.bool s7,.slice a7 n7 c7] 74)=U at*
 have hbU:Below W.heap.size W U:=hb7.trans (hQ.below.mono hb7.size)
 obtain ⟨hcU,hfU⟩:=Zy hbU
 have u00:=hQ.b0.cell 0
 have u01:=hQ.b0.cell 1
 have hzU:=hQ.b0.lt
 have zU0:w.heap.size<U.heap.size:=Nat.lt_of_lt_of_le z0 hbU.size
 have zU1:w.heap.size+1<U.heap.size:=Nat.lt_of_lt_of_le z1 hbU.size
 have zU2:w.heap.size+1+1<U.heap.size:=Nat.lt_of_lt_of_le z2 hbU.size
 have nbU:w.heap.size+1+1<w7.heap.size:=Nat.lt_of_lt_of_le z2 hb7.size
 have nbU2:w.heap.size+1+1≠w7.heap.size:=by omega
 have h7U:=Lib.hid g7.val_
 have g7':=g7.on hQ.below
 simp at u00 u01
 have hx0:Below U.heap.size U U.drew:=Below.drew (Below.refl _ _)
 clear hb7 hQ g7
 go_region_held3 (fun w'=>w'.cell? ⟨w.heap.size,0,none⟩=some (.bool s1)∧w'.cell? ⟨w.heap.size,1,none⟩=some (.slice a1 n1 c1)∧w'.cell? ⟨w.heap.size,2,none⟩=some (.slice a2 n2 c2)∧w'.cell? ⟨w.heap.size+1,0,none⟩=some (.bool s2)∧w'.cell? ⟨w.heap.size+1,1,none⟩=some (.slice a3 n3 c3)∧w'.cell? ⟨w.heap.size+1,2,none⟩=some (.slice a4 n4 c4)∧w'.cell? ⟨w7.heap.size,0,none⟩=some (.bool s7)∧w'.cell? ⟨w7.heap.size,1,none⟩=some (.slice a7 n7 c7))
  (go_keep)
  (first
   | (go_at_call_of 77 (Value.slice a1 n1 c1);refine (Ww _ ((g2.on hbU).on hx0) (by omega)).mono ?_;rintro e w8 ⟨a8,n8,c8,l8,rfl,g8,HD8,hn8,hb8'⟩;have hb8:Below U.heap.size U w8:=hx0.trans (hb8'.mono hx0.size);obtain ⟨hc8,hf8⟩:=Zy hb8)
   | (go_at_call_of 77 (Value.slice a3 n3 c3);refine (Ww _ ((g4.on hbU).on hb8) (by omega)).mono ?_;rintro e w9 ⟨a9,n9,c9,l9,rfl,g9,HD9,hn9,hb9'⟩;have hb9:Below U.heap.size U w9:=hb8.trans (hb9'.mono hb8.size);obtain ⟨hc9,hf9⟩:=Zy hb9)
   | (go_at_call_of 76 (Value.slice a9 n9 c9);refine (KD _ (g8.on hb9') g9 (by omega) (by omega)).mono ?_;rintro e w10 ⟨a10,n10,c10,rfl,g10,hb10'⟩;have hb10:Below U.heap.size U w10:=hb9.trans (hb10'.mono hb9.size);obtain ⟨hc10,hf10⟩:=Zy hb10)
   | (go_at_call 75;refine (Kx _ (g7'.mag.on hb10) g10 (by omega) (by have h9:=XS g8 g9;rw [g10.len] at h9;omega) (by rw [Zg,HD8.out,HD9.out];exact Nat.mul_pos (Yx _) (Yx _))).mono ?_;rintro e w11 ⟨neg11,a11,n11,c11,a12,n12,c12,rfl,g11,hb11'⟩;have hb11:Below U.heap.size U w11:=hb10.trans (hb11'.mono hb10.size);obtain ⟨hc11,hf11⟩:=Zy hb11))
 go_wp2_with fail
 have g12:RatC w11 neg11 a11 n11 c11 a12 n12 c12 (sv s1 l1 l2+sv s2 l3 l4):=by
  have e:sgi s7 (val (lmb (iv s1 l1*(dn l4:Int)+iv s2 l3*(dn l2:Int)).natAbs))=iv s1 l1*(dn l4:Int)+iv s2 l3*(dn l2:Int):=h7U.out
  rw [e,Zg,HD8.out,HD9.out,ZaI _ _ (Yx _) (Yx _)] at g11
  exact g11
 exact bodyPost_ret (v:=.agg #[.bool neg11,.slice a11 n11 c11,.slice a12 n12 c12]) (by simp [results, Tryz.results110,go_sem, *]) rfl
  ⟨_,_,_,_,_,_,_,rfl,g12.box27 (B:=w.heap.size+1+1) (x:=false) (a:=none) (a':=none) (m:=0) (k:=0) (m':=0) (k':=0) (by simp [*]) (by simp [*]) (by simp [*]) _ _ _,ZC ((hP.below.trans (hbU.mono (by omega))).trans (hb11.mono (by have:=hbU.size;omega))) (by omega) _ _ _⟩
def QY(neg:Bool)(l1 l2:List Nat):Prop:=neg=decide ((sv neg l1 l2).num<0)∧l1=lmb (sv neg l1 l2).num.natAbs∧l2=QX (sv neg l1 l2).den
instance (neg:Bool) (l1 l2:List Nat):Decidable (QY neg l1 l2):=by unfold QY;infer_instance
theorem ZcZ{l:List Nat}(hl:Lim l)(h:l.length=(lmb (val l)).length):l=lmb (val l):=by
 rw [Ze2 hl] at h
 rw [←Zft hl,←h,List.take_length]
theorem ZiT(neg:Bool)(l:List Nat):sv neg l []=(iv neg l:Rat):=by unfold sv;rw [show dn []=1 from rfl,Zi6];rfl
theorem Zqy{neg:Bool}{l:List Nat}:QY neg l []↔lmb (val l)=l∧(neg=false∨l≠[]):=by
 unfold QY
 rw [ZiT,Rat.num_intCast,Rat.den_intCast]
 have hab:(iv neg l).natAbs=val l:=QD neg (val l)
 rw [hab,show QX 1=[] from rfl]
 constructor
 ·rintro ⟨h1,h2,_⟩
  refine ⟨h2.symm,?_⟩
  cases neg
  ·exact .inl rfl
  ·refine .inr ?_
   rintro rfl
   simp [iv,val] at h1
 ·rintro ⟨h1,h2⟩
  refine ⟨?_,h1.symm,rfl⟩
  unfold iv
  cases neg
  ·simp
  ·have h3:l≠[]:=h2.resolve_left (by simp)
   have h4:val l≠0:=fun e=>h3 (by rw [←h1,e];rfl)
   simp;omega
theorem ZpE(d:Nat):Can (QX d):=by
 unfold QX
 split
 ·exact .inl rfl
 ·exact Zcp _
theorem ZjY{a b:Nat}(h:a≠b):(QW a b==0)=false:=by
 unfold QW
 rcases Nat.lt_trichotomy a b with h1|h1|h1
 ·rw [if_pos h1];rfl
 ·exact absurd h1 h
 ·rw [if_neg (by omega),if_neg h];rfl
theorem Zg0{a b:Nat}(h:a=b):(QW a b==0)=true:=by rw [Zfr h];rfl
theorem Zis{w w':World}{neg neg4:Bool}{a1 a2 a4 a5:Option Addr}{n1 n2 n4 n5 c1 c2 c4 c5:Nat}{l1 l2:List Nat}(h1:LimR w a1 n1 c1 l1)(h2:LimR w a2 n2 c2 l2)(h:RatC w' neg4 a4 n4 c4 a5 n5 c5 (sv neg l1 l2)):
  QY neg l1 l2↔neg=neg4∧n1=n4∧n2=n5∧val l1=(sv neg l1 l2).num.natAbs∧val l2=val (QX (sv neg l1 l2).den):=by
 have hs:=h.sign.out
 have hd:Can (QX (sv neg l1 l2).den):=ZpE _
 unfold QY
 constructor
 ·rintro ⟨e1,e2,e3⟩
  refine ⟨e1.trans hs.symm,?_,?_,?_,?_⟩
  ·rw [←h1.len,←h.num.len,←e2]
  ·rw [←h2.len,←h.den.len,←e3]
  ·conv=>lhs;rw [e2]
   exact Zg _
  ·conv=>lhs;rw [e3]
 ·rintro ⟨e1,e2,e3,e4,e5⟩
  refine ⟨e1.trans hs,?_,?_⟩
  ·rw [←e4]
   refine ZcZ h1.lim ?_
   rw [e4,h.num.len,←e2,h1.len]
  ·have h6:=ZfN h.den.lim hd
   rw [←h6,←e5]
   refine ZcZ h2.lim ?_
   rw [e5,h6,h.den.len,←e3,h2.len]
def RetB(b:Bool)(w:World)(e:Ending)(w':World):Prop:=e=.returned (.bool b)∧Below w.heap.size w w'
theorem Qw{b c:Bool}{w w':World}(h:b=c)(hb:Below w.heap.size w w'):RetB c w (.returned (.bool b)) w':=⟨by rw [h],hb⟩
set_option maxRecDepth 100000 in
set_option maxHeartbeats 6400000 in
theorem ZiX(w:World){neg:Bool}{a1 a2:Option Addr}{n1 n2 c1 c2:Nat}{l1 l2:List Nat}(h1:LimR w a1 n1 c1 l1)(h2:LimR w a2 n2 c2 l2)(hn1:n1≤4398046511104)(hn2:n2≤4398046511104):
  Calls Tryz.prog 97 #[.agg #[.bool neg,.slice a1 n1 c1,.slice a2 n2 c2]] w (RetB (decide (QY neg l1 l2)) w):=by
 rcases Nat.eq_zero_or_pos n2 with h0|h0
 ·have e2:l2=[]:=List.eq_nil_of_length_eq_zero (by rw [h2.len,h0])
  subst e2 h0
  have HV:=Lib.hid (Zqy (neg:=neg) (l:=l1))
  have HL:=Lib.hid h1.len
  by_cases hv:lmb (val l1)=l1
  ·cases neg with
   | false=>
     have HE:Hid (decide (QY false l1 [])=true):=decide_eq_true (HV.out.2 ⟨hv,.inl rfl⟩)
     have HD:=Lib.hid (decide_eq_true hv)
     clear hv
     have hP := Pro1.mk' w #[.bool false, .slice a1 n1 c1, .slice a2 0 c2] 26
     go_enter Tryz.func97, Tryz.ntmps97
     go_upto_region 1 with (fail)
     generalize w.alloc (.cells #[.bool false, .slice a1 n1 c1, .slice a2 0 c2] 26) = W at *
     have k00 := hP.b0.cell 0
     have f00 := hP.b0.frozen 0
     have k01 := hP.b0.cell 1
     have f01 := hP.b0.frozen 1
     have k02 := hP.b0.cell 2
     have f02 := hP.b0.frozen 2
     have z0 := hP.b0.lt
     simp at k00 k01 k02
     have hw0 : Below W.heap.size W W.drew := Below.drew (Below.refl _ _)
     have g1:=h1.on hP.below
     go_wp2_with fail
     refine (JR _ g1 (by omega)).mono ?_
     rintro e w1 ⟨rfl,rfl⟩
     rw [HD.out]
     go_wp2_with fail
     go_ret
     exact Qw HE.out.symm hP.below
   | true=>
     have HE:Hid (decide (QY true l1 [])=decide (0<n1)):=by
      show _=_
      have:QY true l1 []↔0<n1:=by
       rw [HV.out,←HL.out]
       constructor
       ·rintro ⟨_,h⟩
        have h3:l1≠[]:=h.resolve_left (by simp)
        exact List.length_pos_iff.2 h3
       ·intro h
        exact ⟨hv,.inr (List.length_pos_iff.1 h)⟩
      exact decide_eq_decide.2 this
     have HD:=Lib.hid (decide_eq_true hv)
     clear hv
     have hP := Pro1.mk' w #[.bool true, .slice a1 n1 c1, .slice a2 0 c2] 26
     go_enter Tryz.func97, Tryz.ntmps97
     go_upto_region 1 with (fail)
     generalize w.alloc (.cells #[.bool true, .slice a1 n1 c1, .slice a2 0 c2] 26) = W at *
     have k00 := hP.b0.cell 0
     have f00 := hP.b0.frozen 0
     have k01 := hP.b0.cell 1
     have f01 := hP.b0.frozen 1
     have k02 := hP.b0.cell 2
     have f02 := hP.b0.frozen 2
     have z0 := hP.b0.lt
     simp at k00 k01 k02
     have hw0 : Below W.heap.size W W.drew := Below.drew (Below.refl _ _)
     have g1:=h1.on hP.below
     go_wp2_with fail
     refine (JR _ g1 (by omega)).mono ?_
     rintro e w1 ⟨rfl,rfl⟩
     rw [HD.out]
     go_wp2_with fail
     go_ret
     exact Qw HE.out.symm hP.below
  ·have HE:Hid (decide (QY neg l1 [])=false):=decide_eq_false (fun h=>hv (HV.out.1 h).1)
   have HD:=Lib.hid (decide_eq_false hv)
   clear hv
   have hP := Pro1.mk' w #[.bool neg, .slice a1 n1 c1, .slice a2 0 c2] 26
   go_enter Tryz.func97, Tryz.ntmps97
   go_upto_region 1 with (fail)
   generalize w.alloc (.cells #[.bool neg, .slice a1 n1 c1, .slice a2 0 c2] 26) = W at *
   have k00 := hP.b0.cell 0
   have f00 := hP.b0.frozen 0
   have k01 := hP.b0.cell 1
   have f01 := hP.b0.frozen 1
   have k02 := hP.b0.cell 2
   have f02 := hP.b0.frozen 2
   have z0 := hP.b0.lt
   simp at k00 k01 k02
   have hw0 : Below W.heap.size W W.drew := Below.drew (Below.refl _ _)
   have g1:=h1.on hP.below
   go_wp2_with fail
   refine (JR _ g1 (by omega)).mono ?_
   rintro e w1 ⟨rfl,rfl⟩
   rw [HD.out]
   go_wp2_with fail
   go_ret
   exact Qw HE.out.symm hP.below
 ·have e0:((n2:Int)==0)=false:=by simp;omega
  have hP := Pro1.mk' w #[.bool neg, .slice a1 n1 c1, .slice a2 n2 c2] 26
  go_enter Tryz.func97, Tryz.ntmps97
  go_upto_region 1 with (fail)
  generalize w.alloc (.cells #[.bool neg, .slice a1 n1 c1, .slice a2 n2 c2] 26) = W at *
  have k00 := hP.b0.cell 0
  have f00 := hP.b0.frozen 0
  have k01 := hP.b0.cell 1
  have f01 := hP.b0.frozen 1
  have k02 := hP.b0.cell 2
  have f02 := hP.b0.frozen 2
  have z0 := hP.b0.lt
  simp at k00 k01 k02
  have hw0 : Below W.heap.size W W.drew := Below.drew (Below.refl _ _)
  have g1:=h1.on hP.below
  have g2:=h2.on hP.below
  clear h0
  go_wp2_with fail
  refine (ZbB _ g1 g2 hn1 hn2).mono ?_
  rintro e w4 ⟨neg4,a4,n4,c4,a5,n5,c5,rfl,g4,hb4⟩
  have HV:=Lib.hid (Zis h1 h2 g4)
  obtain ⟨hc4,hf4⟩:=Zy hb4
  go_upto_region 4 with (fail)
  have hQ:=Pro1.mk' w4 #[.bool neg4,.slice a4 n4 c4,.slice a5 n5 c5] 26
  generalize w4.alloc (.cells #[.bool neg4,.slice a4 n4 c4,.slice a5 n5 c5] 26)=U at*
  have hbU:Below W.heap.size W U:=hb4.trans (hQ.below.mono hb4.size)
  have hbw:Below w.heap.size w U:=hP.below.trans (hbU.mono (by omega))
  obtain ⟨hcU,hfU⟩:=Zy hbU
  have u00:=hQ.b0.cell 0
  have u01:=hQ.b0.cell 1
  have u02:=hQ.b0.cell 2
  simp at u00 u01 u02
  have g1U:=g1.on hbU
  have g2U:=g2.on hbU
  have g4U:=g4.num.on hQ.below
  have g5U:=g4.den.on hQ.below
  clear hb4 hc4 hf4 g4 g1 g2 hQ
  by_cases t1:neg=neg4
  ·subst t1
   by_cases t2:n1=n4
   ·subst t2
    by_cases t3:n2=n5
    ·subst t3
     go_wp2_with fail
     refine (Vv _ g1U g4U (by omega) (by omega)).mono ?_
     rintro e w1 ⟨rfl,d,rfl⟩
     rw [Zg]
     by_cases t4:val l1=(sv neg l1 l2).num.natAbs
     ·have hc:=Zg0 t4
      have T4:=Lib.hid t4
      clear t4
      generalize QW (val l1) (sv neg l1 l2).num.natAbs=cc at*
      go_wp2_with fail
      refine (Vv _ (g2U.drewN d) (g5U.drewN d) (by omega) (by omega)).mono ?_
      rintro e w1 ⟨rfl,d2,rfl⟩
      by_cases t5:val l2=val (QX (sv neg l1 l2).den)
      ·have hc2:=Zg0 t5
       have HE:Hid (decide (QY neg l1 l2)=true):=decide_eq_true (HV.out.2 ⟨by first|rfl|trivial,by first|rfl|trivial,by first|rfl|trivial,T4.out,t5⟩)
       clear t5
       generalize QW (val l2) (val (QX (sv neg l1 l2).den))=c3 at*
       go_wp2_with fail
       go_ret
       exact Qw HE.out.symm (hbw.drewN _)
      ·have hc2:=ZjY t5
       have HE:Hid (decide (QY neg l1 l2)=false):=decide_eq_false (fun h=>t5 (HV.out.1 h).2.2.2.2)
       clear t5
       generalize QW (val l2) (val (QX (sv neg l1 l2).den))=c3 at*
       go_wp2_with fail
       go_ret
       exact Qw HE.out.symm (hbw.drewN _)
     ·have hc:=ZjY t4
      have HE:Hid (decide (QY neg l1 l2)=false):=decide_eq_false (fun h=>t4 (HV.out.1 h).2.2.2.1)
      clear t4
      generalize QW (val l1) (sv neg l1 l2).num.natAbs=cc at*
      go_wp2_with fail
      go_ret
      exact Qw HE.out.symm (hbw.drewN d)
    ·have HE:Hid (decide (QY neg l1 l2)=false):=decide_eq_false (fun h=>t3 (HV.out.1 h).2.2.1)
     have e1:((n2:Int)==n5)=false:=by simp;omega
     clear t3
     go_wp2_with fail
     go_ret
     exact Qw HE.out.symm hbw
   ·have HE:Hid (decide (QY neg l1 l2)=false):=decide_eq_false (fun h=>t2 (HV.out.1 h).2.1)
    have e1:((n1:Int)==n4)=false:=by simp;omega
    clear t2
    go_wp2_with fail
    go_ret
    exact Qw HE.out.symm hbw
  ·have HE:Hid (decide (QY neg l1 l2)=false):=decide_eq_false (fun h=>t1 (HV.out.1 h).1)
   have e1:(neg==neg4)=false:=by simpa using t1
   clear t1
   go_wp2_with fail
   go_ret
   exact Qw HE.out.symm hbw
end Go.Proofs.YtdaonnnlgfhlaaaGreatDoor
