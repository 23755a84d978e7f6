import Derived.Test.YtdaonnnlgfhlaaaGreatDoorGH4
set_option linter.all false
namespace Go.Proofs.YtdaonnnlgfhlaaaGreatDoor
open Go.RowKit
set_option maxHeartbeats 800000 in
theorem Vo(w:World){neg:Bool}{ad:Option Addr}{n c:Nat}{l:List Nat}(h:LimR w ad n c l)(hn:n≤17592186044416):
  Calls Tryz.prog 82 #[.bool neg,.slice ad n c] w (Za0 (iv neg l) w):=by
 have hb0:Below w.heap.size w (w.alloc (.cells #[.bool false,.slice none 0 0] 74)):=(Below.refl _ _).alloc (Nat.le_refl _) _
 cases neg with
 | false=>
   go_enter Tryz.func82, Tryz.ntmps82
   go_wp2_with fail
   refine (Y3 _ (h.on hb0) (by omega)).mono ?_
   rintro e w1 ⟨ad1,n1,c1,rfl,g1,hb1⟩
   obtain ⟨hc,hf⟩:=Zy hb1
   have hs:w.heap.size<w1.heap.size:=by have:=hb1.size;simp at this;omega
   have HI:=Jl (neg:=false) g1
   go_wp2_with fail
   have hb2:=((hb0.trans (hb1.mono (by simp))).setCell (p:=⟨w.heap.size,0,none⟩) (Nat.le_refl _) (.bool false)).setCell (p:=⟨w.heap.size,1,none⟩) (Nat.le_refl _) (.slice ad1 n1 c1)
   have hl:=g1.box64 (B:=w.heap.size) (x:=false) (a:=none) (m:=0) (k:=0) (by simp [hc]) (by simp [hc]) (.bool false) (.slice ad1 n1 c1)
   exact bodyPost_ret (v:=.agg #[.bool false,.slice ad1 n1 c1]) (by simp [results, Tryz.results82,go_sem,hc]) rfl ⟨_,_,_,_,rfl,⟨HI.sign,by rw [show (iv false l).natAbs=val l by simp [iv]];exact hl⟩,hb2⟩
 | true=>
   go_enter Tryz.func82, Tryz.ntmps82
   go_wp2_with fail
   refine (Y3 _ (h.on hb0) (by omega)).mono ?_
   rintro e w1 ⟨ad1,n1,c1,rfl,g1,hb1⟩
   obtain ⟨hc,hf⟩:=Zy hb1
   have hs:w.heap.size<w1.heap.size:=by have:=hb1.size;simp at this;omega
   have HI:=Jl (neg:=true) g1
   go_wp2_with fail
   have hb2:=((hb0.trans (hb1.mono (by simp))).setCell (p:=⟨w.heap.size,0,none⟩) (Nat.le_refl _) (.bool (decide (0<n1)))).setCell (p:=⟨w.heap.size,1,none⟩) (Nat.le_refl _) (.slice ad1 n1 c1)
   have hl:=g1.box64 (B:=w.heap.size) (x:=false) (a:=none) (m:=0) (k:=0) (by simp [hc]) (by simp [hc]) (.bool (decide (0<n1))) (.slice ad1 n1 c1)
   exact bodyPost_ret (v:=.agg #[.bool (decide (0<n1)),.slice ad1 n1 c1]) (by simp [results, Tryz.results82,go_sem,hc]) rfl ⟨_,_,_,_,rfl,⟨HI.sign,by rw [show (iv true l).natAbs=val l by simp [iv]];exact hl⟩,hb2⟩
theorem Zqi{neg:Bool}{k:Nat}{z:Int}(h:z=if neg then -(k:Int) else (k:Int)):iv neg (lmb k)=z:=by unfold iv;rw [Zg,h]
set_option maxHeartbeats 800000 in
theorem ZfO(w:World)(x:Int)(h0:-9223372036854775808≤x)(h1:x≤9223372036854775807):
  Calls Tryz.prog 51 #[.int .i64 x] w (Za0 x w):=by
 have hb0:Below w.heap.size w (w.alloc (.cells #[.bool false,.slice none 0 0] 74)):=(Below.refl _ _).alloc (Nat.le_refl _) _
 have hz0:w.heap.size<(w.alloc (.cells #[.bool false,.slice none 0 0] 74)).heap.size:=by simp
 rcases Int.lt_or_le x 0 with hx|hx
 ·have hxx:IntKind.u64.wrap (-IntKind.u64.wrap x)=-x:=by rw [ZF,ZF];omega
  go_enter Tryz.func51, Tryz.ntmps51
  go_wp2_with fail
  refine (Zaf _ (-x) (by omega) (by omega)).mono ?_
  rintro e w1 ⟨ad3,n3,c3,rfl,g1,hb1⟩
  have hn3:n3≤2:=by rw [←g1.len];exact Yg (by omega)
  go_wp2_with fail
  refine (Vo _ g1 (by omega)).mono ?_
  rintro e w2 ⟨neg2,ad4,n4,c4,rfl,g2,hb2'⟩
  have hb2:=hb1.trans (hb2'.mono hb1.size)
  obtain ⟨hc,hf⟩:=Zy hb2
  have hs:w.heap.size<w2.heap.size:=Nat.lt_of_lt_of_le hz0 hb2.size
  rw [Zqi (z:=x) (by simp;omega)] at g2
  clear g1 hxx hb2' hb1
  go_wp2_with fail
  exact bodyPost_ret (v:=.agg #[.bool neg2,.slice ad4 n4 c4]) (by simp [results, Tryz.results51,go_sem,hc]) rfl
   ⟨_,_,_,_,rfl,g2.box64 (B:=w.heap.size) (x:=false) (a:=none) (m:=0) (k:=0) (by simp [hc]) (by simp [hc]) _ _,ZV (hb0.trans (hb2.mono (by simp))) (by omega) _ _⟩
 ·go_enter Tryz.func51, Tryz.ntmps51
  go_wp2_with fail
  refine (Zaf _ x (by omega) (by omega)).mono ?_
  rintro e w1 ⟨ad3,n3,c3,rfl,g1,hb1⟩
  have hn3:n3≤2:=by rw [←g1.len];exact Yg (by omega)
  go_wp2_with fail
  refine (Vo _ g1 (by omega)).mono ?_
  rintro e w2 ⟨neg2,ad4,n4,c4,rfl,g2,hb2'⟩
  have hb2:=hb1.trans (hb2'.mono hb1.size)
  obtain ⟨hc,hf⟩:=Zy hb2
  have hs:w.heap.size<w2.heap.size:=Nat.lt_of_lt_of_le hz0 hb2.size
  rw [Zqi (z:=x) (by simp;omega)] at g2
  clear g1 hb2' hb1
  go_wp2_with fail
  exact bodyPost_ret (v:=.agg #[.bool neg2,.slice ad4 n4 c4]) (by simp [results, Tryz.results51,go_sem,hc]) rfl
   ⟨_,_,_,_,rfl,g2.box64 (B:=w.heap.size) (x:=false) (a:=none) (m:=0) (k:=0) (by simp [hc]) (by simp [hc]) _ _,ZV (hb0.trans (hb2.mono (by simp))) (by omega) _ _⟩
set_option maxRecDepth 100000 in
set_option maxHeartbeats 1600000 in
theorem ZeV(w:World){neg:Bool}{ad:Option Addr}{n c:Nat}{l:List Nat}(h:LimR w ad n c l)(hn:n≤17592186044416):
  Calls Tryz.prog 42 #[.agg #[.bool neg,.slice ad n c]] w (RetInt (iv neg l).sign w):=by
 have hP := Pro1.mk' w #[.bool neg, .slice ad n c] 74
 go_enter Tryz.func42, Tryz.ntmps42
 go_upto_region 1 with (fail)
 generalize w.alloc (.cells #[.bool neg, .slice ad n c] 74) = W at *
 have k00 := hP.b0.cell 0
 have f00 := hP.b0.frozen 0
 have k01 := hP.b0.cell 1
 have f01 := hP.b0.frozen 1
 have z0 := hP.b0.lt
 simp at k00 k01
 have hw0 : Below W.heap.size W W.drew := Below.drew (Below.refl _ _)
 have g:=h.on hP.below
 clear h
 go_wp2_with fail
 refine (Vo _ g (by omega)).mono ?_
 rintro e w1 ⟨neg1,ad1,n1,c1,rfl,g1,hb1⟩
 obtain ⟨hc,hf⟩:=Zy hb1
 have hs:w.heap.size<w1.heap.size:=Nat.lt_of_lt_of_le z0 hb1.size
 have hb:=ZV (hP.below.trans (hb1.mono (by omega))) (Nat.le_refl _) (.bool neg1) (.slice ad1 n1 c1)
 have HS:=Lib.hid g1.sign.out
 have HL:=Lib.hid g1.mag.len
 generalize iv neg l=z at*
 clear g g1 hP
 rcases Nat.eq_zero_or_pos n1 with h0|h0
 ·subst h0
  have HZ:Hid (z.sign=0):=by have:=ZZ.1 HL.out;show z.sign=0;rw [Int.natAbs_eq_zero.1 this];rfl
  go_wp2_with fail
  go_ret
  exact ⟨Q2 HZ.out.symm,hb⟩
 ·have HZ:Hid (z≠0):=fun e=>by have:=HL.out;rw [e] at this;simp at this;omega
  have e1:((n1:Int)==0)=false:=by simp;omega
  clear h0
  cases neg1 with
  | false=>
    have HP:Hid (z.sign=1):=by have:=HS.out;simp at this;have h9:=HZ.out;exact Int.sign_eq_one_of_pos (by omega)
    go_wp2_with fail
    go_ret
    exact ⟨Q2 HP.out.symm,hb⟩
  | true=>
    have HP:Hid (z.sign=-1):=by have:=HS.out;simp at this;exact Int.sign_eq_neg_one_of_neg (by omega)
    go_wp2_with fail
    go_ret
    exact ⟨Q2 HP.out.symm,hb⟩
def ZyY(w:World)(e:Ending)(w':World):Prop:=e=.returned (.tuple #[.slice none 0 0,.int .i64 2])∧w=w'
set_option maxHeartbeats 800000 in
theorem Ziw(w:World){ad1 ad2:Option Addr}{n1 n2 c1 c2:Nat}{l1 l2:List Nat}(h1:LimR w ad1 n1 c1 l1)(h2:LimR w ad2 n2 c2 l2)(hn1:n1≤8796093022208)(hn2:n2≤8796093022208)(hlt:val l1<val l2):
  Calls Tryz.prog 114 #[.slice ad1 n1 c1,.slice ad2 n2 c2] w (ZyY w):=by
 go_enter Tryz.func114, Tryz.ntmps114
 go_wp2_with fail
 refine (Zdj w h1 h2 (by omega) (by omega)).mono ?_
 rintro e w1 ⟨rfl,rfl⟩
 have hc:=ZcD hlt
 generalize QW (val l1) (val l2)=cc at*
 go_wp2_with fail
 go_ret2
 exact ⟨rfl,rfl⟩
set_option maxRecDepth 100000 in
set_option maxHeartbeats 3200000 in
theorem Zk0(w:World){s:Bool}{a1 a2:Option Addr}{n1 n2 c1 c2:Nat}{l1 l2:List Nat}(h1:LimR w a1 n1 c1 l1)(h2:LimR w a2 n2 c2 l2)(hn1:n1≤4398046511104)(hn2:n2≤4398046511104):
  Calls Tryz.prog 79 #[.agg #[.bool s,.slice a1 n1 c1],.agg #[.bool s,.slice a2 n2 c2]] w (Za0 (iv s l1+iv s l2) w):=by
 have hP := Pro3.mk' w #[.bool s, .slice a1 n1 c1] #[.bool s, .slice a2 n2 c2] #[.bool false, .slice none 0 0] 74 74 74
 go_enter Tryz.func79, Tryz.ntmps79
 go_upto_region 1 with (fail)
 generalize ((w.alloc (.cells #[.bool s, .slice a1 n1 c1] 74)).alloc (.cells #[.bool s, .slice a2 n2 c2] 74)).alloc (.cells #[.bool false, .slice none 0 0] 74) = W at *
 have k00 := hP.b0.cell 0
 have f00 := hP.b0.frozen 0
 have k01 := hP.b0.cell 1
 have f01 := hP.b0.frozen 1
 have z0 := hP.b0.lt
 have k10 := hP.b1.cell 0
 have f10 := hP.b1.frozen 0
 have k11 := hP.b1.cell 1
 have f11 := hP.b1.frozen 1
 have z1 := hP.b1.lt
 have k20 := hP.b2.cell 0
 have f20 := hP.b2.frozen 0
 have k21 := hP.b2.cell 1
 have f21 := hP.b2.frozen 1
 have z2 := hP.b2.lt
 simp at k00 k01 k10 k11 k20 k21
 have nb20 : w.heap.size + 1 + 1 ≠ w.heap.size := by omega
 have hw0 : Below W.heap.size W W.drew := Below.drew (Below.refl _ _)
 have g1:=h1.on hP.below
 have g2:=h2.on hP.below
 go_wp2_with fail
 go_region_held3 (fun w' => w'.cell? ⟨w.heap.size, 0, none⟩ = some (.bool s) ∧ w'.cell? ⟨w.heap.size, 1, none⟩ = some (.slice a1 n1 c1) ∧ w'.cell? ⟨w.heap.size + 1, 0, none⟩ = some (.bool s) ∧ w'.cell? ⟨w.heap.size + 1, 1, none⟩ = some (.slice a2 n2 c2))
  (go_keep)
  (first
   | (go_at_call 113;refine (ZdU _ (g1.on hw0) (g2.on hw0) (by omega) (by omega)).mono ?_;rintro e w3 ⟨ad3,n3,c3,rfl,g3,hb3'⟩;have hb3:Below W.heap.size W w3:=hw0.trans hb3';obtain ⟨hc3,hf3⟩:=Zy hb3)
   | (go_at_call 82;refine (Vo _ g3 (by have h9:=Zi8 h1 h2;rw [g3.len] at h9;omega)).mono ?_;rintro e w4 ⟨neg4,ad4,n4,c4,rfl,g4,hb4'⟩;have hb4:Below W.heap.size W w4:=hb3.trans (hb4'.mono hb3.size);obtain ⟨hc4,hf4⟩:=Zy hb4))
 go_wp2_with fail
 have g5:IntC w4 neg4 ad4 n4 c4 (iv s l1+iv s l2):=by rw [←Zcc s l1 l2 _ (Zg _)];exact g4
 exact bodyPost_ret (v:=.agg #[.bool neg4,.slice ad4 n4 c4]) (by simp [results, Tryz.results79,go_sem, *]) rfl
  ⟨_,_,_,_,rfl,g5.box64 (B:=w.heap.size+1+1) (x:=false) (a:=none) (m:=0) (k:=0) (by simp [*]) (by simp [*]) _ _,ZV (hP.below.trans (hb4.mono (by omega))) (by omega) _ _⟩
set_option maxRecDepth 100000 in
set_option maxHeartbeats 3200000 in
theorem Zti(w:World){s1 s2:Bool}(hs:(s1==s2)=false){a1 a2:Option Addr}{n1 n2 c1 c2:Nat}{l1 l2:List Nat}(h1:LimR w a1 n1 c1 l1)(h2:LimR w a2 n2 c2 l2)(hn1:n1≤4398046511104)(hn2:n2≤4398046511104)(hle:val l2≤val l1):
  Calls Tryz.prog 79 #[.agg #[.bool s1,.slice a1 n1 c1],.agg #[.bool s2,.slice a2 n2 c2]] w (Za0 (iv s1 l1+iv s2 l2) w):=by
 have HLE:=Lib.hid hle
 have hP := Pro3.mk' w #[.bool s1, .slice a1 n1 c1] #[.bool s2, .slice a2 n2 c2] #[.bool false, .slice none 0 0] 74 74 74
 go_enter Tryz.func79, Tryz.ntmps79
 go_upto_region 1 with (fail)
 generalize ((w.alloc (.cells #[.bool s1, .slice a1 n1 c1] 74)).alloc (.cells #[.bool s2, .slice a2 n2 c2] 74)).alloc (.cells #[.bool false, .slice none 0 0] 74) = W at *
 have k00 := hP.b0.cell 0
 have f00 := hP.b0.frozen 0
 have k01 := hP.b0.cell 1
 have f01 := hP.b0.frozen 1
 have z0 := hP.b0.lt
 have k10 := hP.b1.cell 0
 have f10 := hP.b1.frozen 0
 have k11 := hP.b1.cell 1
 have f11 := hP.b1.frozen 1
 have z1 := hP.b1.lt
 have k20 := hP.b2.cell 0
 have f20 := hP.b2.frozen 0
 have k21 := hP.b2.cell 1
 have f21 := hP.b2.frozen 1
 have z2 := hP.b2.lt
 simp at k00 k01 k10 k11 k20 k21
 have nb20 : w.heap.size + 1 + 1 ≠ w.heap.size := by omega
 have hw0 : Below W.heap.size W W.drew := Below.drew (Below.refl _ _)
 have g1:=h1.on hP.below
 have g2:=h2.on hP.below
 go_wp2_with fail
 refine (Zhz _ g1 g2 (by omega) (by omega) hle).mono ?_
 rintro e w3 ⟨ad3,n3,c3,rfl,g3,hb3⟩
 obtain ⟨hc3,hf3⟩:=Zy hb3
 go_wp2_with fail
 refine (Vo _ g3 (by have h9:=Zw (Nat.sub_le (val l1) (val l2));rw [g3.len] at h9;have h8:=Zn h1.lim;rw [h1.len] at h8;omega)).mono ?_
 rintro e w4 ⟨neg4,ad4,n4,c4,rfl,g4,hb4'⟩
 have hb4:Below W.heap.size W w4:=hb3.trans (hb4'.mono hb3.size)
 obtain ⟨hc4,hf4⟩:=Zy hb4
 have g5:IntC w4 neg4 ad4 n4 c4 (iv s1 l1+iv s2 l2):=by rw [←Ji s1 s2 (by simpa using hs) l1 l2 _ HLE.out (Zg _)];exact g4
 go_wp2_with fail
 exact bodyPost_ret (v:=.agg #[.bool neg4,.slice ad4 n4 c4]) (by simp [results, Tryz.results79,go_sem, *]) rfl
  ⟨_,_,_,_,rfl,g5.box64 (B:=w.heap.size+1+1) (x:=false) (a:=none) (m:=0) (k:=0) (by simp [*]) (by simp [*]) _ _,ZV (hP.below.trans (hb4.mono (by omega))) (by omega) _ _⟩
set_option maxRecDepth 100000 in
set_option maxHeartbeats 3200000 in
theorem Ztq(w:World){s1 s2:Bool}(hs:(s1==s2)=false){a1 a2:Option Addr}{n1 n2 c1 c2:Nat}{l1 l2:List Nat}(h1:LimR w a1 n1 c1 l1)(h2:LimR w a2 n2 c2 l2)(hn1:n1≤4398046511104)(hn2:n2≤4398046511104)(hle:val l1<val l2):
  Calls Tryz.prog 79 #[.agg #[.bool s1,.slice a1 n1 c1],.agg #[.bool s2,.slice a2 n2 c2]] w (Za0 (iv s1 l1+iv s2 l2) w):=by
 have HLE:=Lib.hid hle
 have hP := Pro3.mk' w #[.bool s1, .slice a1 n1 c1] #[.bool s2, .slice a2 n2 c2] #[.bool false, .slice none 0 0] 74 74 74
 go_enter Tryz.func79, Tryz.ntmps79
 go_upto_region 1 with (fail)
 generalize ((w.alloc (.cells #[.bool s1, .slice a1 n1 c1] 74)).alloc (.cells #[.bool s2, .slice a2 n2 c2] 74)).alloc (.cells #[.bool false, .slice none 0 0] 74) = W at *
 have k00 := hP.b0.cell 0
 have f00 := hP.b0.frozen 0
 have k01 := hP.b0.cell 1
 have f01 := hP.b0.frozen 1
 have z0 := hP.b0.lt
 have k10 := hP.b1.cell 0
 have f10 := hP.b1.frozen 0
 have k11 := hP.b1.cell 1
 have f11 := hP.b1.frozen 1
 have z1 := hP.b1.lt
 have k20 := hP.b2.cell 0
 have f20 := hP.b2.frozen 0
 have k21 := hP.b2.cell 1
 have f21 := hP.b2.frozen 1
 have z2 := hP.b2.lt
 simp at k00 k01 k10 k11 k20 k21
 have nb20 : w.heap.size + 1 + 1 ≠ w.heap.size := by omega
 have hw0 : Below W.heap.size W W.drew := Below.drew (Below.refl _ _)
 have g1:=h1.on hP.below
 have g2:=h2.on hP.below
 go_wp2_with fail
 refine (Ziw _ g1 g2 (by omega) (by omega) hle).mono ?_
 rintro e w3 ⟨rfl,rfl⟩
 go_wp2_with fail
 refine (Zhz _ g2 g1 (by omega) (by omega) (Nat.le_of_lt HLE.out)).mono ?_
 rintro e w3 ⟨ad3,n3,c3,rfl,g3,hb3⟩
 obtain ⟨hc3,hf3⟩:=Zy hb3
 go_wp2_with fail
 refine (Vo _ g3 (by have h9:=Zw (Nat.sub_le (val l2) (val l1));rw [g3.len] at h9;have h8:=Zn h2.lim;rw [h2.len] at h8;omega)).mono ?_
 rintro e w4 ⟨neg4,ad4,n4,c4,rfl,g4,hb4'⟩
 have hb4:Below W.heap.size W w4:=hb3.trans (hb4'.mono hb3.size)
 obtain ⟨hc4,hf4⟩:=Zy hb4
 have g5:IntC w4 neg4 ad4 n4 c4 (iv s1 l1+iv s2 l2):=by rw [Int.add_comm,←Ji s2 s1 (by intro e;subst e;simp at hs) l2 l1 _ (Nat.le_of_lt HLE.out) (Zg _)];exact g4
 go_wp2_with fail
 exact bodyPost_ret (v:=.agg #[.bool neg4,.slice ad4 n4 c4]) (by simp [results, Tryz.results79,go_sem, *]) rfl
  ⟨_,_,_,_,rfl,g5.box64 (B:=w.heap.size+1+1) (x:=false) (a:=none) (m:=0) (k:=0) (by simp [*]) (by simp [*]) _ _,ZV (hP.below.trans (hb4.mono (by omega))) (by omega) _ _⟩
theorem Zpy(w:World){s1 s2:Bool}{a1 a2:Option Addr}{n1 n2 c1 c2:Nat}{l1 l2:List Nat}(h1:LimR w a1 n1 c1 l1)(h2:LimR w a2 n2 c2 l2)(hn1:n1≤4398046511104)(hn2:n2≤4398046511104):
  Calls Tryz.prog 79 #[.agg #[.bool s1,.slice a1 n1 c1],.agg #[.bool s2,.slice a2 n2 c2]] w (Za0 (iv s1 l1+iv s2 l2) w):=by
 by_cases hs:s1=s2
 ·subst hs;exact Zk0 w h1 h2 hn1 hn2
 ·have hs':(s1==s2)=false:=by simpa using hs
  rcases Nat.lt_or_ge (val l1) (val l2) with h|h
  ·exact Ztq w hs' h1 h2 hn1 hn2 h
  ·exact Zti w hs' h1 h2 hn1 hn2 h
theorem Xc{w:World}{ad:Option Addr}{n c:Nat}{l:List Nat}(h:LimR w ad n c l):(lmb (dn l)).length≤n+1:=by
 have:=ZhT h;rwa [Int.natAbs_natCast] at this
set_option maxHeartbeats 400000 in
theorem Xr(w:World){ad:Option Addr}{n c:Nat}{l:List Nat}(h:LimR w ad n c l)(hn:n≤17592186044416):
  Calls Tryz.prog 55 #[.slice ad n c] w (RetN (dn l) w):=by
 go_enter Tryz.func55, Tryz.ntmps55
 go_wp2_with fail
 refine (Y3 _ h (by omega)).mono ?_
 rintro e w1 ⟨a1,n1,c1,rfl,g1,hb1⟩
 clear h
 have HL:=Lib.hid g1.len
 rcases Nat.eq_zero_or_pos n1 with h0|h0
 ·subst h0
  have HZ:Hid (dn l=1):=by unfold dn;exact if_pos (ZZ.1 HL.out)
  go_wp2_with fail
  go_ret
  exact ⟨_,_,_,rfl,by rw [HZ.out,Xe];exact Zkb w1 (x:=1) (by omega),hb1.trans ((Below.refl _ _).alloc hb1.size _)⟩
 ·have HZ:Hid (dn l=val l):=by unfold dn;exact if_neg (fun e=>by have:=HL.out;rw [e] at this;simp at this;omega)
  have e1:((n1:Int)==0)=false:=by simp;omega
  clear h0
  go_wp2_with fail
  go_ret
  exact ⟨_,_,_,rfl,by rw [HZ.out];exact g1,hb1⟩
theorem Zne{w:World}{neg:Bool}{a1 a2:Option Addr}{n1 c1 n2 c2 N D:Nat}(hD:0<D)(h:LimR w a1 n1 c1 (lmb (N / Nat.gcd N D)))(hd:LimR w a2 n2 c2 (QX (D / Nat.gcd N D))):RatC w (neg && decide (0<n1)) a1 n1 c1 a2 n2 c2 (mkRat (sgi neg N) D):=by
 rcases Nat.eq_zero_or_pos N with rfl|hN
 ·have hl:=h.len
  rw [Nat.zero_div] at hl h
  rw [Nat.gcd_zero_left,Nat.div_self hD] at hd
  have:n1=0:=by simpa using hl.symm
  subst this
  rw [ZdH]
  refine ⟨?_,h,hd⟩
  show _=_
  cases neg <;>rfl
 ·have hl:=h.len
  have h0:0<n1:=by
   rcases Nat.eq_zero_or_pos n1 with h9|h9
   ·rw [h9,ZZ] at hl
    have:=Nat.div_pos (Nat.le_of_dvd hN (Nat.gcd_dvd_left N D)) (Zcw hD)
    omega
   ·exact h9
  have:=ZaJ (neg:=neg) hN hD h hd
  simpa [h0] using this
theorem Zgq{k:Nat}(h:(lmb k).length=1)(hk:k≠1){x:Nat}(hx:(lmb k).getD 0 0=x):x≠1:=by
 have h3:=ZQ (lmb k) 0
 rw [Yy,hx,Z8 _ (by omega),Zg] at h3
 intro e;subst e;omega
set_option maxRecDepth 100000 in
set_option maxHeartbeats 3200000 in
theorem Uh(w:World){neg:Bool}{a1 a2:Option Addr}{n1 n2 c1 c2:Nat}{l1 l2:List Nat}(h1:LimR w a1 n1 c1 l1)(h2:LimR w a2 n2 c2 l2)(hn1:n1≤4398046511104)(hn2:n2≤4398046511104)(hd:0<val l2):
  Calls Tryz.prog 53 #[.bool neg,.slice a1 n1 c1,.slice a2 n2 c2] w (RetR (mkRat (sgi neg (val l1)) (val l2)) w):=by
 have HL2:=Lib.hid (Zn h2.lim)
 rw [h2.len] at HL2
 have hP := Pro1.mk' w #[.bool false, .slice none 0 0, .slice none 0 0] 26
 go_enter Tryz.func53, Tryz.ntmps53
 go_upto_region 1 with (fail)
 generalize w.alloc (.cells #[.bool false, .slice none 0 0, .slice none 0 0] 26) = W at *
 have k00 := hP.b0.cell 0
 have f00 := hP.b0.frozen 0
 have k01 := hP.b0.cell 1
 have f01 := hP.b0.frozen 1
 have k02 := hP.b0.cell 2
 have f02 := hP.b0.frozen 2
 have z0 := hP.b0.lt
 simp at k00 k01 k02
 have hw0 : Below W.heap.size W W.drew := Below.drew (Below.refl _ _)
 have g1:=h1.on hP.below
 have g2:=h2.on hP.below
 have hw1:=hP.below
 clear h1 h2 k00 k01 k02 f00 f01 f02 hw0
 go_wp2_with fail
 refine (Zot _ g1 g2 (by omega) (by omega)).mono ?_
 rintro e w3 ⟨a3,n3,c3,rfl,g3,hb3⟩
 have hgp:=Zcw (N:=val l1) hd
 have hn3:n3≤n2:=by rw [←g3.len];exact Nat.le_trans (Zw (Nat.le_of_dvd hd (Nat.gcd_dvd_right _ _))) HL2.out
 go_wp2_with fail
 refine (ZaP _ (g1.on hb3) g3 (by omega) (by omega) (by rw [Zg];exact hgp)).mono ?_
 rintro e w4 ⟨a4,n4,c4,a5,n5,c5,rfl,g4,_,hb4'⟩
 rw [Zg] at g4
 have hb4:=hb3.trans (hb4'.mono hb3.size)
 go_wp2_with fail
 refine (ZaP _ (g2.on hb4) (g3.on hb4') (by omega) (by omega) (by rw [Zg];exact hgp)).mono ?_
 rintro e w5 ⟨a6,n6,c6,a7,n7,c7,rfl,g6,_,hb5'⟩
 rw [Zg] at g6
 have hb5:=hb4.trans (hb5'.mono hb4.size)
 have g4':=g4.on hb5'
 have hB:=hP.b0.on hb5
 have hW5:=hw1.trans (hb5.mono (by omega))
 have HK:Hid (∀{a2:Option Addr} {n2 c2:Nat},LimR w5 a2 n2 c2 (QX (val l2 / Nat.gcd (val l1) (val l2)))→RatC w5 (neg && decide (0<n4)) a4 n4 c4 a2 n2 c2 (mkRat (sgi neg (val l1)) (val l2))):=fun hd2=>Zne hd g4' hd2
 have k0:=hB.cell 0
 have k1:=hB.cell 1
 have k2:=hB.cell 2
 have k3:=hB.frozen 0
 have k4:=hB.frozen 1
 have k5:=hB.frozen 2
 have z5:=hB.lt
 simp at k0 k1 k2
 clear hP hw1 z0 g1 g2 g3 g4 g4' hb3 hb4 hb4' hb5 hb5' hB hgp
 generalize val l2 / Nat.gcd (val l1) (val l2)=K at*
 by_cases hK:K=1
 ·subst hK
  have hn6:n6=1:=by rw [←g6.len,Xe];rfl
  subst hn6
  obtain ⟨b,o,x,rfl,_,hx,hu,HX⟩:=g6.at_ (show 0<1 by omega)
  rw [Nat.add_zero] at hx
  have e1:x=1:=by rw [←HX.out,Xe];rfl
  subst e1
  have HR:=Lib.hid (HK.out (LimR.nil w5 none 0))
  clear HK HX
  cases neg with
  | false=>
    go_wp2_with fail
    exact bodyPost_ret (v:=.agg #[.bool false,.slice a4 n4 c4,.slice none 0 0]) (by simp [results, Tryz.results53,go_sem, *]) rfl
     ⟨_,_,_,_,_,_,_,rfl,RatC.box27 (HR.out:RatC w5 false _ _ _ _ _ _ _) k0 k1 k2 _ _ _,ZC hW5 (Nat.le_refl _) _ _ _⟩
  | true=>
    have HR':=HR.out
    rw [Bool.true_and] at HR'
    go_wp2_with fail
    exact bodyPost_ret (v:=.agg #[.bool (decide (0<n4)),.slice a4 n4 c4,.slice none 0 0]) (by simp [results, Tryz.results53,go_sem, *]) rfl
     ⟨_,_,_,_,_,_,_,rfl,HR'.box27 k0 k1 k2 _ _ _,ZC hW5 (Nat.le_refl _) _ _ _⟩
 ·have HR:=Lib.hid (HK.out (by rw [ZfC hK];exact g6))
  by_cases hn6:n6=1
  ·subst hn6
   obtain ⟨b,o,x,rfl,_,hx,hu,HX⟩:=g6.at_ (show 0<1 by omega)
   rw [Nat.add_zero] at hx
   have hx1:x≠1:=Zgq g6.len hK HX.out
   have e2:((x:Int)==1)=false:=by simp;omega
   clear HK HX hK hx1
   cases neg with
   | false=>
     go_wp2_with fail
     exact bodyPost_ret (v:=.agg #[.bool false,.slice a4 n4 c4,.slice (some ⟨b,o,none⟩) 1 c6]) (by simp [results, Tryz.results53,go_sem, *]) rfl
      ⟨_,_,_,_,_,_,_,rfl,RatC.box27 (HR.out:RatC w5 false _ _ _ _ _ _ _) k0 k1 k2 _ _ _,ZC hW5 (Nat.le_refl _) _ _ _⟩
   | true=>
     have HR':=HR.out
     rw [Bool.true_and] at HR'
     go_wp2_with fail
     exact bodyPost_ret (v:=.agg #[.bool (decide (0<n4)),.slice a4 n4 c4,.slice (some ⟨b,o,none⟩) 1 c6]) (by simp [results, Tryz.results53,go_sem, *]) rfl
      ⟨_,_,_,_,_,_,_,rfl,HR'.box27 k0 k1 k2 _ _ _,ZC hW5 (Nat.le_refl _) _ _ _⟩
  ·have e2:((n6:Int)==1)=false:=by simp;omega
   clear HK hK hn6
   cases neg with
   | false=>
     go_wp2_with fail
     exact bodyPost_ret (v:=.agg #[.bool false,.slice a4 n4 c4,.slice a6 n6 c6]) (by simp [results, Tryz.results53,go_sem, *]) rfl
      ⟨_,_,_,_,_,_,_,rfl,RatC.box27 (HR.out:RatC w5 false _ _ _ _ _ _ _) k0 k1 k2 _ _ _,ZC hW5 (Nat.le_refl _) _ _ _⟩
   | true=>
     have HR':=HR.out
     rw [Bool.true_and] at HR'
     go_wp2_with fail
     exact bodyPost_ret (v:=.agg #[.bool (decide (0<n4)),.slice a4 n4 c4,.slice a6 n6 c6]) (by simp [results, Tryz.results53,go_sem, *]) rfl
      ⟨_,_,_,_,_,_,_,rfl,HR'.box27 k0 k1 k2 _ _ _,ZC hW5 (Nat.le_refl _) _ _ _⟩
set_option maxRecDepth 100000 in
set_option maxHeartbeats 3200000 in
theorem JN(w:World){neg:Bool}{a1 a2:Option Addr}{n1 n2 c1 c2:Nat}{l1 l2:List Nat}(h1:LimR w a1 n1 c1 l1)(h2:LimR w a2 n2 c2 l2)(hn1:n1≤1099511627776)(hn2:n2≤1099511627776):
  Calls Tryz.prog 56 #[.agg #[.bool neg,.slice a1 n1 c1,.slice a2 n2 c2]] w (RetR (sv neg l1 l2) w):=by
 have hP := Pro2.mk' w #[.bool neg, .slice a1 n1 c1, .slice a2 n2 c2] #[.bool false, .slice none 0 0, .slice none 0 0] 26 26
 go_enter Tryz.func56, Tryz.ntmps56
 go_upto_region 1 with (fail)
 generalize (w.alloc (.cells #[.bool neg, .slice a1 n1 c1, .slice a2 n2 c2] 26)).alloc (.cells #[.bool false, .slice none 0 0, .slice none 0 0] 26) = W at *
 have k00 := hP.b0.cell 0
 have f00 := hP.b0.frozen 0
 have k01 := hP.b0.cell 1
 have f01 := hP.b0.frozen 1
 have k02 := hP.b0.cell 2
 have f02 := hP.b0.frozen 2
 have z0 := hP.b0.lt
 have k10 := hP.b1.cell 0
 have f10 := hP.b1.frozen 0
 have k11 := hP.b1.cell 1
 have f11 := hP.b1.frozen 1
 have k12 := hP.b1.cell 2
 have f12 := hP.b1.frozen 2
 have z1 := hP.b1.lt
 simp at k00 k01 k02 k10 k11 k12
 have hw0 : Below W.heap.size W W.drew := Below.drew (Below.refl _ _)
 have g1:=h1.on hP.below
 have g2:=h2.on hP.below
 go_region_held3 (fun w' => w'.cell? ⟨w.heap.size, 0, none⟩ = some (.bool neg) ∧ w'.cell? ⟨w.heap.size, 1, none⟩ = some (.slice a1 n1 c1) ∧ w'.cell? ⟨w.heap.size, 2, none⟩ = some (.slice a2 n2 c2))
  (go_keep)
  (first
   | (go_at_call 55;refine (Xr _ (g2.on hw0) (by omega)).mono ?_;rintro e w3 ⟨ad3,n3,c3,rfl,g3,hb3'⟩;have hb3:Below W.heap.size W w3:=hw0.trans hb3';obtain ⟨hc3,hf3⟩:=Zy hb3)
   | (go_at_call 53;refine (Uh _ (g1.on hb3) g3 (by omega) (by have h9:=Xc h2;rw [g3.len] at h9;omega) (by rw [Zg];exact Yx _)).mono ?_;rintro e w4 ⟨neg4,a4,n4,c4,a5,n5,c5,rfl,g4,hb4'⟩;have hb4:Below W.heap.size W w4:=hb3.trans (hb4'.mono hb3.size);obtain ⟨hc4,hf4⟩:=Zy hb4))
 go_wp2_with fail
 rw [Zg] at g4
 exact bodyPost_ret (v:=.agg #[.bool neg4,.slice a4 n4 c4,.slice a5 n5 c5]) (by simp [results, Tryz.results56,go_sem, *]) rfl
  ⟨_,_,_,_,_,_,_,rfl,g4.box27 (B:=w.heap.size+1) (x:=false) (a:=none) (a':=none) (m:=0) (k:=0) (m':=0) (k':=0) (by simp [*]) (by simp [*]) (by simp [*]) _ _ _,ZC (hP.below.trans (hb4.mono (by omega))) (by omega) _ _ _⟩
set_option maxRecDepth 100000 in
set_option maxHeartbeats 1600000 in
theorem ZhL(w:World){neg:Bool}{a1 a2:Option Addr}{n1 n2 c1 c2:Nat}{l1 l2:List Nat}(h1:LimR w a1 n1 c1 l1)(h2:LimR w a2 n2 c2 l2)(hn1:n1≤1099511627776)(hn2:n2≤1099511627776):
  Calls Tryz.prog 24 #[.agg #[.bool neg,.slice a1 n1 c1,.slice a2 n2 c2]] w (RetR (-(sv neg l1 l2)) w):=by
 have hP := Pro2.mk' w #[.bool neg, .slice a1 n1 c1, .slice a2 n2 c2] #[.bool false, .slice none 0 0, .slice none 0 0] 26 26
 go_enter Tryz.func24, Tryz.ntmps24
 go_upto_region 1 with (fail)
 generalize (w.alloc (.cells #[.bool neg, .slice a1 n1 c1, .slice a2 n2 c2] 26)).alloc (.cells #[.bool false, .slice none 0 0, .slice none 0 0] 26) = W at *
 have k00 := hP.b0.cell 0
 have f00 := hP.b0.frozen 0
 have k01 := hP.b0.cell 1
 have f01 := hP.b0.frozen 1
 have k02 := hP.b0.cell 2
 have f02 := hP.b0.frozen 2
 have z0 := hP.b0.lt
 have k10 := hP.b1.cell 0
 have f10 := hP.b1.frozen 0
 have k11 := hP.b1.cell 1
 have f11 := hP.b1.frozen 1
 have k12 := hP.b1.cell 2
 have f12 := hP.b1.frozen 2
 have z1 := hP.b1.lt
 simp at k00 k01 k02 k10 k11 k12
 have hw0 : Below W.heap.size W W.drew := Below.drew (Below.refl _ _)
 have g1:=(h1.on hP.below).box (p:=⟨w.heap.size,0,none⟩) k00 (fun _=>by simp) (.bool !neg)
 have g2:=(h2.on hP.below).box (p:=⟨w.heap.size,0,none⟩) k00 (fun _=>by simp) (.bool !neg)
 have hb:Below w.heap.size w (W.setCell ⟨w.heap.size,0,none⟩ (.bool !neg)):=hP.below.setCell (p:=⟨w.heap.size,0,none⟩) (Nat.le_refl _) _
 have hsz:(W.setCell ⟨w.heap.size,0,none⟩ (.bool !neg)).heap.size=W.heap.size:=by simp [World.setCell]
 have hz:w.heap.size+1<(W.setCell ⟨w.heap.size,0,none⟩ (.bool !neg)).heap.size:=by rw [hsz];exact z1
 have q0:(W.setCell ⟨w.heap.size,0,none⟩ (.bool !neg)).cell? ⟨w.heap.size+1,0,none⟩=some (.bool false):=by simp [go_sem, *]
 have q1:(W.setCell ⟨w.heap.size,0,none⟩ (.bool !neg)).cell? ⟨w.heap.size+1,1,none⟩=some (.slice none 0 0):=by simp [go_sem, *]
 have q2:(W.setCell ⟨w.heap.size,0,none⟩ (.bool !neg)).cell? ⟨w.heap.size+1,2,none⟩=some (.slice none 0 0):=by simp [go_sem, *]
 have q3:(W.setCell ⟨w.heap.size,0,none⟩ (.bool !neg)).frozen? ⟨w.heap.size+1,0,none⟩=false:=by simp [go_sem, *]
 have q4:(W.setCell ⟨w.heap.size,0,none⟩ (.bool !neg)).frozen? ⟨w.heap.size+1,1,none⟩=false:=by simp [go_sem, *]
 have q5:(W.setCell ⟨w.heap.size,0,none⟩ (.bool !neg)).frozen? ⟨w.heap.size+1,2,none⟩=false:=by simp [go_sem, *]
 clear hsz
 go_wp2_with fail
 generalize W.setCell ⟨w.heap.size,0,none⟩ (.bool !neg)=V at*
 refine (JN _ g1 g2 (by omega) (by omega)).mono ?_
 rintro e w4 ⟨neg4,a4,n4,c4,a5,n5,c5,rfl,g4,hb4⟩
 obtain ⟨hc4,hf4⟩:=Zy hb4
 have g5:RatC w4 neg4 a4 n4 c4 a5 n5 c5 (-(sv neg l1 l2)):=by unfold sv at*;rw [←Zcs];exact g4
 clear hP k00 k01 k02 k10 k11 k12 f00 f01 f02 f10 f11 f12 z0 z1 hw0
 go_wp2_with fail
 exact bodyPost_ret (v:=.agg #[.bool neg4,.slice a4 n4 c4,.slice a5 n5 c5]) (by simp [results, Tryz.results24,go_sem, *]) rfl
  ⟨_,_,_,_,_,_,_,rfl,g5.box27 (B:=w.heap.size+1) (x:=false) (a:=none) (a':=none) (m:=0) (k:=0) (m':=0) (k':=0) (by simp [*]) (by simp [*]) (by simp [*]) _ _ _,ZC (hb.trans (hb4.mono (by omega))) (by omega) _ _ _⟩
theorem Zpi{w:World}{neg:Bool}{ad:Option Addr}{n c:Nat}{x:Int}(h:IntC w neg ad n c x):RatC w neg ad n c none 0 0 (x:Rat):=
 ⟨by have:=h.sign.out;rw [Rat.num_intCast];exact this,by rw [Rat.num_intCast];exact h.mag,by rw [Rat.den_intCast];exact LimR.nil _ _ _⟩
set_option maxRecDepth 100000 in
set_option maxHeartbeats 1600000 in
theorem ZoC(w:World)(x:Int)(h0:-9223372036854775808≤x)(h1:x≤9223372036854775807):
  Calls Tryz.prog 20 #[.int .i64 x] w (RetR (x:Rat) w):=by
 have hP := Pro1.mk' w #[.bool false, .slice none 0 0, .slice none 0 0] 26
 go_enter Tryz.func20, Tryz.ntmps20
 go_upto_region 1 with (fail)
 generalize w.alloc (.cells #[.bool false, .slice none 0 0, .slice none 0 0] 26) = W at *
 have k00 := hP.b0.cell 0
 have f00 := hP.b0.frozen 0
 have k01 := hP.b0.cell 1
 have f01 := hP.b0.frozen 1
 have k02 := hP.b0.cell 2
 have f02 := hP.b0.frozen 2
 have z0 := hP.b0.lt
 simp at k00 k01 k02
 have hw0 : Below W.heap.size W W.drew := Below.drew (Below.refl _ _)
 go_wp2_with fail
 refine (ZfO _ x h0 h1).mono ?_
 rintro e w3 ⟨neg3,a3,n3,c3,rfl,g3,hb3⟩
 go_upto_region 2 with (fail)
 have hQ:=Pro1.mk' w3 #[.bool neg3,.slice a3 n3 c3] 74
 generalize w3.alloc (.cells #[.bool neg3,.slice a3 n3 c3] 74)=U at*
 have hbU:Below W.heap.size W U:=hb3.trans (hQ.below.mono hb3.size)
 obtain ⟨hcU,hfU⟩:=Zy hbU
 have u00:=hQ.b0.cell 0
 have u01:=hQ.b0.cell 1
 simp at u00 u01
 have hzU:=hQ.b0.lt
 have zU0:w.heap.size<U.heap.size:=Nat.lt_of_lt_of_le z0 hbU.size
 have g4:=Zpi (g3.on hQ.below)
 have hbw:=hP.below.trans (hbU.mono (by omega))
 clear hb3 hQ g3 hbU
 go_wp2_with fail
 exact bodyPost_ret (v:=.agg #[.bool neg3,.slice a3 n3 c3,.slice none 0 0]) (by simp [results, Tryz.results20,go_sem, *]) rfl
  ⟨_,_,_,_,_,_,_,rfl,g4.box27 (B:=w.heap.size) (x:=false) (a:=none) (a':=none) (m:=0) (k:=0) (m':=0) (k':=0) (by simp [*]) (by simp [*]) (by simp [*]) _ _ _,ZC hbw (by omega) _ _ _⟩
set_option maxRecDepth 100000 in
set_option maxHeartbeats 1600000 in
theorem ZeL(w:World){neg:Bool}{a1 a2:Option Addr}{n1 n2 c1 c2:Nat}{l1:List Nat}(l2:List Nat)(h1:LimR w a1 n1 c1 l1)(hn1:n1≤4398046511104):
  Calls Tryz.prog 15 #[.agg #[.bool neg,.slice a1 n1 c1,.slice a2 n2 c2]] w (RetInt (sgR (sv neg l1 l2)) w):=by
 have HS:=Lib.hid (ZiG neg l1 l2)
 have hP := Pro1.mk' w #[.bool neg, .slice a1 n1 c1, .slice a2 n2 c2] 26
 go_enter Tryz.func15, Tryz.ntmps15
 go_upto_region 1 with (fail)
 generalize w.alloc (.cells #[.bool neg, .slice a1 n1 c1, .slice a2 n2 c2] 26) = W at *
 have k00 := hP.b0.cell 0
 have f00 := hP.b0.frozen 0
 have k01 := hP.b0.cell 1
 have f01 := hP.b0.frozen 1
 have k02 := hP.b0.cell 2
 have f02 := hP.b0.frozen 2
 have z0 := hP.b0.lt
 simp at k00 k01 k02
 have hw0 : Below W.heap.size W W.drew := Below.drew (Below.refl _ _)
 have g1:=h1.on hP.below
 go_wp2_with fail
 refine (ZeV _ g1 (by omega)).mono ?_
 rintro e w4 ⟨rfl,hb4⟩
 rw [HS.out]
 go_wp2_with fail
 go_ret
 exact ⟨rfl,hP.below.trans (hb4.mono (by omega))⟩
set_option maxRecDepth 100000 in
set_option maxHeartbeats 3200000 in
theorem Zdy(w:World){s1 s2:Bool}{a1 a2 a3 a4:Option Addr}{n1 n2 n3 n4 c1 c2 c3 c4:Nat}{l1 l2 l3 l4:List Nat}(h1:LimR w a1 n1 c1 l1)(h2:LimR w a2 n2 c2 l2)(h3:LimR w a3 n3 c3 l3)(h4:LimR w a4 n4 c4 l4)(hn1:n1≤17592186044416)(hn2:n2≤17592186044416)(hn3:n3≤17592186044416)(hn4:n4≤17592186044416):
  Calls Tryz.prog 40 #[.agg #[.bool s1,.slice a1 n1 c1,.slice a2 n2 c2],.agg #[.bool s2,.slice a3 n3 c3,.slice a4 n4 c4]] w (RetB (decide (s1=s2∧l1=l3∧l2=l4)) w):=by
 have hP := Pro2.mk' w #[.bool s1, .slice a1 n1 c1, .slice a2 n2 c2] #[.bool s2, .slice a3 n3 c3, .slice a4 n4 c4] 26 26
 go_enter Tryz.func40, Tryz.ntmps40
 go_upto_region 1 with (fail)
 generalize (w.alloc (.cells #[.bool s1, .slice a1 n1 c1, .slice a2 n2 c2] 26)).alloc (.cells #[.bool s2, .slice a3 n3 c3, .slice a4 n4 c4] 26) = W at *
 have k00 := hP.b0.cell 0
 have f00 := hP.b0.frozen 0
 have k01 := hP.b0.cell 1
 have f01 := hP.b0.frozen 1
 have k02 := hP.b0.cell 2
 have f02 := hP.b0.frozen 2
 have z0 := hP.b0.lt
 have k10 := hP.b1.cell 0
 have f10 := hP.b1.frozen 0
 have k11 := hP.b1.cell 1
 have f11 := hP.b1.frozen 1
 have k12 := hP.b1.cell 2
 have f12 := hP.b1.frozen 2
 have z1 := hP.b1.lt
 simp at k00 k01 k02 k10 k11 k12
 have hw0 : Below W.heap.size W W.drew := Below.drew (Below.refl _ _)
 have g1:=h1.on hP.below
 have g2:=h2.on hP.below
 have g3:=h3.on hP.below
 have g4:=h4.on hP.below
 by_cases t1:s1=s2
 ·subst t1
  go_wp2_with fail
  refine (ZeR _ g1 g3 (by omega) (by omega)).mono ?_
  rintro e w1 ⟨rfl,d,rfl⟩
  by_cases t2:l1=l3
  ·have HT2:=Lib.hid t2
   rw [decide_eq_true t2]
   clear t2
   go_wp2_with fail
   refine (ZeR _ (g2.drewN d) (g4.drewN d) (by omega) (by omega)).mono ?_
   rintro e w1 ⟨rfl,d2,rfl⟩
   have HE:Hid (decide (l2=l4)=decide (s1=s1∧l1=l3∧l2=l4)):=decide_eq_decide.2 ⟨fun h=>⟨rfl,HT2.out,h⟩,fun h=>h.2.2⟩
   generalize decide (l2=l4)=b at*
   go_wp2_with fail
   go_ret
   exact Qw HE.out (hP.below.drewN _)
  ·have HE:Hid (false=decide (s1=s1∧l1=l3∧l2=l4)):=(decide_eq_false (fun h=>t2 h.2.1)).symm
   rw [decide_eq_false t2]
   clear t2
   go_wp2_with fail
   go_ret
   exact Qw HE.out (hP.below.drewN d)
 ·have HE:Hid (false=decide (s1=s2∧l1=l3∧l2=l4)):=(decide_eq_false (fun h=>t1 h.1)).symm
  have e1:(s1==s2)=false:=by simpa using t1
  clear t1
  go_wp2_with fail
  go_ret
  exact Qw HE.out hP.below
theorem Zf5(neg:Bool)(N:Nat){D:Nat}(hD:0<D):(lmb (mkRat (sgi neg N) D).num.natAbs).length≤(lmb N).length∧(QX (mkRat (sgi neg N) D).den).length≤(lmb D).length:=by
 rcases Nat.eq_zero_or_pos N with rfl|hN
 ·rw [ZdH]
  have e1:(0:Rat).num.natAbs=0:=rfl
  have e2:(0:Rat).den=1:=rfl
  rw [e1,e2,Zhb]
  exact ⟨Nat.le_refl _,Nat.zero_le _⟩
 ·rw [KE neg hN hD,(Us neg hN hD).2]
  refine ⟨Zw (Nat.div_le_self _ _),?_⟩
  unfold QX
  split
  ·exact Nat.zero_le _
  ·exact Zw (Nat.div_le_self _ _)
set_option maxRecDepth 100000 in
set_option maxHeartbeats 3200000 in
theorem ZhW(w:World){neg:Bool}{a1 a2:Option Addr}{n1 n2 c1 c2:Nat}{l1 l2:List Nat}(h1:LimR w a1 n1 c1 l1)(h2:LimR w a2 n2 c2 l2)(hn1:n1≤1099511627776)(hn2:n2≤1099511627776):
  Calls Tryz.prog 52 #[.agg #[.bool neg,.slice a1 n1 c1,.slice a2 n2 c2]] w (RetB (decide (QY neg l1 l2)) w):=by
 have hP := Pro1.mk' w #[.bool neg, .slice a1 n1 c1, .slice a2 n2 c2] 26
 go_enter Tryz.func52, Tryz.ntmps52
 go_upto_region 1 with (fail)
 generalize w.alloc (.cells #[.bool neg, .slice a1 n1 c1, .slice a2 n2 c2] 26) = W at *
 have k00 := hP.b0.cell 0
 have f00 := hP.b0.frozen 0
 have k01 := hP.b0.cell 1
 have f01 := hP.b0.frozen 1
 have k02 := hP.b0.cell 2
 have f02 := hP.b0.frozen 2
 have z0 := hP.b0.lt
 simp at k00 k01 k02
 have hw0 : Below W.heap.size W W.drew := Below.drew (Below.refl _ _)
 have g1:=h1.on hP.below
 have g2:=h2.on hP.below
 have hlen:∀w' neg4 a4 n4 c4 a5 n5 c5,RatC w' neg4 a4 n4 c4 a5 n5 c5 (sv neg l1 l2)→n4≤1099511627776∧n5≤1099511627777:=by
  intro w' neg4 a4 n4 c4 a5 n5 c5 h
  have e1:=Zf5 neg (val l1) (Yx l2)
  have e2:=Vp h1
  have e3:=Xc h2
  rw [←h.num.len,←h.den.len]
  exact ⟨Nat.le_trans e1.1 (by omega),Nat.le_trans e1.2 (by omega)⟩
 have HLEN:=Lib.hid hlen
 clear hlen
 go_region_held3 (fun w' => w'.cell? ⟨w.heap.size, 0, none⟩ = some (.bool neg) ∧ w'.cell? ⟨w.heap.size, 1, none⟩ = some (.slice a1 n1 c1) ∧ w'.cell? ⟨w.heap.size, 2, none⟩ = some (.slice a2 n2 c2))
  (go_keep)
  (first
   | (go_at_call 56;refine (JN _ (g1.on hw0) (g2.on hw0) (by omega) (by omega)).mono ?_;rintro e w3 ⟨neg4,a4,n4,c4,a5,n5,c5,rfl,g4,hb3'⟩;have hb3:Below W.heap.size W w3:=hw0.trans hb3';obtain ⟨hc3,hf3⟩:=Zy hb3;have HL4:=Lib.hid (HLEN.out _ _ _ _ _ _ _ _ g4))
   | (go_at_call 40;refine (Zdy _ (g1.on hb3) (g2.on hb3) g4.num g4.den (by omega) (by omega) (by have:=HL4.out;omega) (by have:=HL4.out;omega)).mono ?_;rintro e w4 ⟨rfl,hb4'⟩;have hb4:Below W.heap.size W w4:=hb3.trans (hb4'.mono hb3.size);obtain ⟨hc4,hf4⟩:=Zy hb4))
 go_wp2_with fail
 go_ret
 exact Qw (by rw [←Bool.decide_and,←Bool.decide_and];exact decide_eq_decide.2 (by unfold QY;rw [g4.sign.out])) (hP.below.trans (hb4.mono (by omega)))
set_option maxRecDepth 100000 in
set_option maxHeartbeats 6400000 in
theorem ZlY(w:World){s1 s2:Bool}{a1 a2 a3 a4:Option Addr}{n1 n2 n3 n4 c1 c2 c3 c4:Nat}{l1 l2 l3 l4:List Nat}(h1:LimR w a1 n1 c1 l1)(h2:LimR w a2 n2 c2 l2)(h3:LimR w a3 n3 c3 l3)(h4:LimR w a4 n4 c4 l4)(hn1:n1≤549755813888)(hn2:n2≤549755813888)(hn3:n3≤549755813888)(hn4:n4≤549755813888):
  Calls Tryz.prog 39 #[.agg #[.bool s1,.slice a1 n1 c1,.slice a2 n2 c2],.agg #[.bool s2,.slice a3 n3 c3,.slice a4 n4 c4]] w (RetR (sv s1 l1 l2*sv s2 l3 l4) w):=by
 have hP := Pro3.mk' w #[.bool s1, .slice a1 n1 c1, .slice a2 n2 c2] #[.bool s2, .slice a3 n3 c3, .slice a4 n4 c4] #[.bool false, .slice none 0 0, .slice none 0 0] 26 26 26
 go_enter Tryz.func39, Tryz.ntmps39
 go_upto_region 1 with (fail)
 generalize ((w.alloc (.cells #[.bool s1, .slice a1 n1 c1, .slice a2 n2 c2] 26)).alloc (.cells #[.bool s2, .slice a3 n3 c3, .slice a4 n4 c4] 26)).alloc (.cells #[.bool false, .slice none 0 0, .slice none 0 0] 26) = W at *
 have k00 := hP.b0.cell 0
 have f00 := hP.b0.frozen 0
 have k01 := hP.b0.cell 1
 have f01 := hP.b0.frozen 1
 have k02 := hP.b0.cell 2
 have f02 := hP.b0.frozen 2
 have z0 := hP.b0.lt
 have k10 := hP.b1.cell 0
 have f10 := hP.b1.frozen 0
 have k11 := hP.b1.cell 1
 have f11 := hP.b1.frozen 1
 have k12 := hP.b1.cell 2
 have f12 := hP.b1.frozen 2
 have z1 := hP.b1.lt
 have k20 := hP.b2.cell 0
 have f20 := hP.b2.frozen 0
 have k21 := hP.b2.cell 1
 have f21 := hP.b2.frozen 1
 have k22 := hP.b2.cell 2
 have f22 := hP.b2.frozen 2
 have z2 := hP.b2.lt
 simp at k00 k01 k02 k10 k11 k12 k20 k21 k22
 have nb20 : w.heap.size + 1 + 1 ≠ w.heap.size := by omega
 have hw0 : Below W.heap.size W W.drew := Below.drew (Below.refl _ _)
 have g1:=h1.on hP.below
 have g2:=h2.on hP.below
 have g3:=h3.on hP.below
 have g4:=h4.on hP.below
 go_region_held3 (fun w' => w'.cell? ⟨w.heap.size, 0, none⟩ = some (.bool s1) ∧ w'.cell? ⟨w.heap.size, 1, none⟩ = some (.slice a1 n1 c1) ∧ w'.cell? ⟨w.heap.size, 2, none⟩ = some (.slice a2 n2 c2) ∧ w'.cell? ⟨w.heap.size + 1, 0, none⟩ = some (.bool s2) ∧ w'.cell? ⟨w.heap.size + 1, 1, none⟩ = some (.slice a3 n3 c3) ∧ w'.cell? ⟨w.heap.size + 1, 2, none⟩ = some (.slice a4 n4 c4))
  (go_keep)
  (first
   | (go_at_call_of 54 (Value.slice a1 n1 c1);refine (WU _ (g1.on hw0) (g3.on hw0) (by omega) (by omega)).mono ?_;rintro e w5 ⟨a5,n5,c5,rfl,g5,hb5'⟩;have hb5:Below W.heap.size W w5:=hw0.trans hb5';obtain ⟨hc5,hf5⟩:=Zy hb5)
   | (go_at_call_of 55 (Value.slice a2 n2 c2);refine (Xr _ (g2.on hb5) (by omega)).mono ?_;rintro e w6 ⟨a6,n6,c6,rfl,g6,hb6'⟩;have hn6:n6≤n2+1:=(by have h9:=Xc h2;rw [g6.len] at h9;exact h9);have hb6:Below W.heap.size W w6:=hb5.trans (hb6'.mono hb5.size);obtain ⟨hc6,hf6⟩:=Zy hb6)
   | (go_at_call_of 55 (Value.slice a4 n4 c4);refine (Xr _ (g4.on hb6) (by omega)).mono ?_;rintro e w7 ⟨a7,n7,c7,rfl,g7,hb7'⟩;have hn7:n7≤n4+1:=(by have h9:=Xc h4;rw [g7.len] at h9;exact h9);have hb7:Below W.heap.size W w7:=hb6.trans (hb7'.mono hb6.size);obtain ⟨hc7,hf7⟩:=Zy hb7)
   | (go_at_call_of 54 (Value.slice a7 n7 c7);refine (WU _ (g6.on hb7') g7 (by omega) (by omega)).mono ?_;rintro e w8 ⟨a8,n8,c8,rfl,g8,hb8'⟩;have hb8:Below W.heap.size W w8:=hb7.trans (hb8'.mono hb7.size);obtain ⟨hc8,hf8⟩:=Zy hb8)
   | (go_at_call 53;refine (Uh _ ((g5.on hb6').on (hb7'.trans (hb8'.mono hb7'.size))) g8 (by have h9:=XS h1 h3;rw [g5.len] at h9;omega) (by have h9:=XS g6 g7;rw [g8.len] at h9;omega) (by rw [Zg,Zg,Zg];exact Nat.mul_pos (Yx _) (Yx _))).mono ?_;rintro e w9 ⟨neg9,a9,n9,c9,a10,n10,c10,rfl,g9,hb9'⟩;have hb9:Below W.heap.size W w9:=hb8.trans (hb9'.mono hb8.size);obtain ⟨hc9,hf9⟩:=Zy hb9))
 go_wp2_with fail
 have g10:RatC w9 neg9 a9 n9 c9 a10 n10 c10 (sv s1 l1 l2*sv s2 l3 l4):=by
  rw [Zg,Zg,Zg,Zg] at g9
  unfold sv
  rw [←Zjn]
  exact g9
 exact bodyPost_ret (v:=.agg #[.bool neg9,.slice a9 n9 c9,.slice a10 n10 c10]) (by simp [results, Tryz.results39,go_sem, *]) rfl
  ⟨_,_,_,_,_,_,_,rfl,g10.box27 (B:=w.heap.size+1+1) (x:=false) (a:=none) (a':=none) (m:=0) (k:=0) (m':=0) (k':=0) (by simp [*]) (by simp [*]) (by simp [*]) _ _ _,ZC (hP.below.trans (hb9.mono (by omega))) (by omega) _ _ _⟩
structure XBox (W wx:World) (B:Nat) (s:Bool) (a:Option Addr) (n c k:Nat):Prop where
 blk:Blk wx B 74 #[.bool s,.slice a n c]
 lim:LimR wx a n c (lmb k)
 old:W.heap.size≤B
 below:Below W.heap.size W wx
theorem XBox.set{W wx:World}{B:Nat}{s:Bool}{a:Option Addr}{n c k:Nat}(hB:Blk wx B 74 #[.bool false,.slice none 0 0])(hl:LimR wx a n c (lmb k))(ho:W.heap.size≤B)(hb:Below W.heap.size W wx):
  XBox W ((wx.setCell ⟨B,0,none⟩ (.bool s)).setCell ⟨B,1,none⟩ (.slice a n c)) B s a n c k:=by
 refine ⟨by simpa using (hB.set_ 0 (.bool s)).set_ 1 (.slice a n c),hl.box64 (B:=B) (x:=false) (a:=none) (m:=0) (k:=0) ?_ ?_ _ _,ho,ZV hb ho _ _⟩
 ·simpa using hB.cell 0
 ·simpa using hB.cell 1
theorem ZgK(s:Bool)(l:List Nat)(d:Nat):iv s (lmb (val l*d))=iv s l*d:=by unfold iv;rw [Zg];cases s <;>simp [Int.neg_mul]
theorem XBox.len{W wx:World}{B:Nat}{s:Bool}{a:Option Addr}{n c k:Nat}(h:XBox W wx B s a n c k):(lmb (iv s (lmb k)).natAbs).length=n:=by
 have:(iv s (lmb k)).natAbs=k:=by unfold iv;rw [Zg];cases s <;>simp [Int.neg_mul]
 rw [this];exact h.lim.len
theorem XBox.new{W w6:World}{s:Bool}{a:Option Addr}{n c k:Nat}(hl:LimR w6 a n c (lmb k))(hb:Below W.heap.size W w6):
  XBox W (w6.alloc (.cells #[.bool s,.slice a n c] 74)) w6.heap.size s a n c k:=
 ⟨Blk.new _ _ _,hl.on ((Below.refl _ _).alloc (Nat.le_refl _) _),hb.size,hb.alloc hb.size _⟩
set_option maxRecDepth 100000 in
set_option maxHeartbeats 12800000 in
theorem Zef(w:World){s1 s2:Bool}{a1 a2 a3 a4:Option Addr}{n1 n2 n3 n4 c1 c2 c3 c4:Nat}{l1 l2 l3 l4:List Nat}(h1:LimR w a1 n1 c1 l1)(h2:LimR w a2 n2 c2 l2)(h3:LimR w a3 n3 c3 l3)(h4:LimR w a4 n4 c4 l4)(hn1:n1≤549755813888)(hn2:n2≤549755813888)(hn3:n3≤549755813888)(hn4:n4≤549755813888):
  Calls Tryz.prog 38 #[.agg #[.bool s1,.slice a1 n1 c1,.slice a2 n2 c2],.agg #[.bool s2,.slice a3 n3 c3,.slice a4 n4 c4]] w (RetR (sv s1 l1 l2+sv s2 l3 l4) w):=by
 have hP := Pro3.mk' w #[.bool s1, .slice a1 n1 c1, .slice a2 n2 c2] #[.bool s2, .slice a3 n3 c3, .slice a4 n4 c4] #[.bool false, .slice none 0 0, .slice none 0 0] 26 26 26
 go_enter Tryz.func38, Tryz.ntmps38
 go_upto_region 1 with (fail)
 generalize ((w.alloc (.cells #[.bool s1, .slice a1 n1 c1, .slice a2 n2 c2] 26)).alloc (.cells #[.bool s2, .slice a3 n3 c3, .slice a4 n4 c4] 26)).alloc (.cells #[.bool false, .slice none 0 0, .slice none 0 0] 26) = W at *
 have k00 := hP.b0.cell 0
 have f00 := hP.b0.frozen 0
 have k01 := hP.b0.cell 1
 have f01 := hP.b0.frozen 1
 have k02 := hP.b0.cell 2
 have f02 := hP.b0.frozen 2
 have z0 := hP.b0.lt
 have k10 := hP.b1.cell 0
 have f10 := hP.b1.frozen 0
 have k11 := hP.b1.cell 1
 have f11 := hP.b1.frozen 1
 have k12 := hP.b1.cell 2
 have f12 := hP.b1.frozen 2
 have z1 := hP.b1.lt
 have k20 := hP.b2.cell 0
 have f20 := hP.b2.frozen 0
 have k21 := hP.b2.cell 1
 have f21 := hP.b2.frozen 1
 have k22 := hP.b2.cell 2
 have f22 := hP.b2.frozen 2
 have z2 := hP.b2.lt
 simp at k00 k01 k02 k10 k11 k12 k20 k21 k22
 have nb20 : w.heap.size + 1 + 1 ≠ w.heap.size := by omega
 have hw0 : Below W.heap.size W W.drew := Below.drew (Below.refl _ _)
 have g1:=h1.on hP.below
 have g2:=h2.on hP.below
 have g3:=h3.on hP.below
 have g4:=h4.on hP.below
 have hPb:=hP.below
 have HPS:=Lib.hid hP.size
 clear hP
 have hqW:Blk (W.alloc (.cells #[.bool false,.slice none 0 0] 74)).drew W.heap.size 74 #[.bool false,.slice none 0 0]:=Blk.new W _ _
 have hwW:Below W.heap.size W W.drew:=Below.drew (Below.refl _ _)
 have huW:Below W.heap.size W (W.alloc (.cells #[.bool false,.slice none 0 0] 74)).drew:=Below.drew ((Below.refl _ _).alloc (Nat.le_refl _) _)
 have eW0:w.heap.size≠W.heap.size:=(by omega)
 have eW0':=Ne.symm eW0
 have eW1:w.heap.size+1≠W.heap.size:=(by omega)
 have eW1':=Ne.symm eW1
 have eW2:w.heap.size+1+1≠W.heap.size:=(by omega)
 have eW2':=Ne.symm eW2
 go_cut [5] (fun s5 wx=>∃U B a6 n6 c6,s5=.pointer (some ⟨B,0,none⟩)∧XBox W U B s1 a6 n6 c6 (val l1*dn l4)∧n6≤n1+n4+1∧U=wx)
 case first=>
  go_region_held3 (fun w'=>w'.cell? ⟨w.heap.size,0,none⟩=some (.bool s1)∧w'.cell? ⟨w.heap.size,1,none⟩=some (.slice a1 n1 c1)∧w'.cell? ⟨w.heap.size,2,none⟩=some (.slice a2 n2 c2)∧w'.cell? ⟨w.heap.size+1,0,none⟩=some (.bool s2)∧w'.cell? ⟨w.heap.size+1,1,none⟩=some (.slice a3 n3 c3)∧w'.cell? ⟨w.heap.size+1,2,none⟩=some (.slice a4 n4 c4))
   (go_keep)
   (first
    | (go_at_call 55;refine (Xr W.drew (g4.on hwW) (by omega)).mono ?_;rintro e w5 ⟨a5,n5,c5,rfl,g5,hb5'⟩;have hn5:n5≤n4+1:=(by have h9:=Xc h4;rw [g5.len] at h9;exact h9);have hb5:Below W.heap.size W w5:=hwW.trans hb5';obtain ⟨hc5,hf5⟩:=Zy hb5;have hQ5:=Pro1.mk' w5 #[.bool false,.slice none 0 0] 74;have ew50:w.heap.size≠w5.heap.size:=(by have:=hb5.size;omega);have ew50':=Ne.symm ew50;have ew51:w.heap.size+1≠w5.heap.size:=(by have:=hb5.size;omega);have ew51':=Ne.symm ew51;have ew52:w.heap.size+1+1≠w5.heap.size:=(by have:=hb5.size;omega);have ew52':=Ne.symm ew52)
    | (go_at_call 55;generalize (W.alloc (.cells #[.bool false,.slice none 0 0] 74)).drew=U5 at*;refine (Xr U5 (g4.on huW) (by omega)).mono ?_;rintro e w5 ⟨a5,n5,c5,rfl,g5,hb5'⟩;have hn5:n5≤n4+1:=(by have h9:=Xc h4;rw [g5.len] at h9;exact h9);have hb5:Below W.heap.size W w5:=huW.trans (hb5'.mono huW.size);obtain ⟨hc5,hf5⟩:=Zy hb5;have hBX:=hqW.on hb5')
    | (go_at_call 54;refine (WU w5 (g1.on hb5) g5 (by omega) (by omega)).mono ?_;rintro e w6 ⟨a6,n6,c6,rfl,g6,hb6'⟩;have hn6:n6≤n1+n4+1:=(by have h9:=XS (g1.on hb5) g5;rw [g6.len] at h9;omega);have hb6:Below W.heap.size W w6:=hb5.trans (hb6'.mono hb5.size);obtain ⟨hc6,hf6⟩:=Zy hb6;have ew60:w.heap.size≠w6.heap.size:=(by have:=hb6.size;omega);have ew60':=Ne.symm ew60;have ew61:w.heap.size+1≠w6.heap.size:=(by have:=hb6.size;omega);have ew61':=Ne.symm ew61;have ew62:w.heap.size+1+1≠w6.heap.size:=(by have:=hb6.size;omega);have ew62':=Ne.symm ew62;try (have hB6:=hBX.on hb6';have y0:=hB6.cell 0;have y1:=hB6.cell 1;have y2:=hB6.frozen 0;have y3:=hB6.frozen 1;have y4:=hB6.lt;simp at y0 y1))
    | (go_at_call 54;generalize w5.alloc (.cells #[.bool false,.slice none 0 0] 74)=U6 at*;have hbU6:Below W.heap.size W U6:=hb5.trans (hQ5.below.mono hb5.size);refine (WU U6 (g1.on hbU6) (g5.on hQ5.below) (by omega) (by omega)).mono ?_;rintro e w6 ⟨a6,n6,c6,rfl,g6,hb6'⟩;have hn6:n6≤n1+n4+1:=(by have h9:=XS (g1.on hbU6) (g5.on hQ5.below);rw [g6.len] at h9;omega);have hb6:Below W.heap.size W w6:=hbU6.trans (hb6'.mono hbU6.size);obtain ⟨hc6,hf6⟩:=Zy hb6;have hB6:=hQ5.b0.on hb6';have y0:=hB6.cell 0;have y1:=hB6.cell 1;have y2:=hB6.frozen 0;have y3:=hB6.frozen 1;have y4:=hB6.lt;simp at y0 y1))
  all_goals
   rw [Zg] at g6
   go_wp2_with fail
   go_meet
   first
    | exact ⟨_,_,_,_,_,rfl,XBox.new g6 hb6,hn6,rfl⟩
    | exact ⟨_,_,_,_,_,rfl,XBox.set hB6 g6 (by first|exact hb5.size|exact Nat.le_refl _) hb6,hn6,rfl⟩
 case rest=>
 obtain ⟨V,BX,a6,n6,c6,rfl,hX,hn6,rfl⟩:=hcut
 have hbV:Below W.heap.size W V:=hX.below
 obtain ⟨hcV,hfV⟩:=Zy hbV
 have hsV:=hbV.size
 have zV0:w.heap.size<V.heap.size:=Nat.lt_of_lt_of_le z0 hbV.size
 have zV1:w.heap.size+1<V.heap.size:=Nat.lt_of_lt_of_le z1 hbV.size
 have zV2:w.heap.size+1+1<V.heap.size:=Nat.lt_of_lt_of_le z2 hbV.size
 have v1:=g1.on hbV
 have v2:=g2.on hbV
 have v3:=g3.on hbV
 have v4:=g4.on hbV
 go_upto_region 2 with (fail)
 have hqV:Blk (V.alloc (.cells #[.bool false,.slice none 0 0] 74)).drew V.heap.size 74 #[.bool false,.slice none 0 0]:=Blk.new V _ _
 have hwV:Below V.heap.size V V.drew:=Below.drew (Below.refl _ _)
 have huV:Below V.heap.size V (V.alloc (.cells #[.bool false,.slice none 0 0] 74)).drew:=Below.drew ((Below.refl _ _).alloc (Nat.le_refl _) _)
 have eV0:w.heap.size≠V.heap.size:=(by omega)
 have eV0':=Ne.symm eV0
 have eV1:w.heap.size+1≠V.heap.size:=(by omega)
 have eV1':=Ne.symm eV1
 have eV2:w.heap.size+1+1≠V.heap.size:=(by omega)
 have eV2':=Ne.symm eV2
 go_cut [6] (fun s5 wx=>∃U B a6 n6 c6,s5=.pointer (some ⟨B,0,none⟩)∧XBox V U B s2 a6 n6 c6 (val l3*dn l2)∧n6≤n3+n2+1∧U=wx)
 case first=>
  go_region_held3 (fun w'=>w'.cell? ⟨w.heap.size,0,none⟩=some (.bool s1)∧w'.cell? ⟨w.heap.size,1,none⟩=some (.slice a1 n1 c1)∧w'.cell? ⟨w.heap.size,2,none⟩=some (.slice a2 n2 c2)∧w'.cell? ⟨w.heap.size+1,0,none⟩=some (.bool s2)∧w'.cell? ⟨w.heap.size+1,1,none⟩=some (.slice a3 n3 c3)∧w'.cell? ⟨w.heap.size+1,2,none⟩=some (.slice a4 n4 c4))
   (go_keep)
   (first
    | (go_at_call 55;refine (Xr V.drew (v2.on hwV) (by omega)).mono ?_;rintro e w5 ⟨a5,n5,c5,rfl,g5,hb5'⟩;have hn5:n5≤n2+1:=(by have h9:=Xc h2;rw [g5.len] at h9;exact h9);have hb5:Below V.heap.size V w5:=hwV.trans hb5';obtain ⟨hc5,hf5⟩:=Zy hb5;have hQ5:=Pro1.mk' w5 #[.bool false,.slice none 0 0] 74;have ew50:w.heap.size≠w5.heap.size:=(by have:=hb5.size;omega);have ew50':=Ne.symm ew50;have ew51:w.heap.size+1≠w5.heap.size:=(by have:=hb5.size;omega);have ew51':=Ne.symm ew51;have ew52:w.heap.size+1+1≠w5.heap.size:=(by have:=hb5.size;omega);have ew52':=Ne.symm ew52)
    | (go_at_call 55;generalize (V.alloc (.cells #[.bool false,.slice none 0 0] 74)).drew=U5 at*;refine (Xr U5 (v2.on huV) (by omega)).mono ?_;rintro e w5 ⟨a5,n5,c5,rfl,g5,hb5'⟩;have hn5:n5≤n2+1:=(by have h9:=Xc h2;rw [g5.len] at h9;exact h9);have hb5:Below V.heap.size V w5:=huV.trans (hb5'.mono huV.size);obtain ⟨hc5,hf5⟩:=Zy hb5;have hBX:=hqV.on hb5')
    | (go_at_call 54;refine (WU w5 (v3.on hb5) g5 (by omega) (by omega)).mono ?_;rintro e w6 ⟨a6,n6,c6,rfl,g6,hb6'⟩;have hn6:n6≤n3+n2+1:=(by have h9:=XS (v3.on hb5) g5;rw [g6.len] at h9;omega);have hb6:Below V.heap.size V w6:=hb5.trans (hb6'.mono hb5.size);obtain ⟨hc6,hf6⟩:=Zy hb6;have ew60:w.heap.size≠w6.heap.size:=(by have:=hb6.size;omega);have ew60':=Ne.symm ew60;have ew61:w.heap.size+1≠w6.heap.size:=(by have:=hb6.size;omega);have ew61':=Ne.symm ew61;have ew62:w.heap.size+1+1≠w6.heap.size:=(by have:=hb6.size;omega);have ew62':=Ne.symm ew62;try (have hB6:=hBX.on hb6';have y0:=hB6.cell 0;have y1:=hB6.cell 1;have y2:=hB6.frozen 0;have y3:=hB6.frozen 1;have y4:=hB6.lt;simp at y0 y1))
    | (go_at_call 54;generalize w5.alloc (.cells #[.bool false,.slice none 0 0] 74)=U6 at*;have hbU6:Below V.heap.size V U6:=hb5.trans (hQ5.below.mono hb5.size);refine (WU U6 (v3.on hbU6) (g5.on hQ5.below) (by omega) (by omega)).mono ?_;rintro e w6 ⟨a6,n6,c6,rfl,g6,hb6'⟩;have hn6:n6≤n3+n2+1:=(by have h9:=XS (v3.on hbU6) (g5.on hQ5.below);rw [g6.len] at h9;omega);have hb6:Below V.heap.size V w6:=hbU6.trans (hb6'.mono hbU6.size);obtain ⟨hc6,hf6⟩:=Zy hb6;have hB6:=hQ5.b0.on hb6';have y0:=hB6.cell 0;have y1:=hB6.cell 1;have y2:=hB6.frozen 0;have y3:=hB6.frozen 1;have y4:=hB6.lt;simp at y0 y1))
  all_goals
   rw [Zg] at g6
   go_wp2_with fail
   go_meet
   first
    | exact ⟨_,_,_,_,_,rfl,XBox.new g6 hb6,hn6,rfl⟩
    | exact ⟨_,_,_,_,_,rfl,XBox.set hB6 g6 (by first|exact hb5.size|exact Nat.le_refl _) hb6,hn6,rfl⟩
 case rest=>
  obtain ⟨Y,BY,a9,n9,c9,rfl,hY,hn9,rfl⟩:=hcut
  have hbY:Below W.heap.size W Y:=hbV.trans (hY.below.mono hbV.size)
  obtain ⟨hcY,hfY⟩:=Zy hbY
  have hX7:=hX.blk.on hY.below
  have x0:=hX7.cell 0
  have x1:=hX7.cell 1
  have y0:=hY.blk.cell 0
  have y1:=hY.blk.cell 1
  simp at x0 x1 y0 y1
  go_upto_region 3 with (fail)
  go_wp2_with fail
  refine (Zpy Y (hX.lim.on hY.below) hY.lim (by omega) (by omega)).mono ?_
  rintro e w7 ⟨s7,a7,n7,c7,rfl,g7,hb7'⟩
  have hb7:Below W.heap.size W w7:=hbY.trans (hb7'.mono hbY.size)
  have hn7:n7≤4398046511104:=by
   have h9:=Zj9 g7
   rw [hX.len,hY.len] at h9
   omega
  rw [ZgK,ZgK] at g7
  clear hb7' hcY hfY hX7 x0 x1 y0 y1 hY hbY hX hcV hfV hbV hsV v1 v2 v3 v4 hqV hwV huV eV0 eV0' eV1 eV1' eV2 eV2' eW0 eW0' eW1 eW1' eW2 eW2' zV0 zV1 zV2 hwW huW hqW
  go_upto_region 4 with (fail)
  have hQ:=Pro1.mk' w7 #[.bool s7,.slice a7 n7 c7] 74
  generalize w7.alloc (.cells #[.bool s7,.slice a7 n7 c7] 74)=U at*
  have hbU:Below W.heap.size W U:=hb7.trans (hQ.below.mono hb7.size)
  obtain ⟨hcU,hfU⟩:=Zy hbU
  have u00:=hQ.b0.cell 0
  have u01:=hQ.b0.cell 1
  have hzU:=hQ.b0.lt
  have zU0:w.heap.size<U.heap.size:=Nat.lt_of_lt_of_le z0 hbU.size
  have zU1:w.heap.size+1<U.heap.size:=Nat.lt_of_lt_of_le z1 hbU.size
  have zU2:w.heap.size+1+1<U.heap.size:=Nat.lt_of_lt_of_le z2 hbU.size
  have nbU:w.heap.size+1+1<w7.heap.size:=Nat.lt_of_lt_of_le z2 hb7.size
  have nbU2:w.heap.size+1+1≠w7.heap.size:=by omega
  have h7U:=Lib.hid g7.val_
  have g7':=g7.on hQ.below
  simp at u00 u01
  have hx0:Below U.heap.size U U.drew:=Below.drew (Below.refl _ _)
  clear hb7 hQ g7
  go_region_held3 (fun w'=>w'.cell? ⟨w.heap.size,0,none⟩=some (.bool s1)∧w'.cell? ⟨w.heap.size,1,none⟩=some (.slice a1 n1 c1)∧w'.cell? ⟨w.heap.size,2,none⟩=some (.slice a2 n2 c2)∧w'.cell? ⟨w.heap.size+1,0,none⟩=some (.bool s2)∧w'.cell? ⟨w.heap.size+1,1,none⟩=some (.slice a3 n3 c3)∧w'.cell? ⟨w.heap.size+1,2,none⟩=some (.slice a4 n4 c4)∧w'.cell? ⟨w7.heap.size,0,none⟩=some (.bool s7)∧w'.cell? ⟨w7.heap.size,1,none⟩=some (.slice a7 n7 c7))
   (go_keep)
   (first
    | (go_at_call_of 55 (Value.slice a2 n2 c2);refine (Xr _ ((g2.on hbU).on hx0) (by omega)).mono ?_;rintro e w8 ⟨a8,n8,c8,rfl,g8,hb8'⟩;have hn8:n8≤n2+1:=(by have h9:=Xc h2;rw [g8.len] at h9;exact h9);have hb8:Below U.heap.size U w8:=hx0.trans (hb8'.mono hx0.size);obtain ⟨hc8,hf8⟩:=Zy hb8)
    | (go_at_call_of 55 (Value.slice a4 n4 c4);refine (Xr _ ((g4.on hbU).on hb8) (by omega)).mono ?_;rintro e w9 ⟨a9,n9,c9,rfl,g9,hb9'⟩;have hn9:n9≤n4+1:=(by have h9:=Xc h4;rw [g9.len] at h9;exact h9);have hb9:Below U.heap.size U w9:=hb8.trans (hb9'.mono hb8.size);obtain ⟨hc9,hf9⟩:=Zy hb9)
    | (go_at_call_of 54 (Value.slice a9 n9 c9);refine (WU _ (g8.on hb9') g9 (by omega) (by omega)).mono ?_;rintro e w10 ⟨a10,n10,c10,rfl,g10,hb10'⟩;have hb10:Below U.heap.size U w10:=hb9.trans (hb10'.mono hb9.size);obtain ⟨hc10,hf10⟩:=Zy hb10)
    | (go_at_call 53;refine (Uh _ (g7'.mag.on hb10) g10 (by omega) (by have h9:=XS g8 g9;rw [g10.len] at h9;omega) (by rw [Zg,Zg,Zg];exact Nat.mul_pos (Yx _) (Yx _))).mono ?_;rintro e w11 ⟨neg11,a11,n11,c11,a12,n12,c12,rfl,g11,hb11'⟩;have hb11:Below U.heap.size U w11:=hb10.trans (hb11'.mono hb10.size);obtain ⟨hc11,hf11⟩:=Zy hb11))
  go_wp2_with fail
  have g12:RatC w11 neg11 a11 n11 c11 a12 n12 c12 (sv s1 l1 l2+sv s2 l3 l4):=by
   have e:sgi s7 (val (lmb (iv s1 l1*(dn l4:Int)+iv s2 l3*(dn l2:Int)).natAbs))=iv s1 l1*(dn l4:Int)+iv s2 l3*(dn l2:Int):=h7U.out
   rw [e,Zg,Zg,Zg,ZaI _ _ (Yx _) (Yx _)] at g11
   exact g11
  exact bodyPost_ret (v:=.agg #[.bool neg11,.slice a11 n11 c11,.slice a12 n12 c12]) (by simp [results, Tryz.results38,go_sem, *]) rfl
   ⟨_,_,_,_,_,_,_,rfl,g12.box27 (B:=w.heap.size+1+1) (x:=false) (a:=none) (a':=none) (m:=0) (k:=0) (m':=0) (k':=0) (by simp [*]) (by simp [*]) (by simp [*]) _ _ _,ZC ((hPb.trans (hbU.mono (by omega))).trans (hb11.mono (by have:=hbU.size;omega))) (by omega) _ _ _⟩
theorem Zkv{d:Nat}(h:0<d):dn (QX d)=d:=by
 unfold dn QX
 split
 ·rename_i e;rw [if_pos (show val []=0 from rfl),e]
 ·rw [Zg,if_neg (by omega)]
theorem RatC.sv_{w:World}{neg:Bool}{a1 a2:Option Addr}{n1 c1 n2 c2:Nat}{q:Rat}(h:RatC w neg a1 n1 c1 a2 n2 c2 q):sv neg (lmb q.num.natAbs) (QX q.den)=q:=by
 unfold sv
 rw [Zkv q.den_pos,Zg,h.sign.out]
 exact Zp7 q
theorem Zfd{w w':World}{neg s:Bool}{a1 a2 a3 a4:Option Addr}{n1 c1 n2 c2 n3 n4 c3 c4:Nat}{l3 l4:List Nat}(h:RatC w neg a1 n1 c1 a2 n2 c2 (-(sv s l3 l4)))(h3:LimR w' a3 n3 c3 l3)(h4:LimR w' a4 n4 c4 l4):n1≤n3∧n2≤n4+1:=by
 have e1:=Zf5 s (val l3) (Yx l4)
 have e2:=Vp h3
 have e3:=Xc h4
 have h5:=h.num.len
 have h6:=h.den.len
 rw [Rat.neg_num,Int.natAbs_neg] at h5
 rw [Rat.neg_den] at h6
 unfold sv at h5 h6
 omega
set_option maxRecDepth 100000 in
set_option maxHeartbeats 6400000 in
theorem ZeJ(w:World){s1 s2:Bool}{a1 a2 a3 a4:Option Addr}{n1 n2 n3 n4 c1 c2 c3 c4:Nat}{l1 l2 l3 l4:List Nat}(h1:LimR w a1 n1 c1 l1)(h2:LimR w a2 n2 c2 l2)(h3:LimR w a3 n3 c3 l3)(h4:LimR w a4 n4 c4 l4)(hn1:n1≤274877906944)(hn2:n2≤274877906944)(hn3:n3≤274877906944)(hn4:n4≤274877906944):
  Calls Tryz.prog 57 #[.agg #[.bool s1,.slice a1 n1 c1,.slice a2 n2 c2],.agg #[.bool s2,.slice a3 n3 c3,.slice a4 n4 c4]] w (RetR (sv s1 l1 l2-sv s2 l3 l4) w):=by
 have hP := Pro3.mk' w #[.bool s1, .slice a1 n1 c1, .slice a2 n2 c2] #[.bool s2, .slice a3 n3 c3, .slice a4 n4 c4] #[.bool false, .slice none 0 0, .slice none 0 0] 26 26 26
 go_enter Tryz.func57, Tryz.ntmps57
 go_upto_region 1 with (fail)
 generalize ((w.alloc (.cells #[.bool s1, .slice a1 n1 c1, .slice a2 n2 c2] 26)).alloc (.cells #[.bool s2, .slice a3 n3 c3, .slice a4 n4 c4] 26)).alloc (.cells #[.bool false, .slice none 0 0, .slice none 0 0] 26) = W at *
 have k00 := hP.b0.cell 0
 have f00 := hP.b0.frozen 0
 have k01 := hP.b0.cell 1
 have f01 := hP.b0.frozen 1
 have k02 := hP.b0.cell 2
 have f02 := hP.b0.frozen 2
 have z0 := hP.b0.lt
 have k10 := hP.b1.cell 0
 have f10 := hP.b1.frozen 0
 have k11 := hP.b1.cell 1
 have f11 := hP.b1.frozen 1
 have k12 := hP.b1.cell 2
 have f12 := hP.b1.frozen 2
 have z1 := hP.b1.lt
 have k20 := hP.b2.cell 0
 have f20 := hP.b2.frozen 0
 have k21 := hP.b2.cell 1
 have f21 := hP.b2.frozen 1
 have k22 := hP.b2.cell 2
 have f22 := hP.b2.frozen 2
 have z2 := hP.b2.lt
 simp at k00 k01 k02 k10 k11 k12 k20 k21 k22
 have nb20 : w.heap.size + 1 + 1 ≠ w.heap.size := by omega
 have hw0 : Below W.heap.size W W.drew := Below.drew (Below.refl _ _)
 have g1:=h1.on hP.below
 have g2:=h2.on hP.below
 have g3:=h3.on hP.below
 have g4:=h4.on hP.below
 have hPb:=hP.below
 have HPS:=Lib.hid hP.size
 clear hP
 go_region_held3 (fun w' => w'.cell? ⟨w.heap.size, 0, none⟩ = some (.bool s1) ∧ w'.cell? ⟨w.heap.size, 1, none⟩ = some (.slice a1 n1 c1) ∧ w'.cell? ⟨w.heap.size, 2, none⟩ = some (.slice a2 n2 c2) ∧ w'.cell? ⟨w.heap.size + 1, 0, none⟩ = some (.bool s2) ∧ w'.cell? ⟨w.heap.size + 1, 1, none⟩ = some (.slice a3 n3 c3) ∧ w'.cell? ⟨w.heap.size + 1, 2, none⟩ = some (.slice a4 n4 c4))
  (go_keep)
  (first
   | (go_at_call 24;refine (ZhL _ (g3.on hw0) (g4.on hw0) (by omega) (by omega)).mono ?_;rintro e w5 ⟨s5,a5,n5,c5,a6,n6,c6,rfl,g5,hb5'⟩;have hb5:Below W.heap.size W w5:=hw0.trans hb5';obtain ⟨hc5,hf5⟩:=Zy hb5;have hl5:=Zfd g5 h3 h4)
   | (go_at_call 38;refine (Zef _ (g1.on hb5) (g2.on hb5) g5.num g5.den (by omega) (by omega) (by omega) (by omega)).mono ?_;rintro e w7 ⟨s7,a7,n7,c7,a8,n8,c8,rfl,g7,hb7'⟩;have hb7:Below W.heap.size W w7:=hb5.trans (hb7'.mono hb5.size);obtain ⟨hc7,hf7⟩:=Zy hb7))
 go_wp2_with fail
 rw [g5.sv_,←Rat.sub_eq_add_neg] at g7
 exact bodyPost_ret (v:=.agg #[.bool s7,.slice a7 n7 c7,.slice a8 n8 c8]) (by simp [results, Tryz.results57,go_sem, *]) rfl
  ⟨_,_,_,_,_,_,_,rfl,g7.box27 (B:=w.heap.size+1+1) (x:=false) (a:=none) (a':=none) (m:=0) (k:=0) (m':=0) (k':=0) (by simp [*]) (by simp [*]) (by simp [*]) _ _ _,ZC (hPb.trans (hb7.mono (by have:=HPS.out;omega))) (by omega) _ _ _⟩
theorem Zf4{w w':World}{neg s1 s2:Bool}{a a' a1 a2 a3 a4:Option Addr}{n c n' c' n1 n2 n3 n4 c1 c2 c3 c4:Nat}{l1 l2 l3 l4:List Nat}(h:RatC w neg a n c a' n' c' (sv s1 l1 l2+sv s2 l3 l4))(h1:LimR w' a1 n1 c1 l1)(h2:LimR w' a2 n2 c2 l2)(h3:LimR w' a3 n3 c3 l3)(h4:LimR w' a4 n4 c4 l4):n≤n1+n2+n3+n4+3∧n'≤n2+n4+2:=by
 unfold sv at h
 rw [←ZaI _ _ (Yx _) (Yx _)] at h
 have e0:=Zoy (sgi s1 (val l1)*(dn l4:Int)+sgi s2 (val l3)*(dn l2:Int))
 rw [←e0] at h
 have e1:=Zf5 (decide (sgi s1 (val l1)*(dn l4:Int)+sgi s2 (val l3)*(dn l2:Int)<0)) (sgi s1 (val l1)*(dn l4:Int)+sgi s2 (val l3)*(dn l2:Int)).natAbs (Nat.mul_pos (Yx l2) (Yx l4))
 rw [h.num.len,h.den.len] at e1
 have e2:=Zw (Int.natAbs_add_le (sgi s1 (val l1)*(dn l4:Int)) (sgi s2 (val l3)*(dn l2:Int)))
 rw [Int.natAbs_mul,Int.natAbs_mul,QD,QD,Int.natAbs_natCast,Int.natAbs_natCast] at e2
 have e3:=VT (val l1*dn l4) (val l3*dn l2)
 have e4:=YB (val l1) (dn l4)
 have e5:=YB (val l3) (dn l2)
 have e6:=YB (dn l2) (dn l4)
 have b1:=Vp h1
 have b2:=Xc h2
 have b3:=Vp h3
 have b4:=Xc h4
 omega
theorem Zfg{w w':World}{neg s1 s2:Bool}{a a' a1 a2 a3 a4:Option Addr}{n c n' c' n1 n2 n3 n4 c1 c2 c3 c4:Nat}{l1 l2 l3 l4:List Nat}(h:RatC w neg a n c a' n' c' (sv s1 l1 l2-sv s2 l3 l4))(h1:LimR w' a1 n1 c1 l1)(h2:LimR w' a2 n2 c2 l2)(h3:LimR w' a3 n3 c3 l3)(h4:LimR w' a4 n4 c4 l4):n≤n1+n2+n3+n4+3∧n'≤n2+n4+2:=by
 have e:-(sv s2 l3 l4)=sv (!s2) l3 l4:=by unfold sv;rw [Zcs]
 rw [Rat.sub_eq_add_neg,e] at h
 exact Zf4 h h1 h2 h3 h4
set_option maxRecDepth 100000 in
set_option maxHeartbeats 3200000 in
theorem ZkR(w:World){s1 s2:Bool}{a1 a2 a3 a4:Option Addr}{n1 n2 n3 n4 c1 c2 c3 c4:Nat}{l1 l2 l3 l4:List Nat}(h1:LimR w a1 n1 c1 l1)(h2:LimR w a2 n2 c2 l2)(h3:LimR w a3 n3 c3 l3)(h4:LimR w a4 n4 c4 l4)(hn1:n1≤274877906944)(hn2:n2≤274877906944)(hn3:n3≤274877906944)(hn4:n4≤274877906944):
  Calls Tryz.prog 25 #[.agg #[.bool s1,.slice a1 n1 c1,.slice a2 n2 c2],.agg #[.bool s2,.slice a3 n3 c3,.slice a4 n4 c4]] w (RetInt (sgR (sv s1 l1 l2-sv s2 l3 l4)) w):=by
 have hP := Pro2.mk' w #[.bool s1, .slice a1 n1 c1, .slice a2 n2 c2] #[.bool s2, .slice a3 n3 c3, .slice a4 n4 c4] 26 26
 go_enter Tryz.func25, Tryz.ntmps25
 go_upto_region 1 with (fail)
 generalize (w.alloc (.cells #[.bool s1, .slice a1 n1 c1, .slice a2 n2 c2] 26)).alloc (.cells #[.bool s2, .slice a3 n3 c3, .slice a4 n4 c4] 26) = W at *
 have k00 := hP.b0.cell 0
 have f00 := hP.b0.frozen 0
 have k01 := hP.b0.cell 1
 have f01 := hP.b0.frozen 1
 have k02 := hP.b0.cell 2
 have f02 := hP.b0.frozen 2
 have z0 := hP.b0.lt
 have k10 := hP.b1.cell 0
 have f10 := hP.b1.frozen 0
 have k11 := hP.b1.cell 1
 have f11 := hP.b1.frozen 1
 have k12 := hP.b1.cell 2
 have f12 := hP.b1.frozen 2
 have z1 := hP.b1.lt
 simp at k00 k01 k02 k10 k11 k12
 have hw0 : Below W.heap.size W W.drew := Below.drew (Below.refl _ _)
 have g1:=h1.on hP.below
 have g2:=h2.on hP.below
 have g3:=h3.on hP.below
 have g4:=h4.on hP.below
 go_wp2_with fail
 refine (ZeJ _ g1 g2 g3 g4 hn1 hn2 hn3 hn4).mono ?_
 rintro e w5 ⟨s5,a5,n5,c5,a6,n6,c6,rfl,g5,hb5⟩
 have hl5:=Zfg g5 h1 h2 h3 h4
 go_wp2_with fail
 refine (ZeL _ (QX (sv s1 l1 l2-sv s2 l3 l4).den) g5.num (by omega)).mono ?_
 rintro e w7 ⟨rfl,hb7'⟩
 have hb7:Below W.heap.size W w7:=hb5.trans (hb7'.mono hb5.size)
 rw [g5.sv_]
 go_wp2_with fail
 go_ret
 exact ⟨rfl,hP.below.trans (hb7.mono (by omega))⟩
end Go.Proofs.YtdaonnnlgfhlaaaGreatDoor
