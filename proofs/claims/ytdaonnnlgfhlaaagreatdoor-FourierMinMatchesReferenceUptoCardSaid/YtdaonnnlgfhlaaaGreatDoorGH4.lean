import Derived.Test.YtdaonnnlgfhlaaaGreatDoorGH3
import Derived.Test.YtdaonnnlgfhlaaaGreatDoorGH0
set_option linter.all false
namespace Go.Proofs.YtdaonnnlgfhlaaaGreatDoor
open Go.RowKit
def RetNF(k:Nat)(w:World)(e:Ending)(w':World):Prop:=∃ad n c,e=.returned (.slice ad n c)∧LimR w' ad n c (lmb k)∧Below w.heap.size w w'∧∀a,ad=some a→w.heap.size≤a.block
theorem RetNF.plain{k:Nat}{w w':World}{e:Ending}(h:RetNF k w e w'):RetN k w e w':=by
 obtain ⟨ad,n,c,h1,h2,h3,_⟩:=h
 exact ⟨ad,n,c,h1,h2,h3⟩
set_option maxHeartbeats 800000 in
theorem Zc5(w:World){ad:Option Addr}{n c:Nat}{l:List Nat}(h:LimR w ad n c l)(hn2:n≤17592186044416):
  Calls Tryz.prog 91 #[.slice ad n c] w (RetNF (val l) w):=by
 have hcap:=h.cap
 obtain ⟨i0,hi0,hz0,hz1,hz2⟩:=info_parts Tryz.infoU32
 have HI:=Lib.hid (And.intro hi0 (And.intro hz0 (And.intro hz1 hz2)))
 clear hi0 hz0 hz1 hz2
 go_enter Tryz.func91, Tryz.ntmps91
 go_wp2
 go_loop [3] (fun i=>∃k:Nat,k≤n∧i=.int .i64 k∧Vg l k=Vg l n) (fun i=>(intOf i).toNat)
 case atStart=>exact ⟨n,by omega,rfl,rfl⟩
 case round=>
  obtain ⟨k,hk,rfl,ht⟩:=hrel
  have HT:=Lib.hid ht;clear ht
  have hb0:∀o,Below w.heap.size w (w.alloc o):=fun o=>(Below.refl _ _).alloc (Nat.le_refl _) _
  have HB0:=Lib.hid hb0
  clear hb0
  rcases Nat.eq_zero_or_pos k with rfl|hpos
  ·have HE:=Lib.hid (Zbk h HT.out hk (.inl rfl)).2
   have HS1:=Lib.hid (UG HE.out)
   have HS:=fun o=>Lib.hid (UG (HE.out.on (HB0.out o)))
   go_wp2_with (at_builtin;refine QK _ rfl (.tmp 18) (.tmp 21) _ _ rfl _ Tryz.underlying23 w.heap.size 114 i0 _ 1 4 Tryz.underlying24 HI.out.1 HI.out.2.1 HI.out.2.2.1 HI.out.2.2.2 rfl (by omega) (.slice (some ⟨w.heap.size,0,none⟩) 0 0) 0 [] rfl (VN _ _ _ _ _ (Nat.le_refl _) (Blk.new _ _ _)) ad 0 c _ rfl HS1.out.1 (HS _).out.2.1 HS1.out.2.2 (by simp only [maxLen];omega) (by omega) (by simp) ?_;intro v1 w1 hown1 hg1 hat1)
   obtain ⟨ad1,c1,rfl,hl1⟩:=LimR.own (by simpa using hown1) HE.out.lim
   go_wp2_with fail
   go_ret
   exact ⟨_,_,_,rfl,hl1,(HB0.out _).trans (Q7 (size:=1) hg1 (VN _ _ _ _ _ (Nat.le_refl _) (Blk.new _ _ _)) (by simp)),fun a ha=>ZeS hown1 (by rw [ha])⟩
  ·obtain ⟨b,o,rfl,_,hcell⟩:=h.cells (by omega)
   have hc1:=hcell (k-1) (by omega)
   clear hcell
   have HS:=Lib.hid (ZeN l hpos)
   have HE:=Lib.hid (Zbk h HT.out hk)
   by_cases hz:l.getD (k-1) 0=0
   ·rw [hz] at hc1
    have HZ:=Lib.hid hz;clear hz
    go_wp2_with fail
    go_round
    case rel=>exact ⟨k-1,by omega,by go_num,(HS.out HZ.out).trans HT.out⟩
    case measure=>simp [intOf];omega
   ·obtain ⟨x,hx⟩:∃x:Nat,x=l.getD (k-1) 0:=⟨_,rfl⟩
    rw [←hx] at hc1 hz
    have HX:=Lib.hid hx;clear hx
    have HE2:=Lib.hid (HE.out (.inr (by rw [←HX.out];exact hz))).2
    have HS1:=Lib.hid (UG HE2.out)
    have HS2:=fun o=>Lib.hid (UG (HE2.out.on (HB0.out o)))
    go_wp2_with (at_builtin;refine QK _ rfl (.tmp 18) (.tmp 21) _ _ rfl _ Tryz.underlying23 w.heap.size 114 i0 _ 1 4 Tryz.underlying24 HI.out.1 HI.out.2.1 HI.out.2.2.1 HI.out.2.2.2 rfl (by omega) (.slice (some ⟨w.heap.size,0,none⟩) 0 0) 0 [] rfl (VN _ _ _ _ _ (Nat.le_refl _) (Blk.new _ _ _)) (some ⟨b,o,none⟩) k c _ rfl HS1.out.1 (HS2 _).out.2.1 HS1.out.2.2 (by simp only [maxLen];omega) (by omega) (by simp) ?_;intro v1 w1 hown1 hg1 hat1)
    obtain ⟨ad1,c1,rfl,hl1⟩:=LimR.own (by simpa using hown1) HE2.out.lim
    go_wp2_with fail
    go_ret
    exact ⟨_,_,_,rfl,hl1,(HB0.out _).trans (Q7 (size:=1) hg1 (VN _ _ _ _ _ (Nat.le_refl _) (Blk.new _ _ _)) (by simp)),fun a ha=>ZeS hown1 (by rw [ha])⟩
theorem Y3(w:World){ad:Option Addr}{n c:Nat}{l:List Nat}(h:LimR w ad n c l)(hn2:n≤17592186044416):
  Calls Tryz.prog 91 #[.slice ad n c] w (RetN (val l) w):=(Zc5 w h hn2).mono fun _ _ h=>h.plain
set_option maxHeartbeats 400000 in
theorem Zaf(w:World)(x:Int)(h0:0≤x)(h1:x<18446744073709551616):Calls Tryz.prog 87 #[.int .u64 x] w (RetN x.toNat w):=by
 obtain ⟨k,rfl⟩:=Int.eq_ofNat_of_zero_le h0
 go_enter Tryz.func87, Tryz.ntmps87
 go_wp2_with fail
 have hB:LB (w.alloc (.cells (Vr [k % 4294967296,k / 4294967296]) 114)) w.heap.size [k % 4294967296,k / 4294967296]:=
  ⟨Blk.new w _ _,X5 (by omega) (X5 (by omega) XT)⟩
 have hR:=hB.read 2 rfl
 have hv:val [k % 4294967296,k / 4294967296]=k:=by simp only [val];omega
 refine (Y3 _ hR (by omega)).mono ?_
 rintro e w1 ⟨ad1,n1,c1,rfl,g1,hb1⟩
 rw [hv] at g1
 clear hR hB hv
 go_wp2_with fail
 go_ret
 exact ⟨_,_,_,rfl,g1,((Below.refl _ _).alloc (Nat.le_refl _) _).trans (hb1.mono (by simp))⟩
def Zog(x:Nat)(w:World)(e:Ending)(w':World):Prop:=e=.returned (.int .u32 (x:Int))∧w=w'
set_option maxHeartbeats 400000 in
theorem Qx(w:World){ad:Option Addr}{n c:Nat}{l:List Nat}(h:LimR w ad n c l)(i:Nat):
  Calls Tryz.prog 90 #[.slice ad n c,.int .i64 (i:Int)] w (Zog (l.getD i 0) w):=by
 rcases Nat.lt_or_ge i n with hi|hi
 ·obtain ⟨b,o,x,rfl,_,hx,_,HX⟩:=h.at_ hi
  go_enter Tryz.func90, Tryz.ntmps90
  go_wp2_with fail
  go_ret
  exact ⟨Za4 (by rw [HX.out]),rfl⟩
 ·have HX:Hid (l.getD i 0=0):=WS (by rw [h.len];exact hi)
  go_enter Tryz.func90, Tryz.ntmps90
  go_wp2_with fail
  go_ret
  exact ⟨Za4 (by rw [HX.out];rfl),rfl⟩
def ZqU(b:Bool)(w:World)(e:Ending)(w':World):Prop:=e=.returned (.bool b)∧∃d,w'=w.drewN d
set_option maxHeartbeats 800000 in
theorem ZeR(w:World){ad1 ad2:Option Addr}{n1 n2 c1 c2:Nat}{l1 l2:List Nat}(h1:LimR w ad1 n1 c1 l1)(h2:LimR w ad2 n2 c2 l2)(hn1:n1≤17592186044416)(hn2:n2≤17592186044416):
  Calls Tryz.prog 80 #[.slice ad1 n1 c1,.slice ad2 n2 c2] w (ZqU (decide (l1=l2)) w):=by
 by_cases hl:n1=n2
 ·subst hl
  have HL:=Lib.hid (h1.len.trans h2.len.symm)
  have HL1:=Lib.hid h1.len
  have hne:((n1:Int) !=n1)=false:=by simp
  go_enter Tryz.func80, Tryz.ntmps80
  go_wp2_with fail
  go_loopw [5] (fun i wr=>∃k:Nat,k≤n1∧i=.int .i64 (k:Int)∧Hid (∀j,j<k→l1.getD j 0=l2.getD j 0)∧∃d,wr=w.drewN d) (fun i _=>n1-(intOf i).toNat)
  case atStart=>exact ⟨0,by omega,rfl,fun j hj=>absurd hj (by omega),0,rfl⟩
  case round=>
   obtain ⟨k,hk,rfl,HE,d,rfl⟩:=hrel
   by_cases hlt:k<n1
   ·obtain ⟨b1,o1,x,rfl,_,hx,_,HX⟩:=h1.at_ hlt
    obtain ⟨b2,o2,y,rfl,_,hy,_,HY⟩:=h2.at_ hlt
    have kk0:(0:Int)≤(k:Int):=by omega
    have kk1:(k:Int)<(n1:Int):=by omega
    by_cases hxy:x=y
    ·have HE2:Hid (∀j,j<k+1→l1.getD j 0=l2.getD j 0):=fun j hj=>by
      rcases Nat.lt_or_ge j k with h|h
      ·exact HE.out j h
      ·obtain rfl:j=k:=by omega
       rw [HX.out,HY.out,hxy]
     have e1:((x:Int) !=y)=false:=by simp;omega
     clear hxy
     go_wp2_with fail
     go_quiet (fail)
     go_wp2_with fail
     go_roundw
     case rel=>exact ⟨k+1,by omega,by go_num,HE2,by first|exact ⟨_,rfl⟩|exact dd2 _ _ _⟩
     case measure=>simp [intOf];omega
    ·have HD:Hid (decide (l1=l2)=false):=decide_eq_false (fun e=>hxy (by rw [←HX.out,←HY.out,e]))
     have e1:((x:Int) !=y)=true:=by simp;omega
     clear hxy
     go_wp2_with fail
     go_quiet (fail)
     go_wp2_with fail
     go_ret
     exact ⟨by rw [HD.out];rfl,by first|exact ⟨_,rfl⟩|exact dd2 _ _ _⟩
   ·have HD:Hid (decide (l1=l2)=true):=decide_eq_true (Zd7 HL.out (fun j hj=>HE.out j (by rw [HL1.out] at hj;omega)))
    go_wp2_with fail
    go_ret
    exact ⟨by rw [HD.out];rfl,by first|exact ⟨_,rfl⟩|exact dd2 _ _ _⟩
 ·have HD:Hid (decide (l1=l2)=false):=decide_eq_false (fun e=>hl (by rw [←h1.len,←h2.len,e]))
  have hne:((n1:Int) !=n2)=true:=by simp;omega
  clear hl
  go_enter Tryz.func80, Tryz.ntmps80
  go_wp2_with fail
  go_ret
  exact ⟨by rw [HD.out];rfl,0,rfl⟩
def ZCN(x:Int)(w:World)(e:Ending)(w':World):Prop:=e=.returned (.int .i64 x)∧w=w'
set_option maxHeartbeats 1600000 in
theorem Zdj(w:World){ad1 ad2:Option Addr}{n1 n2 c1 c2:Nat}{l1 l2:List Nat}(h1:LimR w ad1 n1 c1 l1)(h2:LimR w ad2 n2 c2 l2)(hn1:n1≤17592186044416)(hn2:n2≤17592186044416):
  Calls Tryz.prog 124 #[.slice ad1 n1 c1,.slice ad2 n2 c2] w (ZCN (QW (val l1) (val l2)) w):=by
 have V1:=Lib.hid (Z8 l1 (k:=max n1 n2) (by rw [h1.len];omega))
 have V2:=Lib.hid (Z8 l2 (k:=max n1 n2) (by rw [h2.len];omega))
 obtain ⟨m,hm⟩:∃m,m=max n1 n2:=⟨_,rfl⟩
 rw [←hm] at V1 V2
 have hm1:n1≤m:=by omega
 have hm2:n2≤m:=by omega
 have hm3:m≤17592186044416:=by omega
 have hmx:max (n1:Int) n2=(m:Int):=by omega
 clear hm
 go_enter Tryz.func124, Tryz.ntmps124
 go_wp2_with fail
 go_loop [5] (fun i=>∃k:Nat,k≤m∧i=.int .i64 ((k:Int)-1)∧Hid (∀j,k≤j→j<m→l1.getD j 0=l2.getD j 0)) (fun i=>(intOf i+1).toNat)
 case atStart=>exact ⟨m,by omega,rfl,fun j h1 h2=>absurd h1 (by omega)⟩
 case round=>
  obtain ⟨k,hk,rfl,HE⟩:=hrel
  rcases Nat.eq_zero_or_pos k with rfl|hpos
  ·have HC:Hid (QW (val l1) (val l2)=0):=Zfr (by rw [←V1.out,←V2.out];exact Zlf HE.out)
   go_wp2_with fail
   go_ret
   exact ⟨Q2 HC.out.symm,rfl⟩
  ·obtain ⟨i,rfl⟩:∃i,k=i+1:=⟨k-1,by omega⟩
   have ei:(((i+1:Nat):Int)-1)=(i:Int):=by omega
   rw [ei]
   clear ei
   obtain ⟨x,hx⟩:∃x,l1.getD i 0=x:=⟨_,rfl⟩
   obtain ⟨y,hy⟩:∃y,l2.getD i 0=y:=⟨_,rfl⟩
   have HX:=Lib.hid hx
   have HY:=Lib.hid hy
   clear hx hy
   have L1:=Lib.hid h1.lim
   have L2:=Lib.hid h2.lim
   go_wp2_with fail
   refine (Qx w h1 i).mono ?_
   rintro e w1 ⟨rfl,rfl⟩
   rw [HX.out]
   go_wp2_with fail
   refine (Qx w h2 i).mono ?_
   rintro e w1 ⟨rfl,rfl⟩
   rw [HY.out]
   rcases Nat.lt_trichotomy x y with hxy|rfl|hxy
   ·have HC:Hid (QW (val l1) (val l2)=-1):=Zap (by rw [←V1.out,←V2.out];exact Zeg L1.out hk HE.out (by rw [HX.out,HY.out];exact hxy))
    go_wp2_with fail
    go_ret
    exact ⟨Q2 HC.out.symm,rfl⟩
   ·have HE2:Hid (∀j,i≤j→j<m→l1.getD j 0=l2.getD j 0):=fun j h3 h4=>by
     rcases Nat.lt_or_ge i j with h|h
     ·exact HE.out j h h4
     ·obtain rfl:j=i:=by omega
      rw [HX.out,HY.out]
    go_wp2_with fail
    refine (Qx w h1 i).mono ?_
    rintro e w1 ⟨rfl,rfl⟩
    rw [HX.out]
    go_wp2_with fail
    refine (Qx w h2 i).mono ?_
    rintro e w1 ⟨rfl,rfl⟩
    rw [HY.out]
    go_wp2_with fail
    go_round
    case rel=>exact ⟨i,by omega,by go_num,HE2⟩
    case measure=>simp [intOf]
   ·have HC:Hid (QW (val l1) (val l2)=1):=Zfv (by rw [←V1.out,←V2.out];exact Zeg L2.out hk (fun j h3 h4=>(HE.out j h3 h4).symm) (by rw [HX.out,HY.out];exact hxy))
    go_wp2_with fail
    refine (Qx w h1 i).mono ?_
    rintro e w1 ⟨rfl,rfl⟩
    rw [HX.out]
    go_wp2_with fail
    refine (Qx w h2 i).mono ?_
    rintro e w1 ⟨rfl,rfl⟩
    rw [HY.out]
    go_wp2_with fail
    go_ret
    exact ⟨Q2 HC.out.symm,rfl⟩
def ZnN(k:Nat)(w:World)(e:Ending)(w':World):Prop:=e=.returned (.tuple #[.int .u64 ((if k<18446744073709551616 then k else 0:Nat):Int),.bool (decide (k<18446744073709551616))])∧Below w.heap.size w w'
theorem ZcO{k x:Nat}{w w':World}(h:k=x)(hk:k<18446744073709551616)(hb:Below w.heap.size w w'){z:Int}(hz:z=(x:Int)):ZnN k w (.returned (.tuple #[.int .u64 z,.bool true])) w':=by
 subst h hz
 exact ⟨by rw [decide_eq_true hk,if_pos hk],hb⟩
theorem Znj{k:Nat}{w w':World}(hk:18446744073709551616≤k)(hb:Below w.heap.size w w'):ZnN k w (.returned (.tuple #[.int .u64 0,.bool false])) w':=
 ⟨by rw [decide_eq_false (by omega),if_neg (by omega)];rfl,hb⟩
set_option maxHeartbeats 800000 in
theorem ZeX(w:World){ad:Option Addr}{n c:Nat}{l:List Nat}(h:LimR w ad n c l)(hn:n≤17592186044416):
  Calls Tryz.prog 121 #[.slice ad n c] w (ZnN (val l) w):=by
 go_enter Tryz.func121, Tryz.ntmps121
 go_wp2_with fail
 refine (Y3 w h (by omega)).mono ?_
 rintro e w1 ⟨ad1,m,c1,rfl,g,hb⟩
 clear h
 generalize val l=a at*
 have HL:=Lib.hid g.len
 by_cases hm:m≤2
 ·have HD:=Lib.hid (Zfl (k:=a) (by rw [HL.out];exact hm))
  rcases (show m=0∨m=1∨m=2 by omega) with rfl|rfl|rfl
  ·obtain rfl:a=0:=ZZ.1 HL.out
   go_wp2_with fail
   go_ret2
   exact ZcO (x:=0) rfl HD.out hb rfl
  ·obtain ⟨b,o,x,rfl,_,hx,hu,HX⟩:=g.at_ (show 0<1 by omega)
   rw [Nat.add_zero] at hx
   have HA:Hid (a=x):=by have:=Zq6 HL.out;rw [HX.out] at this;exact this
   go_wp2_with fail
   go_ret2
   exact ZcO HA.out HD.out hb rfl
  ·obtain ⟨b,o,x,rfl,_,hx,hu,HX⟩:=g.at_ (show 0<2 by omega)
   obtain ⟨b',o',y,e2,_,hy,hv,HY⟩:=g.at_ (show 1<2 by omega)
   obtain ⟨rfl,rfl⟩:b=b'∧o=o':=by simpa using e2
   rw [Nat.add_zero] at hx
   have HA:Hid (a=x+y*4294967296):=by have:=Zs6 HL.out;rw [HX.out,HY.out] at this;exact this
   clear e2
   go_wp2_with fail
   go_quiet (fail)
   go_wp2_with fail
   go_ret2
   exact ZcO HA.out HD.out (hb.drewN _) (ZfI x y hu hv)
 ·have HD:=Lib.hid (ZfA (k:=a) (by rw [HL.out];omega))
  have e1:((m:Int)==0)=false:=by simp;omega
  have e2:((m:Int)==1)=false:=by simp;omega
  have e3:((m:Int)==2)=false:=by simp;omega
  clear hm
  go_wp2_with fail
  go_ret2
  exact Znj HD.out hb
def OwnL(w:World)(B:Nat)(v:Value)(L:List Nat):Prop:=w.ownsRow B 114 1 v L.length (L.map fun x:Nat=>Value.int .u32 (x:Int))∧Lim L
theorem OwnL.nil(w:World)(B:Nat):OwnL w B (.slice none 0 0) []:=⟨⟨by simp,.inl ⟨rfl,rfl⟩⟩,XT⟩
theorem OwnL.snoc{w:World}{B:Nat}{v:Value}{L:List Nat}{n z:Nat}(hz:z<4294967296)(hl:Lim L)(hn:n=L.length){x:Int}(hx:x=(z:Int))(h:w.ownsRow B 114 1 v (n+1) ((L.map fun x:Nat=>Value.int .u32 (x:Int))++[.int .u32 x])):OwnL w B v (L++[z]):=by
 subst hn hx
 exact ⟨by simpa using h,Zqd hl hz⟩
theorem OwnL.read{w:World}{B:Nat}{v:Value}{L:List Nat}(h:OwnL w B v L):∃ad c,v=.slice ad L.length c∧LimR w ad L.length c L:=LimR.own h.1 h.2
theorem Ja(w:World)(u:Value)(t:TypeId):0<1→∃ad,some (⟨w.heap.size,0,none⟩:Addr)=some ad∧∀(j:Nat) v,[u][j]?=some v→(w.alloc (.cells #[u] t)).cell? (ad.add j)=some v:=
 fun _=>⟨_,rfl,World.news_of_block (cs:=#[u]) (t:=t) (fr:=(0,0)) (heap_alloc_new w _)⟩
structure ZjQ (k cy:Nat) (l1 l2:List Nat) (w wr:World) (v:Value) (L:List Nat):Prop where
 own:OwnL wr w.heap.size v L
 len:L.length=k
 sum:val L+4294967296 ^ k*cy=vt l1 k+vt l2 k
 below:Below w.heap.size w wr
set_option maxHeartbeats 1600000 in
theorem ZdU(w:World){ad1 ad2:Option Addr}{n1 n2 c1 c2:Nat}{l1 l2:List Nat}(h1:LimR w ad1 n1 c1 l1)(h2:LimR w ad2 n2 c2 l2)(hn1:n1≤8796093022208)(hn2:n2≤8796093022208):
  Calls Tryz.prog 113 #[.slice ad1 n1 c1,.slice ad2 n2 c2] w (RetN (val l1+val l2) w):=by
 obtain ⟨i0,hi0,hz0,hz1,hz2⟩:=info_parts Tryz.infoU32
 have HI:=Lib.hid (And.intro hi0 (And.intro hz0 (And.intro hz1 hz2)))
 have HL:=Lib.hid (And.intro h1.len h2.len)
 clear hi0 hz0 hz1 hz2
 go_enter Tryz.func113, Tryz.ntmps113
 go_wp2_with fail
 go_loopw [5,6,7] (fun s5 s6 s7 wr=>∃k cy L,k≤max n1 n2∧s7=.int .i64 (k:Nat)∧s6=.int .u64 (cy:Nat)∧cy≤1∧ZjQ k cy l1 l2 w wr s5 L) (fun _ _ i _=>max n1 n2-(intOf i).toNat)
 case atStart=>exact ⟨0,0,[],by omega,rfl,rfl,by omega,OwnL.nil _ _,rfl,by simp [val,Yy],Below.refl _ _⟩
 case round=>
  obtain ⟨k,cy,L,hk,rfl,rfl,hcy,hV⟩:=hrel
  by_cases hlt:k<max n1 n2
  ·have HV:=Lib.hid hV
   have hkb:k≤8796093022208:=by omega
   have hor:(k<n1∨k<n2):=by omega
   obtain ⟨x,hx⟩:∃x,l1.getD k 0=x:=⟨_,rfl⟩
   obtain ⟨y,hy⟩:∃y,l2.getD k 0=y:=⟨_,rfl⟩
   have hxl:x<4294967296:=by rw [←hx];exact Ye h1.lim _
   have hyl:y<4294967296:=by rw [←hy];exact Ye h2.lim _
   have HX:=Lib.hid hx
   have HY:=Lib.hid hy
   have g1:=h1.on hV.below
   have g2:=h2.on hV.below
   have HN:=Lib.hid (And.intro hlt hk)
   clear hx hy hV hlt hk
   rcases Nat.lt_or_ge k n1 with hk1|hk1
   all_goals
    go_wp2_with fail
    refine (Qx wr g1 k).mono ?_
    rintro e w1 ⟨rfl,rfl⟩
    rw [HX.out]
    go_wp2_with fail
    refine (Qx wr g2 k).mono ?_
    rintro e w1 ⟨rfl,rfl⟩
    rw [HY.out]
    go_wp2_with (at_builtin;refine QK _ rfl (.tmp 31) (.tmp 34) _ _ rfl _ Tryz.underlying23 w.heap.size 114 i0 _ 1 4 Tryz.underlying23 HI.out.1 HI.out.2.1 HI.out.2.2.1 HI.out.2.2.2 rfl (by omega) _ L.length _ rfl (HV.out.own.1.alloc _) (some ⟨wr.heap.size,0,none⟩) 1 1 _ rfl rfl (Ja wr _ _) (by intro u hu;simp at hu;subst hu;rfl) (by rw [HV.out.len];simp only [maxLen];omega) (by rw [HV.out.len];omega) (by have:=HV.out.below.size;simp;omega) ?_;intro v1 w1 hown1 hg1 hat1)
    have hb1:Below w.heap.size w w1:=(HV.out.below.alloc HV.out.below.size _).trans (Q7 (size:=1) hg1 (HV.out.own.1.alloc _) (by have:=HV.out.below.size;simp;omega))
    have ho1:=OwnL.snoc (z:=(cy+(x+y)) % 4294967296) (by omega) HV.out.own.2 rfl (by omega) hown1
    clear hown1 hg1 hat1 g1 g2
    go_wp2_with fail
    go_roundw
    case rel=>exact ⟨k+1,(cy+(x+y)) / 4294967296,_,by have:=HN.out;omega,by go_num,Qu (by omega),by omega,ho1,by simp [HV.out.len],ZjG HV.out.len HX.out HY.out HV.out.sum,hb1⟩
    case measure=>have:=HN.out;simp [intOf];omega
  ·have hk1:¬k<n1:=by omega
   have hk2:¬k<n2:=by omega
   have HV:=Lib.hid hV
   have hkb:k≤8796093022208:=by omega
   have hsum:val (L++[cy])=val l1+val l2:=by
    rw [Kw,hV.len,hV.sum,Z8 l1 (by rw [h1.len];omega),Z8 l2 (by rw [h2.len];omega)]
   have HS:=Lib.hid hsum
   clear hV hsum hlt
   go_wp2_with (at_builtin;refine QK _ rfl (.tmp 38) (.tmp 41) _ _ rfl _ Tryz.underlying23 w.heap.size 114 i0 _ 1 4 Tryz.underlying23 HI.out.1 HI.out.2.1 HI.out.2.2.1 HI.out.2.2.2 rfl (by omega) _ L.length _ rfl (HV.out.own.1.alloc _) (some ⟨wr.heap.size,0,none⟩) 1 1 _ rfl rfl (Ja wr _ _) (by intro u hu;simp at hu;subst hu;rfl) (by rw [HV.out.len];simp only [maxLen];omega) (by rw [HV.out.len];omega) (by have:=HV.out.below.size;simp;omega) ?_;intro v1 w1 hown1 hg1 hat1)
   have hb1:Below w.heap.size w w1:=(HV.out.below.alloc HV.out.below.size _).trans (Q7 (size:=1) hg1 (HV.out.own.1.alloc _) (by have:=HV.out.below.size;simp;omega))
   have ho1:=OwnL.snoc (z:=cy) (by omega) HV.out.own.2 rfl (by omega) hown1
   obtain ⟨ad,c,rfl,hr⟩:=ho1.read
   refine (Y3 _ hr (by simp [HV.out.len];omega)).mono ?_
   rintro e w4 ⟨ad4,n4,c4,rfl,g4,hb4⟩
   rw [HS.out] at g4
   go_wp2_with fail
   go_ret
   exact ⟨_,_,_,rfl,g4,hb1.trans (hb4.mono hb1.size)⟩
def RetN2F(k:Nat)(w:World)(e:Ending)(w':World):Prop:=∃ad n c,e=.returned (.tuple #[.slice ad n c,.int .i64 0])∧LimR w' ad n c (lmb k)∧Below w.heap.size w w'∧∀a,ad=some a→w.heap.size≤a.block
theorem RetN2F.plain{k:Nat}{w w':World}{e:Ending}(h:RetN2F k w e w'):ZjT k w e w':=by
 obtain ⟨ad,n,c,h1,h2,h3,_⟩:=h
 exact ⟨ad,n,c,h1,h2,h3⟩
structure Zsq (k bw:Nat) (l1 l2:List Nat) (w wr:World) (v:Value) (L:List Nat):Prop where
 own:OwnL wr w.heap.size v L
 len:L.length=k
 sum:val L+vt l2 k=vt l1 k+4294967296 ^ k*bw
 below:Below w.heap.size w wr
set_option maxHeartbeats 3200000 in
theorem Zeb(w:World){ad1 ad2:Option Addr}{n1 n2 c1 c2:Nat}{l1 l2:List Nat}(h1:LimR w ad1 n1 c1 l1)(h2:LimR w ad2 n2 c2 l2)(hn1:n1≤8796093022208)(hn2:n2≤8796093022208)(hle:val l2≤val l1):
  Calls Tryz.prog 114 #[.slice ad1 n1 c1,.slice ad2 n2 c2] w (RetN2F (val l1-val l2) w):=by
 obtain ⟨i0,hi0,hz0,hz1,hz2⟩:=info_parts Tryz.infoU32
 have HI:=Lib.hid (And.intro hi0 (And.intro hz0 (And.intro hz1 hz2)))
 have HL:=Lib.hid (And.intro h1.len h2.len)
 have HLE:=Lib.hid hle
 clear hi0 hz0 hz1 hz2
 go_enter Tryz.func114, Tryz.ntmps114
 go_wp2_with fail
 refine (Zdj w h1 h2 (by omega) (by omega)).mono ?_
 rintro e w1 ⟨rfl,rfl⟩
 have hc:=Zbt hle
 generalize QW (val l1) (val l2)=cc at*
 clear hle
 go_wp2_with fail
 go_loopw [6,7,8] (fun s6 s7 s8 wr=>∃k bw L,k≤n1∧s8=.int .i64 (k:Nat)∧s7=.int .u64 (bw:Nat)∧bw≤1∧Zsq k bw l1 l2 w wr s6 L) (fun _ _ i _=>n1-(intOf i).toNat)
 case atStart=>exact ⟨0,0,[],by omega,rfl,rfl,by omega,OwnL.nil _ _,rfl,by simp [val,Yy],Below.refl _ _⟩
 case round=>
  obtain ⟨k,bw,L,hk,rfl,rfl,hbw,hV⟩:=hrel
  by_cases hlt:k<n1
  ·have HV:=Lib.hid hV
   obtain ⟨x,hx⟩:∃x,l1.getD k 0=x:=⟨_,rfl⟩
   have hxl:x<4294967296:=by rw [←hx];exact Ye h1.lim _
   have HX:=Lib.hid hx
   obtain ⟨y,hy⟩:∃y,l2.getD k 0=y:=⟨_,rfl⟩
   have hyl:y<4294967296:=by rw [←hy];exact Ye h2.lim _
   have HY:=Lib.hid hy
   have g1:=h1.on hV.below
   have g2:=h2.on hV.below
   clear hx hy hV
   go_wp2_with fail
   refine (Qx wr g1 k).mono ?_
   rintro e w1 ⟨rfl,rfl⟩
   rw [HX.out]
   go_wp2_with fail
   refine (Qx wr g2 k).mono ?_
   rintro e w1 ⟨rfl,rfl⟩
   rw [HY.out]
   clear g1 g2
   by_cases hxy:x<y+bw
   ·go_wp2_with (at_builtin;refine QK _ rfl (.tmp 36) (.tmp 41) _ _ rfl _ Tryz.underlying23 w.heap.size 114 i0 _ 1 4 Tryz.underlying23 HI.out.1 HI.out.2.1 HI.out.2.2.1 HI.out.2.2.2 rfl (by omega) _ L.length _ rfl (HV.out.own.1.alloc _) (some ⟨wr.heap.size,0,none⟩) 1 1 _ rfl rfl (Ja wr _ _) (by intro u hu;simp at hu;subst hu;rfl) (by rw [HV.out.len];simp only [maxLen];omega) (by rw [HV.out.len];omega) (by have:=HV.out.below.size;simp;omega) ?_;intro v1 w1 hown1 hg1 hat1)
    have hb1:Below w.heap.size w w1:=(HV.out.below.alloc HV.out.below.size _).trans (Q7 (size:=1) hg1 (HV.out.own.1.alloc _) (by have:=HV.out.below.size;simp;omega))
    have ho1:=OwnL.snoc (z:=x+4294967296-(y+bw)) (by omega) HV.out.own.2 rfl (by omega) hown1
    clear hown1 hg1 hat1
    go_wp2_with fail
    go_roundw
    case rel=>exact ⟨k+1,1,_,by omega,by go_num,rfl,by omega,ho1,by simp [HV.out.len],Zj8 HV.out.len HX.out HY.out (by omega) HV.out.sum,hb1⟩
    case measure=>simp [intOf];omega
   ·go_wp2_with (at_builtin;refine QK _ rfl (.tmp 36) (.tmp 41) _ _ rfl _ Tryz.underlying23 w.heap.size 114 i0 _ 1 4 Tryz.underlying23 HI.out.1 HI.out.2.1 HI.out.2.2.1 HI.out.2.2.2 rfl (by omega) _ L.length _ rfl (HV.out.own.1.alloc _) (some ⟨wr.heap.size,0,none⟩) 1 1 _ rfl rfl (Ja wr _ _) (by intro u hu;simp at hu;subst hu;rfl) (by rw [HV.out.len];simp only [maxLen];omega) (by rw [HV.out.len];omega) (by have:=HV.out.below.size;simp;omega) ?_;intro v1 w1 hown1 hg1 hat1)
    have hb1:Below w.heap.size w w1:=(HV.out.below.alloc HV.out.below.size _).trans (Q7 (size:=1) hg1 (HV.out.own.1.alloc _) (by have:=HV.out.below.size;simp;omega))
    have ho1:=OwnL.snoc (z:=x-(y+bw)) (by omega) HV.out.own.2 rfl (by omega) hown1
    clear hown1 hg1 hat1
    go_wp2_with fail
    go_roundw
    case rel=>exact ⟨k+1,0,_,by omega,by go_num,rfl,by omega,ho1,by simp [HV.out.len],Zj8 HV.out.len HX.out HY.out (by omega) HV.out.sum,hb1⟩
    case measure=>simp [intOf];omega
  ·have HV:=Lib.hid hV
   have e:k=n1:=by omega
   subst e
   have hl2:l2.length≤max k n2:=by rw [HL.out.2];omega
   have hsum:val L=val l1-val l2:=by
    have h9:=hV.sum
    have h8:=JH hV.own.2 k
    have h7:=XD h1.lim
    rw [HL.out.1] at h7
    rw [Z8 l1 (by rw [HL.out.1];omega)] at h9
    have h6:vt l2 k=val l2:=by
     have h5:=ZtE h2.lim k (Nat.lt_of_le_of_lt HLE.out h7)
     exact h5
    have h4:val L<4294967296 ^ k:=by have:=XD hV.own.2;rwa [hV.len] at this
    rw [h6] at h9
    have h3:bw=0:=by
     rcases Nat.eq_zero_or_pos bw with h0|h0
     ·exact h0
     ·have:4294967296 ^ k*1≤4294967296 ^ k*bw:=Nat.mul_le_mul_left _ h0
      have:=HLE.out
      omega
    subst h3
    omega
   have HS:=Lib.hid hsum
   clear hV hsum hl2
   obtain ⟨ad,c,rfl,hr⟩:=HV.out.own.read
   go_wp2_with fail
   refine (Zc5 _ hr (by rw [HV.out.len];omega)).mono ?_
   rintro e w4 ⟨ad4,n4,c4,rfl,g4,hb4,hf4⟩
   have HF4:=Lib.hid hf4
   clear hf4
   rw [HS.out] at g4
   go_wp2_with fail
   go_ret2
   exact ⟨_,_,_,rfl,g4,HV.out.below.trans (hb4.mono HV.out.below.size),fun a ha=>Nat.le_trans HV.out.below.size (HF4.out a ha)⟩
theorem Zhz(w:World){ad1 ad2:Option Addr}{n1 n2 c1 c2:Nat}{l1 l2:List Nat}(h1:LimR w ad1 n1 c1 l1)(h2:LimR w ad2 n2 c2 l2)(hn1:n1≤8796093022208)(hn2:n2≤8796093022208)(hle:val l2≤val l1):
  Calls Tryz.prog 114 #[.slice ad1 n1 c1,.slice ad2 n2 c2] w (ZjT (val l1-val l2) w):=(Zeb w h1 h2 hn1 hn2 hle).mono fun _ _ h=>h.plain
theorem Tryz.mkU32s(n:Int)(k:Nat)(h:n=k)(h1:n≤35184372088832)(w:World):
  (Instr.makeSlice 23 (.int .i64 n) (.int .i64 n)).run Tryz.prog w=.ok (.slice (some ⟨w.heap.size,0,none⟩) k k) (w.alloc (.cells (madeCells #[.int .u32 0] k) 114)):=by
 subst h
 exact run_make_row' (P:= Tryz.prog) 23 114 (.int .u32 0) 4 Tryz.underlying23 Tryz.infoU32 rfl .i64 .i64 k (by omega) (by omega) w
theorem Zsg(w:World){ad:Option Addr}{n c:Nat}{l:List Nat}(h:LimR w ad n c l)(i:Nat){y:Nat}(hy:l.getD i 0=y):
  Calls Tryz.prog 90 #[.slice ad n c,.int .i64 (i:Int)] w fun e w'=>e=.returned (.int .u32 (y:Int))∧w'=w:=
 (Qx w h i).mono fun _ _ ⟨h1,h2⟩=>⟨by rw [h1,hy],h2.symm⟩
structure FMulInv (m n i:Nat) (l1 l2:List Nat) (w wr:World) (cur:List Nat):Prop where
 lb:LB wr w.heap.size cur
 len:cur.length=m+n+1
 sum:vt cur (i+n)=vt l1 i*val l2
 zero:∀j,i+n≤j→cur.getD j 0=0
 below:Below w.heap.size w wr
structure FMulIn (m n i k cy x:Nat) (l2:List Nat) (w wr:World) (cur0 cur:List Nat):Prop where
 lb:LB wr w.heap.size cur
 len:cur.length=m+n+1
 sum:vt cur (i+k)+4294967296 ^ (i+k)*cy=vt cur0 (i+k)+4294967296 ^ i*x*vt l2 k
 rest:∀j,i+k≤j→cur.getD j 0=cur0.getD j 0
 below:Below w.heap.size w wr
theorem FMulInv.start(w:World)(m n:Nat)(l1 l2:List Nat):FMulInv m n 0 l1 l2 w (w.alloc (.cells (madeCells #[.int .u32 0] (m+n+1)) 114)) (List.replicate (m+n+1) 0):=
 ⟨LB.made w _,by simp,by rw [Yy,Nat.zero_mul];unfold vt;rw [List.take_replicate,WN],fun j _=>by simp only [List.getD_eq_getElem?_getD,List.getElem?_replicate];split <;>rfl,(Below.refl _ _).alloc (Nat.le_refl _) _⟩
theorem FMulInv.row{m n i:Nat}{l1 l2:List Nat}{w wr:World}{cur:List Nat}(h:FMulInv m n i l1 l2 w wr cur)(x:Nat):FMulIn m n i 0 0 x l2 w wr cur cur:=
 ⟨h.lb,h.len,by simp [Yy],fun _ _=>rfl,h.below⟩
theorem FMulIn.step{m n i k cy x y o:Nat}{l2:List Nat}{w wr:World}{cur0 cur:List Nat}(h:FMulIn m n i k cy x l2 w wr cur0 cur)(hi:i<m)(hk:k≤n)(hy:l2.getD k 0=y)(ho:cur.getD (i+k) 0=o){z:Int}(hz:z=(cy:Int)+((x:Int)*y+o))(d:Nat):
  FMulIn m n i (k+1) ((cy+(x*y+o)) / 4294967296) x l2 w ((wr.drewN d).setCell ⟨w.heap.size,i+k,none⟩ (.int .u32 (z % 4294967296))) cur0 (cur.set (i+k) ((cy+(x*y+o)) % 4294967296)):=by
 subst hz
 have e:((cy:Int)+((x:Int)*y+o)) % 4294967296=(((cy+(x*y+o)) % 4294967296:Nat):Int):=by
  rw [←Int.natCast_mul];omega
 rw [e]
 refine ⟨LB.set_ (w:=wr.drewN d) h.lb _ _ (by omega),by rw [List.length_set];exact h.len,Zgn (by rw [h.len];omega) hy ((h.rest _ (Nat.le_refl _)).symm.trans ho) h.sum,fun j hj=>?_,(h.below.drewN d).setCell (Nat.le_refl _) _⟩
 rw [VU _ (by omega)]
 exact h.rest j (by omega)
theorem FMulIn.end_{m n i cy x:Nat}{l1 l2:List Nat}{w wr wr0:World}{cur0 cur:List Nat}(h:FMulIn m n i (n+1) cy x l2 w wr cur0 cur)(h0:FMulInv m n i l1 l2 w wr0 cur0)(hb:l2.length=n)(hL1:Lim l1)(hL2:Lim l2)(hx:l1.getD i 0=x):
  FMulInv m n (i+1) l1 l2 w wr cur:=by
 refine ⟨h.lb,h.len,?_,fun j hj=>(h.rest j (by omega)).trans (h0.zero j (by omega)),h.below⟩
 rw [ZQ,hx]
 exact ZoY (Nat.le_of_eq hb) rfl (JH hL1 i) (by rw [←hx];exact Ye hL1 i) (by have:=XD hL2;rwa [hb] at this) h0.sum (h0.zero _ (Nat.le_refl _)) h.sum
set_option maxHeartbeats 3200000 in
theorem WU(w:World){ad1 ad2:Option Addr}{n1 n2 c1 c2:Nat}{l1 l2:List Nat}(h1:LimR w ad1 n1 c1 l1)(h2:LimR w ad2 n2 c2 l2)(hn1:n1≤4398046511104)(hn2:n2≤4398046511104):
  Calls Tryz.prog 54 #[.slice ad1 n1 c1,.slice ad2 n2 c2] w (RetN (val l1*val l2) w):=by
 have hmk:= Tryz.mkU32s ((n1:Int)+n2+1) (n1+n2+1) (by omega) (by omega)
 have HL:=Lib.hid (And.intro h1.len h2.len)
 have HLL:=Lib.hid (And.intro h1.lim h2.lim)
 go_enter Tryz.func54, Tryz.ntmps54
 go_wp2_with fail
 clear hmk
 go_loopw [6] (fun s6 wr=>∃i cur,i≤n1∧s6=.int .i64 (i:Nat)∧FMulInv n1 n2 i l1 l2 w wr cur) (fun i _=>n1-(intOf i).toNat)
 case atStart=>exact ⟨0,_,by omega,rfl,FMulInv.start _ _ _ _ _⟩
 case round=>
  obtain ⟨i,cur0,hi,rfl,hO⟩:=hrel
  by_cases hlt:i<n1
  ·obtain ⟨b1,o1,x,rfl,hb1,hx,hu,HX⟩:=h1.at_ hlt
   have HO:=Lib.hid hO
   obtain ⟨wo,rfl⟩:∃wo:World,wo=wr:=⟨_,rfl⟩
   clear hO
   go_wp2_with fail
   go_loopw [7,8] (fun s7 s8 wr=>∃k cy cur,k≤n2+1∧s8=.int .i64 (k:Nat)∧s7=.int .u64 (cy:Nat)∧cy<4294967296∧FMulIn n1 n2 i k cy x l2 w wr cur0 cur) (fun _ k _=>n2+1-(intOf k).toNat)
   case atStart=>exact ⟨0,0,_,by omega,rfl,rfl,by omega,HO.out.row x⟩
   case round=>
    obtain ⟨k,cy,cur,hk,rfl,rfl,hcy,hI⟩:=hrel
    by_cases hlt2:k≤n2
    ·obtain ⟨y,hy⟩:∃y,l2.getD k 0=y:=⟨_,rfl⟩
     have hyl:y<4294967296:=by rw [←hy];exact Ye h2.lim _
     have HY:=Lib.hid hy
     have hx':=(hI.below.cell (p:=⟨b1,o1+i,none⟩) hb1).trans hx
     have g2:=h2.on hI.below
     have ho:=hI.lb.cell (i:=i+k) (by rw [hI.len];omega)
     have hf:=hI.lb.frozen (i+k)
     obtain ⟨o,hoo⟩:∃o:Nat,cur.getD (i+k) 0=o:=⟨_,rfl⟩
     have holt:o<4294967296:=by rw [←hoo];exact Ye hI.lb.2 _
     rw [hoo] at ho
     have HOO:=Lib.hid hoo
     obtain ⟨hxy,hcy'⟩:=Zi1 (cy:=cy) hu hyl holt hcy
     have hxy':(x:Int)*y≤18446744065119617025:=by rw [←Int.natCast_mul];omega
     have hxy0:(0:Int)≤(x:Int)*y:=by rw [←Int.natCast_mul];omega
     have e1:IntKind.u64.wrap ((x:Int)*y)=(x:Int)*y:=by rw [ZF];omega
     have e2:IntKind.u64.wrap ((x:Int)*y+o)=(x:Int)*y+o:=by rw [ZF];omega
     have e3:IntKind.u64.wrap ((cy:Int)+((x:Int)*y+o))=(cy:Int)+((x:Int)*y+o):=by rw [ZF];omega
     have e4:IntKind.i64.wrap ((i:Int)+k)=(i:Int)+k:=IntWalk.i64_in _ (by omega)
     have e5:((i:Int)+k).toNat=i+k:=by omega
     have e6:(0:Int)≤(i:Int)+k:=by omega
     have e7:(i:Int)+k<(n1:Int)+n2+1:=by omega
     have e8:(0:Int)≤(i:Int):=by omega
     have e9:(i:Int)<(n1:Int):=by omega
     have HI:=Lib.hid hI
     have HC:=Lib.hid hcy'
     clear hI hx hy hoo hxy hcy'
     go_wp2_with fail
     go_quiet ((go_at_call 90;exact Calls.quiet_of_same (Zsg _ (g2.drewN _) k HY.out)))
     go_wp2_with fail
     go_roundw
     case rel=>exact ⟨k+1,_,_,by omega,by go_num,Qu (by rw [←Int.natCast_mul];omega),HC.out,HI.out.step hlt hlt2 HY.out HOO.out (by omega) _⟩
     case measure=>simp [intOf];omega
    ·have e:k=n2+1:=by omega
     subst e
     have HI:=Lib.hid hI
     clear hI
     go_wp2_with fail
     go_roundw
     case rel=>exact ⟨i+1,_,by omega,by go_num,HI.out.end_ HO.out HL.out.2 HLL.out.1 HLL.out.2 HX.out⟩
     case measure=>simp [intOf];omega
  ·have e:i=n1:=by omega
   subst e
   have HO:=Lib.hid hO
   clear hO
   go_wp2_with fail
   refine (Y3 _ (HO.out.lb.read (i+n2+1) HO.out.len.symm) (by omega)).mono ?_
   rintro e w1 ⟨ad3,n3,c3,rfl,g3,hb3⟩
   have hv:=HO.out.sum
   have hv2:val cur0=val l1*val l2:=by
    rw [Z8 l1 (Nat.le_of_eq HL.out.1)] at hv
    rw [←hv,←Z8 cur0 (k:=i+n2+1) (Nat.le_of_eq HO.out.len),ZQ,HO.out.zero _ (Nat.le_refl _)]
    omega
   rw [hv2] at g3
   clear hv hv2
   go_wp2_with fail
   go_ret
   exact ⟨_,_,_,rfl,g3,HO.out.below.trans (hb3.mono HO.out.below.size)⟩
theorem Zn4(x y:Nat)(hx:x≤1)(hy:y<4294967296):bits .or .u64 (x:Int) ((y:Int)*2)=((x+y*2:Nat):Int):=by
 rw [show ((y:Int)*2)=((y*2:Nat):Int) by omega,u64_or_nat _ _ (by omega) (by omega)]
 rw [show y*2=y*2 ^ 1 from rfl,ZgO x y 1 (by omega)]
theorem ZcT(z:Array Value):madeCells z 0=#[]:=by
 apply Array.eq_empty_of_size_eq_zero
 simp [madeCells]
set_option maxHeartbeats 1600000 in
theorem ZpR(w:World){ad1:Option Addr}{n1 c1:Nat}{l1:List Nat}(h1:LimR w ad1 n1 c1 l1)(hn1:n1≤8796093022208):
  Calls Tryz.prog 123 #[.slice ad1 n1 c1,.int .i64 1] w (RetN (val l1+val l1) w):=by
 obtain ⟨i0,hi0,hz0,hz1,hz2⟩:=info_parts Tryz.infoU32
 have HI:=Lib.hid (And.intro hi0 (And.intro hz0 (And.intro hz1 hz2)))
 have HL:=Lib.hid h1.len
 have hmk:= Tryz.mkU32s 0 0 rfl (by omega)
 clear hi0 hz0 hz1 hz2
 go_enter Tryz.func123, Tryz.ntmps123
 go_wp2_with fail
 clear hmk
 go_loopw [5,6,7] (fun s5 s6 s7 wr=>∃k cy L,k≤n1∧s7=.int .i64 (k:Nat)∧s6=.int .u64 (cy:Nat)∧cy≤1∧ZjQ k cy l1 l1 w wr s5 L) (fun _ _ i _=>n1-(intOf i).toNat)
 case atStart=>exact ⟨0,0,[],by omega,rfl,rfl,by omega,⟨VN _ _ _ _ _ (Nat.le_refl _) (by rw [ZcT];exact Blk.new _ _ _),XT⟩,rfl,by simp [val,Yy],(Below.refl _ _).alloc (Nat.le_refl _) _⟩
 case round=>
  obtain ⟨k,cy,L,hk,rfl,rfl,hcy,hV⟩:=hrel
  by_cases hlt:k<n1
  ·have HV:=Lib.hid hV
   have hkb:k≤8796093022208:=by omega
   obtain ⟨b,o,x,rfl,hb0,hx,hu,HX⟩:=h1.at_ hlt
   have hx':=(hV.below.cell (p:=⟨b,o+k,none⟩) hb0).trans hx
   have eor:=Zn4 cy x hcy hu
   have ew:IntKind.u64.wrap ((x:Int)*2)=(x:Int)*2:=by rw [ZF];omega
   clear hV hx
   go_wp2_with (at_builtin;refine QK _ rfl (.tmp 27) (.tmp 30) _ _ rfl _ Tryz.underlying23 w.heap.size 114 i0 _ 1 4 Tryz.underlying23 HI.out.1 HI.out.2.1 HI.out.2.2.1 HI.out.2.2.2 rfl (by omega) _ L.length _ rfl (HV.out.own.1.alloc _) (some ⟨wr.heap.size,0,none⟩) 1 1 _ rfl rfl (Ja wr _ _) (by intro u hu;simp at hu;subst hu;rfl) (by rw [HV.out.len];simp only [maxLen];omega) (by rw [HV.out.len];omega) (by have:=HV.out.below.size;simp;omega) ?_;intro v1 w1 hown1 hg1 hat1)
   have hb1:Below w.heap.size w w1:=(HV.out.below.alloc HV.out.below.size _).trans (Q7 (size:=1) hg1 (HV.out.own.1.alloc _) (by have:=HV.out.below.size;simp;omega))
   have ho1:=OwnL.snoc (z:=(cy+(x+x)) % 4294967296) (by omega) HV.out.own.2 rfl (by omega) hown1
   clear hown1 hg1 hat1
   go_wp2_with fail
   go_roundw
   case rel=>exact ⟨k+1,(cy+(x+x)) / 4294967296,_,by omega,by go_num,Qu (by omega),by omega,ho1,by simp [HV.out.len],ZjG HV.out.len HX.out HX.out HV.out.sum,hb1⟩
   case measure=>simp [intOf];omega
  ·have HV:=Lib.hid hV
   have e:k=n1:=by omega
   subst e
   have hsum:val (L++[cy])=val l1+val l1:=by
    rw [Kw,hV.len,hV.sum,Z8 l1 (by rw [HL.out];omega)]
   have HS:=Lib.hid hsum
   clear hV hsum hlt
   go_wp2_with (at_builtin;refine QK _ rfl (.tmp 34) (.tmp 37) _ _ rfl _ Tryz.underlying23 w.heap.size 114 i0 _ 1 4 Tryz.underlying23 HI.out.1 HI.out.2.1 HI.out.2.2.1 HI.out.2.2.2 rfl (by omega) _ L.length _ rfl (HV.out.own.1.alloc _) (some ⟨wr.heap.size,0,none⟩) 1 1 _ rfl rfl (Ja wr _ _) (by intro u hu;simp at hu;subst hu;rfl) (by rw [HV.out.len];simp only [maxLen];omega) (by rw [HV.out.len];omega) (by have:=HV.out.below.size;simp;omega) ?_;intro v1 w1 hown1 hg1 hat1)
   have hb1:Below w.heap.size w w1:=(HV.out.below.alloc HV.out.below.size _).trans (Q7 (size:=1) hg1 (HV.out.own.1.alloc _) (by have:=HV.out.below.size;simp;omega))
   have ho1:=OwnL.snoc (z:=cy) (by omega) HV.out.own.2 rfl (by omega) hown1
   obtain ⟨ad,c,rfl,hr⟩:=ho1.read
   refine (Y3 _ hr (by simp [HV.out.len];omega)).mono ?_
   rintro e w4 ⟨ad4,n4,c4,rfl,g4,hb4⟩
   rw [HS.out] at g4
   go_wp2_with fail
   go_ret
   exact ⟨_,_,_,rfl,g4,hb1.trans (hb4.mono hb1.size)⟩
def Zzj(a n:Nat)(w:World)(e:Ending)(w':World):Prop:=∃k:Nat,e=.returned (.int .i64 (k:Int))∧k≤32*n∧a<2 ^ k∧Below w.heap.size w w'
theorem Zod{a k m x:Nat}(h:a<2 ^ k*(x+1)):a<2 ^ (k+1)*(x / 2+1):=by
 have h1:x+1≤2*(x / 2+1):=by omega
 have h2:2 ^ k*(x+1)≤2 ^ k*(2*(x / 2+1)):=Nat.mul_le_mul_left _ h1
 rw [←Nat.mul_assoc] at h2
 rw [Nat.pow_succ]
 omega
set_option maxHeartbeats 1600000 in
theorem ZlM(w:World){ad:Option Addr}{n c:Nat}{l:List Nat}(h:LimR w ad n c l)(hn:n≤8796093022208):
  Calls Tryz.prog 122 #[.slice ad n c] w (Zzj (val l) n w):=by
 have HN:=Lib.hid (Zn h.lim)
 rw [h.len] at HN
 go_enter Tryz.func122, Tryz.ntmps122
 go_wp2_with fail
 refine (Y3 w h (by omega)).mono ?_
 rintro e w1 ⟨ad1,m,c1,rfl,g,hb⟩
 clear h
 generalize val l=a at*
 have hm:m≤n:=by have:=HN.out;rwa [g.len] at this
 rcases Nat.eq_zero_or_pos m with h0|h0
 ·have HA:Hid (a=0):=by
   have:=g.len;rw [h0] at this;exact ZZ.1 this
  have e1:((m:Int)==0)=true:=by simp;omega
  clear h0
  go_wp2_with fail
  go_ret
  exact ⟨0,rfl,by omega,by rw [HA.out];exact Nat.one_pos,hb⟩
 ·obtain ⟨b,o,x,rfl,_,hx,hu,HX⟩:=g.at_ (show m-1<m by omega)
  have HT:=Lib.hid (Zcx g.len h0)
  have HS:Hid (a<2 ^ (32*(m-1))*(x+1)):=by
   have:=HT.out.2.1
   rw [HX.out] at this
   rw [Nat.pow_mul]
   exact this
  have e1:((m:Int)==0)=false:=by simp;omega
  have e2:IntKind.i64.wrap ((m:Int)-1)=(m:Int)-1:=IntWalk.i64_in _ (by omega)
  have e3:((m:Int)-1).toNat=m-1:=by omega
  have e4:(0:Int)≤(m:Int)-1:=by omega
  have e5:(m:Int)-1<(m:Int):=by omega
  have e6:IntKind.i64.wrap (32*((m:Int)-1))=32*((m:Int)-1):=IntWalk.i64_in _ (by omega)
  go_wp2_with fail
  go_loopw [3,4] (fun s3 s4 wr=>∃k y:Nat,s3=.int .i64 (32*((m:Int)-1)+k)∧s4=.int .u32 (y:Int)∧Hid (k≤32∧y<2 ^ (32-k)∧a<2 ^ (32*(m-1)+k)*(y+1))∧k≤32∧y<4294967296∧wr=w1) (fun _ y _=>(intOf y).toNat)
  case atStart=>exact ⟨0,x,by simp,rfl,⟨by omega,hu,HS.out⟩,by omega,hu,by trivial⟩
  case round=>
   obtain ⟨k,y,rfl,rfl,HK,hk,hy,rfl⟩:=hrel
   rcases Nat.eq_zero_or_pos y with hz|hz
   ·subst hz
    go_wp2_with fail
    go_ret
    exact ⟨32*(m-1)+k,Q2 (by omega),by omega,by simpa using HK.out.2.2,hb⟩
   ·go_wp2_with fail
    go_roundw
    case rel=>
     have hk32:k<32:=by
      rcases Nat.lt_or_ge k 32 with h9|h9
      ·exact h9
      ·exfalso
       have h8:=HK.out.2.1
       rw [show 32-k=0 by omega] at h8
       omega
     refine ⟨k+1,y / 2,by go_num,by go_num,⟨by omega,?_,?_⟩,by omega,by omega,by trivial⟩
     ·have h8:=HK.out.2.1
      rw [show 32-k=(32-(k+1))+1 by omega,Nat.pow_succ] at h8
      omega
     ·exact Zod (m:=m) HK.out.2.2
    case measure=>simp [intOf];omega
theorem ZhD{l:List Nat}(hL:Lim l){i:Nat}(hi:i<l.length):l.getD i 0=val l / 4294967296 ^ i % 4294967296:=by
 have h1:=QB l i (by omega)
 have h2:=Vy l hi
 have h3:val (l.take i)<4294967296 ^ i:=JH hL i
 have h4:=Ye hL i
 rw [h1,Nat.add_mul_div_left _ _ (Nat.pow_pos (by omega)),Nat.div_eq_of_lt h3,Nat.zero_add,h2,Nat.add_mul_mod_self_left,Nat.mod_eq_of_lt h4]
theorem ZdQ(k:Nat):4294967296 ^ (k / 32)*2 ^ (k % 32)=2 ^ k:=by
 rw [show (4294967296:Nat)=2 ^ 32 from rfl,←Nat.pow_mul,←Nat.pow_add]
 congr 1
 omega
theorem Zho(x j:Nat)(hj:j<32):x % 4294967296 / 2 ^ j % 2=x / 2 ^ j % 2:=by
 have e:4294967296=2 ^ j*2 ^ (32-j):=by rw [←Nat.pow_add,show j+(32-j)=32 by omega]
 rw [e,Nat.mod_mul_right_div_self,Nat.mod_mod_of_dvd]
 exact ⟨2 ^ (31-j),by rw [←Nat.pow_succ',show (31-j).succ=32-j by omega]⟩
theorem Zq4{l:List Nat}(hL:Lim l){k x:Nat}(hi:k / 32<l.length)(hx:l.getD (k / 32) 0=x):x / 2 ^ (k % 32) % 2=val l / 2 ^ k % 2:=by
 rw [←hx,ZhD hL hi,Zho _ _ (Nat.mod_lt _ (by omega)),Nat.div_div_eq_div_mul,ZdQ]
theorem ZqA{l:List Nat}(hL:Lim l){k o q:Nat}(hi:k / 32<l.length)(ho:l.getD (k / 32) 0=o)(hq:val l=2 ^ (k+1)*q):∃m,o=m*2 ^ (k % 32+1):=by
 have h1:val l=4294967296 ^ (k / 32)*(2 ^ (k % 32+1)*q):=by rw [hq,←Nat.mul_assoc];congr 1;rw [Nat.pow_succ,←ZdQ k,Nat.pow_succ,←Nat.mul_assoc]
 rw [←ho,ZhD hL hi,h1,Nat.mul_div_cancel_left _ (Nat.pow_pos (by omega))]
 have e:4294967296=2 ^ (k % 32+1)*2 ^ (31-k % 32):=by rw [←Nat.pow_add,show k % 32+1+(31-k % 32)=32 by omega]
 rw [e,Nat.mul_mod_mul_left]
 exact ⟨_,Nat.mul_comm _ _⟩
theorem Zmh{k o m:Nat}(ho:o<4294967296)(hm:o=m*2 ^ (k % 32+1)):o+2 ^ (k % 32)<4294967296:=by
 have e:4294967296=2 ^ (31-k % 32)*2 ^ (k % 32+1):=by rw [←Nat.pow_add,show (31-k % 32)+(k % 32+1)=32 by omega]
 have h2:2 ^ (k % 32+1)=2 ^ (k % 32)*2:=Nat.pow_succ ..
 have h3:m<2 ^ (31-k % 32):=by
  rcases Nat.lt_or_ge m (2 ^ (31-k % 32)) with h|h
  ·exact h
  ·have:=Nat.mul_le_mul_right (2 ^ (k % 32+1)) h
   omega
 have h4:(m+1)*2 ^ (k % 32+1)≤2 ^ (31-k % 32)*2 ^ (k % 32+1):=Nat.mul_le_mul_right _ h3
 rw [Nat.add_mul,Nat.one_mul] at h4
 have:=Nat.two_pow_pos (k % 32)
 omega
theorem Zrl{o j m:Nat}(ho:o<4294967296)(hj:j<32)(hm:o=m*2 ^ (j+1)):bits .or .u32 (o:Int) ((2 ^ j:Nat):Int)=((o+2 ^ j:Nat):Int):=by
 have h1:2 ^ j<4294967296:=Nat.pow_lt_pow_right (a:=2) (m:=j) (n:=32) (by omega) hj
 rw [u32_or_nat _ _ (by omega) (by omega)]
 have h2:2 ^ j<2 ^ (j+1):=by rw [Nat.pow_succ];have:=Nat.two_pow_pos j;omega
 have h3:=ZgO (2 ^ j) m (j+1) h2
 rw [Nat.or_comm,hm,h3,Nat.add_comm]
theorem Zgb{l:List Nat}{i z d:Nat}(hi:i<l.length)(hz:z=l.getD i 0+d):val (l.set i z)=val l+4294967296 ^ i*d:=by
 induction l generalizing i with
 | nil=>simp at hi
 | cons x l ih=>
   cases i with
   | zero=>simp [val] at*;omega
   | succ i=>
     have:=ih (i:=i) (by simpa using hi) (by simpa using hz)
     simp only [List.set_cons_succ,val,this,Nat.pow_succ]
     rw [Nat.mul_add,←Nat.add_assoc]
     congr 1
     rw [←Nat.mul_assoc,Nat.mul_comm 4294967296]
structure BitInv (a b k r:Nat) (qc:List Nat):Prop where
 quot:val qc=2 ^ k*(a / 2 ^ k / b)
 rem:r=a / 2 ^ k % b
theorem Zgi(a k:Nat):a / 2 ^ k=2*(a / 2 ^ (k+1))+a / 2 ^ k % 2:=by
 rw [Nat.pow_succ,←Nat.div_div_eq_div_mul];omega
theorem BitInv.start{a b k n:Nat}(h:a<2 ^ k)(_hb:0<b):BitInv a b k 0 (List.replicate n 0):=
 ⟨by rw [Nat.div_eq_of_lt h,Nat.zero_div,Nat.mul_zero,WN],by rw [Nat.div_eq_of_lt h,Nat.zero_mod]⟩
theorem Zj5{A b q r d:Nat}(hb:0<b)(hA:A=b*q+r)(hr:r<b)(hd:d<2):(r+r+d<b→(2*A+d) / b=2*q∧(2*A+d) % b=r+r+d)∧(b≤r+r+d→(2*A+d) / b=2*q+1∧(2*A+d) % b=r+r+d-b):=by
 have e:2*A+d=r+r+d+b*(2*q):=by rw [hA];grind
 refine ⟨fun h=>?_,fun h=>?_⟩
 ·rw [e,Nat.add_mul_div_left _ _ hb,Nat.add_mul_mod_self_left,Nat.div_eq_of_lt h,Nat.mod_eq_of_lt h]
  exact ⟨by omega,rfl⟩
 ·have e2:2*A+d=(r+r+d-b)+b*(2*q+1):=by rw [e,Nat.mul_add];omega
  have h3:r+r+d-b<b:=by omega
  rw [e2,Nat.add_mul_div_left _ _ hb,Nat.add_mul_mod_self_left,Nat.div_eq_of_lt h3,Nat.mod_eq_of_lt h3]
  exact ⟨by omega,rfl⟩
theorem BitInv.lo{a b k r d:Nat}{qc:List Nat}(h:BitInv a b (k+1) r qc)(hb:0<b)(hd:a / 2 ^ k % 2=d)(hlt:r+r+d<b):BitInv a b k (r+r+d) qc:=by
 have h1:=Zj5 (d:=d) hb (Nat.div_add_mod (a / 2 ^ (k+1)) b).symm (Nat.mod_lt _ hb) (by omega)
 rw [←h.rem] at h1
 have h2:=h1.1 hlt
 have h3:=Zgi a k
 rw [hd] at h3
 refine ⟨?_,by rw [h3];exact h2.2.symm⟩
 rw [h.quot,h3,h2.1,Nat.pow_succ];grind
theorem BitInv.hi{a b k r d o:Nat}{qc:List Nat}(h:BitInv a b (k+1) r qc)(hb:0<b)(hd:a / 2 ^ k % 2=d)(hge:b≤r+r+d)(hk:k / 32<qc.length)(ho:qc.getD (k / 32) 0=o):BitInv a b k (r+r+d-b) (qc.set (k / 32) (o+2 ^ (k % 32))):=by
 have h1:=Zj5 (d:=d) hb (Nat.div_add_mod (a / 2 ^ (k+1)) b).symm (Nat.mod_lt _ hb) (by omega)
 rw [←h.rem] at h1
 have h2:=h1.2 hge
 have h3:=Zgi a k
 rw [hd] at h3
 refine ⟨?_,by rw [h3];exact h2.2.symm⟩
 rw [Zgb hk (by rw [ho]),h.quot,ZdQ,h3,h2.1,Nat.pow_succ];grind
theorem BitInv.end_{a b r:Nat}{qc:List Nat}(h:BitInv a b 0 r qc):val qc=a / b∧r=a % b:=by
 have h1:=h.quot;have h2:=h.rem
 simp at h1 h2
 exact ⟨h1,h2⟩
theorem Zdb{s b n:Nat}(h:s<b+b)(hb:(lmb b).length≤n):(lmb s).length≤n+1:=by
 have h1:=YW b
 have h2:4294967296 ^ (lmb b).length≤4294967296 ^ n:=Nat.pow_le_pow_right (by omega) hb
 exact Yg (by rw [Nat.pow_succ];omega)
theorem Ztd(x m:Nat)(hx:x<4294967296):bits .and .u32 ((x:Int) / 2 ^ m) 1=((x / 2 ^ m % 2:Nat):Int):=by
 have e:((x:Int) / 2 ^ m)=((x / 2 ^ m:Nat):Int):=by rw [Int.natCast_ediv,Int.natCast_pow];rfl
 have h2:x / 2 ^ m<4294967296:=Nat.lt_of_le_of_lt (Nat.div_le_self _ _) hx
 rw [e,show (1:Int)=((1:Nat):Int) from rfl,u32_and_nat _ _ h2 (by omega),Nat.and_one_is_mod]
theorem Zkb(w:World){x:Nat}(hx:x<4294967296):LimR (w.alloc (.cells #[.int .u32 (x:Int)] 114)) (some ⟨w.heap.size,0,none⟩) 1 1 [x]:=
 ⟨rfl,by omega,X5 hx XT,fun _=>⟨w.heap.size,0,rfl,by simp,fun i hi=>by
  have:i=0:=by omega
  subst this
  have h:=(Blk.new w 114 #[.int .u32 (x:Int)]).cell 0
  simpa using h⟩⟩
theorem Ztr{w:World}{ad:Option Addr}{n c:Nat}{l:List Nat}(h:LimR w ad n c l){p:Addr}(hp:∀a,ad=some a→a.block≠p.block)(u:Value):LimR (w.setCell p u) ad n c l:=
 ⟨h.len,h.cap,h.lim,fun h0=>by
  obtain ⟨b,o,e,hb,hc⟩:=h.cells h0
  refine ⟨b,o,e,by simpa [World.setCell] using hb,fun i hi=>?_⟩
  rw [←hc i hi]
  exact World.cell?_setCell_other w _ _ u (fun e2=>hp _ e (by rw [e2]))⟩
theorem LimR.empty(w:World)(a:Addr):LimR w (some a) 0 0 (lmb 0):=⟨by simp,by omega,Yq 0,fun h=>by omega⟩
def ZAd(k:Nat)(w:World)(e:Ending)(w':World):Prop:=∃(x:Nat) (t:Bool),e=.returned (.tuple #[.int .u64 (x:Int),.bool t])∧Hid (t=true→x=k∧k<18446744073709551616)∧Below w.heap.size w w'
theorem ZdI(w:World){ad:Option Addr}{n c:Nat}{l:List Nat}(h:LimR w ad n c l)(hn:n≤17592186044416):
  Calls Tryz.prog 121 #[.slice ad n c] w (ZAd (val l) w):=
 (ZeX w h hn).mono fun _ _ ⟨h1,h2⟩=>⟨_,_,h1,fun h=>by have h9:=of_decide_eq_true h;exact ⟨if_pos h9,h9⟩,h2⟩
set_option maxHeartbeats 6400000 in
theorem ZaP(w:World){ad1 ad2:Option Addr}{n1 n2 c1 c2:Nat}{l1 l2:List Nat}(h1:LimR w ad1 n1 c1 l1)(h2:LimR w ad2 n2 c2 l2)(hn1:n1≤4398046511104)(hn2:n2≤4398046511104)(hb0:0<val l2):
  Calls Tryz.prog 89 #[.slice ad1 n1 c1,.slice ad2 n2 c2] w (DivPost (val l1 / val l2) (val l1 % val l2) w):=by
 have HL:=Lib.hid (Zn h2.lim)
 rw [h2.len] at HL
 go_enter Tryz.func89, Tryz.ntmps89
 go_wp2_with fail
 refine (ZdI w h1 (by omega)).mono ?_
 rintro e w1 ⟨x1,t1,rfl,HT1,hb1⟩
 have g1:=h1.on hb1
 have g2:=h2.on hb1
 go_wp2_with fail
 refine (ZdI w1 g2 (by omega)).mono ?_
 rintro e W ⟨x2,t2,rfl,HT2,hb2⟩
 have g1':=g1.on hb2
 have g2':=g2.on hb2
 have hW:Below w.heap.size w W:=hb1.trans (hb2.mono hb1.size)
 clear h1 h2 g1 g2 hb1 hb2
 obtain ⟨a,ha⟩:∃a,val l1=a:=⟨_,rfl⟩
 obtain ⟨b,hb⟩:∃b,val l2=b:=⟨_,rfl⟩
 rw [ha,hb]
 rw [hb] at hb0 HL HT2
 rw [ha] at HT1
 have HA:=Lib.hid ha
 have HB:=Lib.hid hb
 clear ha hb
 have e0:t2=true→((x2:Int)==0)=false:=by
  intro h;have:=HT2.out h;simp;omega
 cases t2
 all_goals cases t1
 case true.true=>
  have e0:=e0 rfl
  obtain ⟨ea,hsa⟩:=HT1.out rfl
  obtain ⟨eb,hsb⟩:=HT2.out rfl
  subst ea eb
  have hx2:¬((x2:Int)=0):=by omega
  have hx2n:¬(x2=0):=by omega
  have hx2p:0<x2:=hb0
  have W1:Hid (IntKind.u64.wrap ((x1:Int) / x2)=((x1 / x2:Nat):Int)):=by rw [Hid,←Int.natCast_ediv,ZF];have:=Nat.lt_of_le_of_lt (Nat.div_le_self x1 x2) hsa;generalize x1 / x2=q at*;omega
  have W2:=Lib.hid (Zkm x1 x2)
  have HQ:Hid (x1 / x2<18446744073709551616∧x1 % x2<18446744073709551616):=⟨Nat.lt_of_le_of_lt (Nat.div_le_self _ _) hsa,Nat.lt_of_le_of_lt (Nat.mod_le _ _) hsa⟩
  have hw0:Below W.heap.size W W.drew:=Below.drew (Below.refl _ _)
  clear hsa hsb
  go_upto_region 6 with (fail)
  go_region_held3 (fun _=>True)
   (go_keep)
   (first
   | (go_at_call_of 87 (Value.int .u64 (IntKind.u64.wrap ((x1:Int) / x2)));refine (Zaf _ _ (by rw [W1.out];exact Int.natCast_nonneg _) (by rw [W1.out];have:=HQ.out;generalize x1 / x2=q at*;omega)).mono ?_;rintro e w3 ⟨a3,n3,c3,rfl,g3,hb3'⟩;have hb3:Below W.heap.size W w3:=hw0.trans hb3')
   | (go_at_call 87;refine (Zaf _ ((x1:Int).tmod x2) (show (0:Int)≤((x1 % x2:Nat):Int) from Int.natCast_nonneg _) (show ((x1 % x2:Nat):Int)<18446744073709551616 from by have:=HQ.out;generalize x1 % x2=q at*;omega)).mono ?_;rintro e w4 ⟨a4,n4,c4,rfl,g4,hb4'⟩;have hb4:Below W.heap.size W w4:=hb3.trans (hb4'.mono hb3.size)))
  go_wp2_with fail
  rw [W1.out,Int.toNat_natCast] at g3
  rw [W2.out,Int.toNat_natCast] at g4
  exact bodyPost_ret (v:=.tuple #[.slice a3 n3 c3,.slice a4 n4 c4,.int .i64 0]) (by simp [results, Tryz.results89,go_sem, *]) rfl ⟨_,_,_,_,_,_,rfl,by rw [HA.out,HB.out];exact g3.on hb4',by rw [HA.out,HB.out];exact g4,hW.trans (hb4.mono hW.size)⟩
 all_goals
  obtain ⟨i0,hi0,hz0,hz1,hz2⟩:=info_parts Tryz.infoU32
  have hmk:= Tryz.mkU32s n1 n1 rfl (by omega)
  clear hz0 hz1 hz2 hi0
  go_wp2_with fail
  clear hmk
  have hqb:=(LB.made W n1).alloc (.cells #[] 114)
  have hbw:Below W.heap.size W ((W.alloc (.cells (madeCells #[.int .u32 0] n1) 114)).alloc (.cells #[] 114)):=((Below.refl _ _).alloc (Nat.le_refl _) _).alloc (by simp) _
  refine (ZlM _ (g1'.on hbw) (by omega)).mono ?_
  rintro e w3 ⟨K,rfl,hK,hKa,hb3⟩
  have hq3:=hqb.on hb3
  have hb3':=hbw.trans (hb3.mono hbw.size)
  have HKA:=Lib.hid hKa
  clear hb3 hbw hqb hKa
  go_wp2_with fail
  go_loopw [12,13] (fun s12 s13 wr=>∃k r ad n c qc,k≤32*n1∧s13=.int .i64 ((k:Int)-1)∧s12=.slice ad n c∧LimR wr ad n c (lmb r)∧n≤n2∧LB wr W.heap.size qc∧qc.length=n1∧Hid (BitInv a b k r qc)∧Below W.heap.size W wr) (fun _ i _=>(intOf i+1).toNat)
  case atStart=>exact ⟨K,0,_,_,_,_,hK,by go_num,rfl,LimR.empty _ _,by omega,hq3,by simp,BitInv.start (by rw [←HA.out];exact HKA.out) hb0,hb3'⟩
  case round=>
   clear hq3 hb3'
   obtain ⟨k,r,ad,n,c,qc,hk,rfl,rfl,gr,hn,hq,hql,HI,hbr⟩:=hrel
   rcases Nat.eq_zero_or_pos k with rfl|hpos
   ·go_wp2_with fail
    refine (Y3 _ (hq.read n1 hql.symm) (by omega)).mono ?_
    rintro e w5 ⟨a5,n5,c5,rfl,g5,hb5⟩
    go_wp2_with fail
    obtain ⟨e1,e2⟩:=HI.out.end_
    rw [e1] at g5
    rw [e2] at gr
    exact bodyPost_ret (v:=.tuple #[.slice a5 n5 c5,.slice ad n c,.int .i64 0]) (by simp [results, Tryz.results89,go_sem, *]) rfl ⟨_,_,_,_,_,_,rfl,by rw [HA.out,HB.out];exact g5,by rw [HA.out,HB.out];exact gr.on hb5,hW.trans ((hbr.trans (hb5.mono hbr.size)).mono hW.size)⟩
   ·obtain ⟨j,rfl⟩:∃j,k=j+1:=⟨k-1,by omega⟩
    have ei:(((j+1:Nat):Int)-1)=(j:Int):=by omega
    rw [ei]
    clear ei
    obtain ⟨q,hq32⟩:∃q,j / 32=q:=⟨_,rfl⟩
    obtain ⟨m,hm32⟩:∃m,j % 32=m:=⟨_,rfl⟩
    have hqn:q<n1:=by omega
    have hmn:m<32:=by omega
    have hjl:j≤140737488355328:=by omega
    have D1:(j:Int).tdiv 32=(q:Int):=by rw [←hq32];rfl
    have D2:(j:Int).tmod 32=(m:Int):=by rw [←hm32];rfl
    have HJ:=Lib.hid (And.intro hq32 hm32)
    clear hq32 hm32
    go_wp2_with fail
    refine (ZpR _ gr (by omega)).mono ?_
    rintro e w5 ⟨a5,n5,c5,rfl,g5,hb5⟩
    rw [Zg] at g5
    obtain ⟨b1,o1,x,rfl,hb1,hx,hu,HX⟩:=g1'.at_ hqn
    have hb5':=hbr.trans (hb5.mono hbr.size)
    have hx':=(hb5'.cell (p:=⟨b1,o1+q,none⟩) hb1).trans hx
    obtain ⟨d,hd⟩:∃d,x / 2 ^ m % 2=d:=⟨_,rfl⟩
    have hd2:d<2:=by omega
    have EA:bits .and .u32 ((x:Int) / 2 ^ m) 1=(d:Int):=by rw [←hd];exact Ztd x m hu
    have HD:Hid (a / 2 ^ j % 2=d):=by
     have h8:=HJ.out
     have h9:=Zq4 (k:=j) (x:=x) g1'.lim (by rw [g1'.len,h8.1];exact hqn) (by rw [h8.1];exact HX.out)
     rw [h8.2,HA.out,hd] at h9
     exact h9.symm
    have hrb:r<b:=by rw [HI.out.rem];exact Nat.mod_lt _ hb0
    have hn5:n5≤n2+1:=by rw [←g5.len];exact Zdb (by omega) HL.out
    clear hx hd
    go_wp2_with fail
    refine (ZdU _ (g5.on ((Below.refl _ _).alloc (Nat.le_refl _) _)) (Zkb w5 (x:=d) (by omega)) (by omega) (by omega)).mono ?_
    rintro e w6 ⟨a6,n6,c6,rfl,g6,hb6⟩
    rw [Zg,show val [d]=d by simp [val]] at g6
    have hn6:n6≤n2+1:=by rw [←g6.len];exact Zdb (by omega) HL.out
    have hb56:Below w5.heap.size w5 w6:=((Below.refl _ _).alloc (Nat.le_refl _) _).trans (hb6.mono (by simp))
    have hb6':=hb5'.trans (hb56.mono hb5'.size)
    have hq6:=(hq.on hb5).on hb56
    clear hb5 hb6 hb56 hq g5 gr hx' EA hbr hb5'
    go_wp2_with fail
    refine (Zdj _ g6 (g2'.on hb6') (by omega) (by omega)).mono ?_
    rintro e w1 ⟨rfl,rfl⟩
    rw [Zg,HB.out]
    by_cases hge:b≤r+r+d
    ·have hc:=Zbt hge
     generalize QW (r+r+d) b=cc at*
     go_wp2_with fail
     refine (Zeb _ g6 (g2'.on hb6') (by omega) (by omega) (by rw [Zg,HB.out];exact hge)).mono ?_
     rintro e w7 ⟨a7,n7,c7,rfl,g7,hb7,hf7⟩
     rw [Zg,HB.out] at g7
     have hn7:n7≤n2:=by rw [←g7.len];exact Nat.le_trans (Zw (by omega)) HL.out
     have hq7:=hq6.on hb7
     have hb7':=hb6'.trans (hb7.mono hb6'.size)
     have HF7:Hid (∀x,a7=some x→x.block≠W.heap.size):=fun x hx=>by have h8:=hf7 x hx;have h9:=hq6.lt;omega
     obtain ⟨o,ho⟩:∃o,qc.getD q 0=o:=⟨_,rfl⟩
     have hol:o<4294967296:=by rw [←ho];exact Ye hq7.2 q
     have hqc:=hq7.cell (i:=q) (by omega)
     have hqf:=hq7.frozen q
     rw [ho] at hqc
     have HO:=Lib.hid ho
     clear hb7 hf7 ho hq6 g6 hb6'
     obtain ⟨mm,hmm⟩:=ZqA hq7.2 (k:=j) (o:=o) (q:=a / 2 ^ (j+1) / b) (by rw [HJ.out.1];omega) (by rw [HJ.out.1];exact HO.out) HI.out.quot
     rw [HJ.out.2] at hmm
     have hlb:=Zmh (k:=j) hol (by rw [HJ.out.2];exact hmm)
     rw [HJ.out.2] at hlb
     have EO:=Zrl hol hmn hmm
     obtain ⟨p,hp⟩:∃p,2 ^ m=p:=⟨_,rfl⟩
     rw [hp] at hlb EO
     have hpI:((2:Int) ^ m)=(p:Int):=by rw [←hp,Int.natCast_pow];rfl
     have ES:IntKind.u32.wrap ((2:Int) ^ m)=(p:Int):=by rw [hpI];simp [IntKind.wrap,IntKind.signed,IntKind.bits];omega
     have HP:=Lib.hid hp
     have q1:(0:Int)≤(q:Int):=by omega
     have q2:(q:Int)<(n1:Int):=by omega
     have m1:(0:Int)≤(m:Int):=by omega
     have HH:=Lib.hid hmm
     clear hmm hp hpI
     go_upto_region 15 with (fail)
     go_region
     go_wp2_with fail
     go_roundw
     case rel=>exact ⟨j,r+r+d-b,_,_,_,qc.set q (o+p),by omega,by go_num,rfl,Ztr (g7.drewN _) (p:=⟨W.heap.size,q,none⟩) HF7.out _,hn7,LB.set_ (w:=w7.drewN _) hq7 q (o+p) hlb,by rw [List.length_set];exact hql,by rw [←HP.out,←HJ.out.1,←HJ.out.2];exact HI.out.hi hb0 HD.out hge (by rw [HJ.out.1,hql];exact hqn) (by rw [HJ.out.1];exact HO.out),(hb7'.drewN _).setCell (p:=⟨W.heap.size,q,none⟩) (Nat.le_refl _) _⟩
     case measure=>simp [intOf]
    ·have hc:=Zap (Nat.lt_of_not_le hge)
     rw [hc]
     go_wp2_with fail
     go_roundw
     case rel=>exact ⟨j,r+r+d,_,_,_,qc,by omega,by go_num,rfl,g6,by rw [←g6.len];exact Nat.le_trans (Zw (by omega)) HL.out,hq6,hql,HI.out.lo hb0 HD.out (by omega),hb6'⟩
     case measure=>simp [intOf]
set_option maxHeartbeats 1600000 in
theorem Zot(w:World){ad1 ad2:Option Addr}{n1 n2 c1 c2:Nat}{l1 l2:List Nat}(h1:LimR w ad1 n1 c1 l1)(h2:LimR w ad2 n2 c2 l2)(hn1:n1≤4398046511104)(hn2:n2≤4398046511104):
  Calls Tryz.prog 88 #[.slice ad1 n1 c1,.slice ad2 n2 c2] w (RetN (Nat.gcd (val l1) (val l2)) w):=by
 have HN1:=Lib.hid (Zn h1.lim)
 have HN2:=Lib.hid (Zn h2.lim)
 rw [h1.len] at HN1
 rw [h2.len] at HN2
 go_enter Tryz.func88, Tryz.ntmps88
 go_wp2_with fail
 refine (Y3 w h1 (by omega)).mono ?_
 rintro e w1 ⟨ad1',m1,c1',rfl,g1,hb1⟩
 have hm1:m1≤n1:=by rw [←g1.len];exact HN1.out
 have h2':=h2.on hb1
 go_wp2_with fail
 refine (Y3 _ h2' (by omega)).mono ?_
 rintro e w2 ⟨ad2',m2,c2',rfl,g2,hb2⟩
 have hm2:m2≤n2:=by rw [←g2.len];exact HN2.out
 have g1':=g1.on hb2
 have hw2:=hb1.trans (hb2.mono hb1.size)
 clear h1 h2 h2' g1 hb1 hb2
 generalize val l1=a at*
 generalize val l2=b at*
 go_wp2_with fail
 go_loopg [0,1] b (fun k s0 s1 wr=>∃ad1 n1 c1 ad2 n2 c2 x,s0=.slice ad1 n1 c1∧s1=.slice ad2 n2 c2∧LimR wr ad1 n1 c1 (lmb x)∧LimR wr ad2 n2 c2 (lmb k)∧n1≤4398046511104∧n2≤4398046511104∧Hid (Nat.gcd x k=Nat.gcd a b)∧Below w.heap.size w wr)
 case atStart=>exact ⟨_,_,_,_,_,_,a,rfl,rfl,g1',g2,by omega,by omega,rfl,hw2⟩
 case round=>
  clear g1' g2 hw2
  obtain ⟨ad3,n3,c3,ad4,n4,c4,x,rfl,rfl,g3,g4,hn3,hn4,HG,hb⟩:=hrel
  rcases Nat.eq_zero_or_pos n4 with h0|h0
  ·have HX:Hid (x=Nat.gcd a b):=by
    have h9:=g4.len
    rw [h0,ZZ] at h9
    have:=HG.out
    rw [h9,Nat.gcd_zero_right] at this
    exact this
   subst h0
   rw [HX.out] at g3
   go_wp2_with fail
   go_ret
   exact ⟨_,_,_,rfl,g3,hb⟩
  ·have hk0:0<gk:=by
    rcases Nat.eq_zero_or_pos gk with h9|h9
    ·have:=g4.len;rw [h9] at this;simp at this;omega
    ·exact h9
   go_wp2_with fail
   refine (ZaP _ g3 g4 hn3 hn4 (by rw [Zg];exact hk0)).mono ?_
   rintro e w5 ⟨a5,n5,c5,a6,n6,c6,rfl,g5,g6,hb5⟩
   rw [Zg,Zg] at g5 g6
   have g4':=g4.on hb5
   have hn6:n6≤n4:=by rw [←g6.len,←g4.len];exact Zw (Nat.le_of_lt (Nat.mod_lt _ hk0))
   go_wp2_with fail
   go_roundg (x % gk)
   case measure=>exact Nat.mod_lt _ hk0
   case rel=>exact ⟨_,_,_,_,_,_,gk,rfl,rfl,g4',g6,by omega,by omega,(by rw [Nat.gcd_comm gk,←Nat.gcd_rec,Nat.gcd_comm];exact HG.out:Nat.gcd gk (x % gk)=Nat.gcd a b),hb.trans (hb5.mono hb.size)⟩
end Go.Proofs.YtdaonnnlgfhlaaaGreatDoor
