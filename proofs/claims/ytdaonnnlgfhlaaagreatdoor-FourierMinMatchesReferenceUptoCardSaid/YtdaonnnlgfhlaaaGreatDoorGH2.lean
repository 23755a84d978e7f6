import Derived.Test.YtdaonnnlgfhlaaaGreatDoorGH1
import Derived.Test.YtdaonnnlgfhlaaaGreatDoorGH0
set_option linter.all false
namespace Go.Proofs.YtdaonnnlgfhlaaaGreatDoor
open Go.RowKit
def ZsT(Q:Nat)(w:World)(e:Ending)(w':World):Prop:=∃q:Nat,e=.returned (.int .u64 (q:Int))∧Q≤q∧q≤Q+1∧q<4294967296∧∃d,w'=w.drewN d
set_option maxHeartbeats 3200000 in
theorem Zns(w:World){ad1 ad2:Option Addr}{n n1 c1 c2:Nat}{lu lv:List Nat}(h1:LimR w ad1 n1 c1 lu)(h2:LimR w ad2 n c2 lv)(hn1:n1=n+1)(hn:2≤n)(hnn:n≤17592186044416)(hnorm:2147483648≤lv.getD (n-1) 0)(hlt:val lu<val lv*4294967296):
  Calls Tryz.prog 136 #[.slice ad1 n1 c1,.slice ad2 n c2] w (ZsT (val lu / val lv) w):=by
 subst hn1
 obtain ⟨b1,o1,u0,rfl,_,hu0,lu0,X0⟩:=h1.at_ (show n<n+1 by omega)
 obtain ⟨b1',o1',u1,e1,_,hu1,lu1,X1⟩:=h1.at_ (show n-1<n+1 by omega)
 obtain ⟨rfl,rfl⟩:b1=b1'∧o1=o1':=by simpa using e1
 obtain ⟨b1',o1',u2,e2,_,hu2,lu2,X2⟩:=h1.at_ (show n-2<n+1 by omega)
 obtain ⟨rfl,rfl⟩:b1=b1'∧o1=o1':=by simpa using e2
 obtain ⟨b2,o2,v1,rfl,_,hv1,lv1,Y1⟩:=h2.at_ (show n-1<n by omega)
 obtain ⟨b2',o2',v2,e3,_,hv2,lv2,Y2⟩:=h2.at_ (show n-2<n by omega)
 obtain ⟨rfl,rfl⟩:b2=b2'∧o2=o2':=by simpa using e3
 have H:=Zt5 hn h1.len h2.len h1.lim h2.lim hnorm hlt
 rw [X0.out,X1.out,X2.out,Y1.out,Y2.out] at H
 rw [Y1.out] at hnorm
 clear e1 e2 e3 X0 X1 X2 Y1 Y2 hlt h1 h2
 generalize val lu / val lv=Q at*
 have k1:IntKind.i64.wrap ((n:Int)-1)=(n:Int)-1:=IntWalk.i64_in _ (by omega)
 have k2:IntKind.i64.wrap ((n:Int)-2)=(n:Int)-2:=IntWalk.i64_in _ (by omega)
 have k3:(0:Int)≤(n:Int)-1:=by omega
 have k4:(0:Int)≤(n:Int)-2:=by omega
 have k5:((n:Int)-1).toNat=n-1:=by omega
 have k6:((n:Int)-2).toNat=n-2:=by omega
 have k7:(n:Int)-1<(n:Int)+1:=by omega
 have k8:(n:Int)-2<(n:Int)+1:=by omega
 have k9:(n:Int)-1<(n:Int):=by omega
 have k10:(n:Int)-2<(n:Int):=by omega
 have k11:(n:Int)<(n:Int)+1:=by omega
 have k12:(0:Int)≤(n:Int):=by omega
 go_enter Tryz.func136, Tryz.ntmps136
 go_wp2_with fail
 go_quiet (fail)
 go_wp2_with fail
 go_quiet (fail)
 go_wp2_with fail
 go_loopw [7,8] (fun s7 s8 wr=>∃q r:Nat,s7=.int .u64 (q:Int)∧s8=.int .u64 (r:Int)∧q≤4294967297∧r<4294967296∧ZbH u0 u1 v1 Q q r∧∃d,wr=w.drewN d) (fun q _ _=>(intOf q).toNat)
 case atStart=>
  have ht:=ZsF H
  have hs:=ZlX H
  have hm:(u0*4294967296+u1) % v1<4294967296:=Nat.lt_trans (Nat.mod_lt _ (by omega)) lv1
  refine ⟨(u0*4294967296+u1) / v1,(u0*4294967296+u1) % v1,Qu ?_,Qu ?_,ht,hm,hs,dd2 _ _ _⟩
  ·rw [Zba _ _ lu0 lu1,Zu1,ZF]
   generalize (u0*4294967296+u1) / v1=z at*
   omega
  ·rw [Zba _ _ lu0 lu1,Zkm]
 case round=>
  obtain ⟨q,r,rfl,rfl,hq,hr,hI,d,rfl⟩:=hrel
  have HI:=Lib.hid hI
  clear hI
  have HH:=Lib.hid H
  have HQ:=Lib.hid hq
  clear hq
  have hrv:(r:Int)+v1≤8589934590:=by omega
  by_cases hA:4294967296≤q
  ·have hA':decide ((4294967296:Int)≤q)=true:=by simp;omega
   obtain ⟨hd,hq1⟩:=Zkl HH.out HI.out (.inl hA)
   have HD:=Lib.hid hd
   have HA:=Lib.hid hA
   clear hd hA
   by_cases hC:4294967296≤r+v1
   ·have hC':decide ((4294967296:Int)≤(r:Int)+v1)=true:=by simp;omega
    have HC:=Lib.hid hC
    clear hC hr
    go_wp2_with fail
    go_quiet (fail)
    go_wp2_with fail
    go_ret
    obtain ⟨z1,z2,z3⟩:=ZeI HH.out HD.out HC.out
    exact ⟨q-1,Q2 (by have:=HQ.out;rw [ZF];omega),z2,z3,z1,_,rfl⟩
   ·have hC':decide ((4294967296:Int)≤(r:Int)+v1)=false:=by simp;omega
    have HC:=Lib.hid hC
    clear hC hr
    go_wp2_with fail
    go_quiet (fail)
    go_wp2_with fail
    go_roundw
    case rel=>exact ⟨q-1,r+v1,Qu (by have:=HQ.out;rw [ZF];omega),Qu (by omega),by have:=HQ.out;omega,by have:=HC.out;omega,HD.out,_,rfl⟩
    case measure=>have:=HQ.out;simp [intOf,ZF];omega
  ·have hA':decide ((4294967296:Int)≤q)=false:=by simp;omega
   have hqv:=Znk (q:=q) (by omega) lv2
   have hqv1:(q:Int)*v2≤18446744065119617025:=by rw [←Int.natCast_mul];omega
   have hqv0:(0:Int)≤(q:Int)*v2:=by rw [←Int.natCast_mul];omega
   have hqw:IntKind.u64.wrap ((q:Int)*v2)=(q:Int)*v2:=by rw [ZF];omega
   have hro:bits .or .u64 ((r:Int)*4294967296) (u2:Int)=(r:Int)*4294967296+u2:=by rw [Zba r u2 hr lu2];omega
   have hrw:IntKind.u64.wrap ((r:Int)*4294967296)=(r:Int)*4294967296:=by rw [ZF];omega
   clear hqv hqv1
   by_cases hB:r*4294967296+u2<q*v2
   ·obtain ⟨hd,hq1⟩:=Zkl HH.out HI.out (.inr hB)
    have HD:=Lib.hid hd
    clear hd
    have hB':decide ((r:Int)*4294967296+u2<(q:Int)*v2)=true:=by rw [←Int.natCast_mul];simp;omega
    have HA:=Lib.hid hA
    have HB:=Lib.hid hB
    clear hA hB
    by_cases hC:4294967296≤r+v1
    ·have hC':decide ((4294967296:Int)≤(r:Int)+v1)=true:=by simp;omega
     have HC:=Lib.hid hC
     clear hC hr
     go_wp2_with fail
     go_quiet (fail)
     go_wp2_with fail
     go_ret
     obtain ⟨z1,z2,z3⟩:=ZeI HH.out HD.out HC.out
     exact ⟨q-1,Q2 (by have:=HQ.out;rw [ZF];omega),z2,z3,z1,_,rfl⟩
    ·have hC':decide ((4294967296:Int)≤(r:Int)+v1)=false:=by simp;omega
     have HC:=Lib.hid hC
     clear hC hr
     go_wp2_with fail
     go_quiet (fail)
     go_wp2_with fail
     go_roundw
     case rel=>exact ⟨q-1,r+v1,Qu (by have:=HQ.out;rw [ZF];omega),Qu (by omega),by have:=HQ.out;omega,by have:=HC.out;omega,HD.out,_,rfl⟩
     case measure=>have:=HQ.out;simp [intOf,ZF];omega
   ·have hB':decide ((r:Int)*4294967296+u2<(q:Int)*v2)=false:=by rw [←Int.natCast_mul];simp;omega
    have HA:=Lib.hid hA
    have HB:=Lib.hid hB
    clear hA hB
    go_wp2_with fail
    go_quiet (fail)
    go_wp2_with fail
    go_ret
    obtain ⟨z1,z2⟩:=ZoS HH.out HI.out (by have:=HA.out;omega) (by have:=HB.out;omega)
    exact ⟨q,rfl,z1,z2,by have:=HA.out;omega,dd2 _ _ _⟩
def Mid(w:World)(g i:Nat)(pre P post:List Nat):Prop:=LB w g (pre++(P++post))∧pre.length=i
theorem Mid.cell{w:World}{g i:Nat}{pre P post:List Nat}(h:Mid w g i pre P post){k:Nat}(hk:k<P.length):w.cell? ⟨g,i+k,none⟩=some (.int .u32 (P.getD k 0:Nat)):=by
 rw [h.1.cell (i:=i+k) (by rw [←h.2];simp;omega)]
 simp only [List.getD_eq_getElem?_getD]
 rw [List.getElem?_append_right (by rw [h.2];omega),h.2,Nat.add_sub_cancel_left,List.getElem?_append_left hk]
theorem Mid.frozen{w:World}{g i:Nat}{pre P post:List Nat}(h:Mid w g i pre P post)(k:Nat):w.frozen? ⟨g,i+k,none⟩=false:=h.1.frozen _
theorem Mid.setI{w:World}{g i:Nat}{pre P post:List Nat}(h:Mid w g i pre P post){k:Nat}(hk:k<P.length)(x:Int)(h0:0≤x)(hx:x<4294967296):
  Mid (w.setCell ⟨g,i+k,none⟩ (.int .u32 x)) g i pre (P.set k x.toNat) post:=by
 refine ⟨?_,h.2⟩
 have:=h.1.setI (i+k) x h0 hx
 rwa [List.set_append_right _ _ (by rw [h.2];omega),h.2,Nat.add_sub_cancel_left,List.set_append_left _ _ hk] at this
theorem Mid.lim{w:World}{g i:Nat}{pre P post:List Nat}(h:Mid w g i pre P post):Lim P:=fun y hy=>h.1.2 y (by simp [hy])
theorem Mid.read{w:World}{g i:Nat}{pre P post:List Nat}(h:Mid w g i pre P post)(n c:Nat)(hn:n=P.length)(hc:n≤c):LimR w (some ⟨g,i,none⟩) n c P:=
 ⟨hn.symm,hc,h.lim,fun _=>⟨g,i,rfl,h.1.lt,fun k hk=>h.cell (by omega)⟩⟩
theorem Ju{w wr:World}{g:Nat}(h:w.grownBy wr (some g)){p:Addr}(hb:p.block<w.heap.size)(hne:p.block≠g):wr.cell? p=w.cell? p:=
 World.cell?_of_block (h.block p.block hb (by simpa using hne))
theorem WQ{w wr:World}{g:Nat}(h:w.grownBy wr (some g))(i:Nat)(u:Value):w.grownBy (wr.setCell ⟨g,i,none⟩ u) (some g):=
 ⟨h.os,h.tape,h.output,by simpa [World.setCell] using h.size,fun k hk hne=>(Below.heap_setCell wr ⟨g,i,none⟩ u k (by simpa using hne)).trans (h.block k hk hne)⟩
theorem LimR.only{w w':World}{ad:Option Addr}{n c g:Nat}{l:List Nat}(h:LimR w ad n c l)(hb:w.grownBy w' (some g))(hne:∀a,ad=some a→a.block≠g):LimR w' ad n c l:=
 ⟨h.len,h.cap,h.lim,fun hn=>by
  obtain ⟨b,o,e,hlt,hc⟩:=h.cells hn
  exact ⟨b,o,e,Nat.lt_of_lt_of_le hlt hb.size,fun i hi=>(Ju hb (p:=⟨b,o+i,none⟩) hlt (hne ⟨b,o,none⟩ e)).trans (hc i hi)⟩⟩
structure RedInv (g i n k q cy bw:Nat) (pre P post v:List Nat) (w wr:World) (cur:List Nat):Prop where
 mid:Mid wr g i pre cur post
 len:cur.length=n+1
 sum:vt cur k+q*vt v k=vt P k+4294967296 ^ k*(cy+bw)
 rest:∀j,k≤j→cur.getD j 0=P.getD j 0
 only:w.grownBy wr (some g)
theorem RedInv.step{g i n k q cy bw d u:Nat}{pre P post v:List Nat}{w wr:World}{cur:List Nat}(h:RedInv g i n k q cy bw pre P post v w wr cur)(hk:k<n)(hd:v.getD k 0=d)(hu:cur.getD k 0=u){z:Int}{bz:Nat}(h0:0≤z)(h1:z<4294967296)(hz:z+((cy:Int)+(q:Int)*d) % 4294967296+bw=u+4294967296*(bz:Int)):
  RedInv g i n (k+1) q ((cy+q*d) / 4294967296) bz pre P post v w (wr.setCell ⟨g,i+k,none⟩ (.int .u32 z)) (cur.set k z.toNat):=by
 refine ⟨h.mid.setI (by rw [h.len];omega) z h0 h1,by rw [List.length_set];exact h.len,ZqQ (by rw [h.len];omega) hd ((h.rest k (Nat.le_refl _)).symm.trans hu) ?_ h.sum,fun j hj=>?_,WQ h.only _ _⟩
 ·rw [←Int.natCast_mul] at hz;omega
 ·rw [VU _ (by omega)]
  exact h.rest j (by omega)
structure BackInv (g i n k cy:Nat) (pre W post v:List Nat) (w wr:World) (cur:List Nat):Prop where
 mid:Mid wr g i pre cur post
 len:cur.length=n+1
 sum:vt cur k+4294967296 ^ k*cy=vt W k+vt v k
 rest:∀j,k≤j→cur.getD j 0=W.getD j 0
 only:w.grownBy wr (some g)
theorem BackInv.step{g i n k cy d u:Nat}{pre W post v:List Nat}{w wr:World}{cur:List Nat}(h:BackInv g i n k cy pre W post v w wr cur)(hk:k<n)(hd:v.getD k 0=d)(hu:cur.getD k 0=u){z:Int}(hz:z=((cy:Int)+(u+d)) % 4294967296):
  BackInv g i n (k+1) ((cy+u+d) / 4294967296) pre W post v w (wr.setCell ⟨g,i+k,none⟩ (.int .u32 z)) (cur.set k ((cy+u+d) % 4294967296)):=by
 have e:z.toNat=(cy+u+d) % 4294967296:=by omega
 have hs:=h.mid.setI (k:=k) (by rw [h.len];omega) z (by omega) (by omega)
 rw [e] at hs
 refine ⟨hs,by rw [List.length_set];exact h.len,Zgs (by rw [h.len];omega) ((h.rest k (Nat.le_refl _)).symm.trans hu) hd h.sum,fun j hj=>?_,WQ h.only _ _⟩
 rw [VU _ (by omega)]
 exact h.rest j (by omega)
def ZtK(g i n Q R:Nat)(pre post:List Nat)(w:World)(e:Ending)(w':World):Prop:=
 ∃P,e=.returned (.int .u32 (Q:Int))∧Mid w' g i pre P post∧P.length=n+1∧val P=R∧w.grownBy w' (some g)
theorem Za4{a b:Int}(h:a=b):Ending.returned (.int .u32 a)=.returned (.int .u32 b):=by rw [h]
set_option maxHeartbeats 3200000 in
theorem Zqm(w:World){g i n c1 c2 q:Nat}{ad2:Option Addr}{pre P post v:List Nat}(h1:Mid w g i pre P post)(hP:P.length=n+1)(h2:LimR w ad2 n c2 v)(hne:∀a,ad2=some a→a.block≠g)(hnn:n≤17592186044416)(hc1:n+1≤c1)(hV:0<val v)(hQ1:val P / val v≤q)(hQ2:q≤val P / val v+1)(hq:q<4294967296):
  Calls Tryz.prog 135 #[.slice (some ⟨g,i,none⟩) (n+1) c1,.slice ad2 n c2,.int .u64 (q:Int)] w (ZtK g i n (val P / val v) (val P % val v) pre post w):=by
 have HLV:=Lib.hid h2.len
 have HPL:=Lib.hid hP
 clear hP
 have HQ:=Lib.hid (And.intro hV (And.intro hQ1 hQ2))
 clear hV hQ1 hQ2
 go_enter Tryz.func135, Tryz.ntmps135
 go_wp2_with fail
 go_loopw [7,8,17] (fun s7 s8 s17 wr=>∃k cy bw cur,k≤n∧s17=.int .i64 (k:Nat)∧s7=.int .u64 (cy:Nat)∧s8=.int .u64 (bw:Nat)∧cy<4294967296∧bw≤1∧RedInv g i n k q cy bw pre P post v w wr cur) (fun _ _ k _=>n-(intOf k).toNat)
 case atStart=>exact ⟨0,0,0,P,by omega,rfl,rfl,rfl,by omega,by omega,h1,HPL.out,by simp [Yy],fun _ _=>rfl,World.grownBy.refl w _⟩
 case round=>
  obtain ⟨k,cy,bw,cur,hk,rfl,rfl,rfl,hcy,hbw,hI⟩:=hrel
  by_cases hlt:k<n
  ·obtain ⟨b2,o2,d,rfl,hb2,hd,hdl,HD⟩:=h2.at_ hlt
   have hd':=(Ju hI.only (p:=⟨b2,o2+k,none⟩) hb2 (hne ⟨b2,o2,none⟩ rfl)).trans hd
   have ho:=hI.mid.cell (k:=k) (by rw [hI.len];omega)
   have hf:=hI.mid.frozen k
   clear hd
   obtain ⟨u,hu⟩:∃u:Nat,cur.getD k 0=u:=⟨_,rfl⟩
   have hul:u<4294967296:=by rw [←hu];exact Ye hI.mid.lim _
   rw [hu] at ho
   have HU:=Lib.hid hu
   clear hu
   obtain ⟨hqd,hcy'⟩:=Zln hcy hq hdl
   have hqd1:(q:Int)*d≤18446744065119617025:=by rw [←Int.natCast_mul];omega
   have hqd0:(0:Int)≤(q:Int)*d:=by rw [←Int.natCast_mul];omega
   have HC:=Lib.hid hcy'
   have HI:=Lib.hid hI
   have HNE:=Lib.hid hne
   clear hqd hcy' hI hne
   have hcz:((cy:Int)+(q:Int)*d) / 4294967296=(((cy+q*d) / 4294967296:Nat):Int):=by rw [←Int.natCast_mul];omega
   have HCZ:=Lib.hid hcz
   clear hcz
   rcases Int.lt_or_le (u:Int) (((cy:Int)+(q:Int)*d) % 4294967296+bw) with hlo|hhi
   ·rcases Int.lt_or_le (u:Int) (((cy:Int)+(q:Int)*d) % 4294967296) with hlo2|hhi2
    ·go_wp2_with fail
     go_roundw
     case rel=>exact ⟨k+1,_,1,_,by omega,by go_num,Qu HCZ.out,Qu (by rw [ZF,ZF];omega),HC.out,by omega,HI.out.step hlt HD.out HU.out (by omega) (by omega) (by rw [ZF,ZF];omega)⟩
     case measure=>simp [intOf];omega
    ·go_wp2_with fail
     go_roundw
     case rel=>exact ⟨k+1,_,1,_,by omega,by go_num,Qu HCZ.out,Qu (by rw [ZF];omega),HC.out,by omega,HI.out.step hlt HD.out HU.out (by omega) (by omega) (by rw [ZF];omega)⟩
     case measure=>simp [intOf];omega
   ·go_wp2_with fail
    go_roundw
    case rel=>exact ⟨k+1,_,0,_,by omega,by go_num,Qu HCZ.out,Qu (by omega),HC.out,by omega,HI.out.step hlt HD.out HU.out (by omega) (by omega) (by omega)⟩
    case measure=>simp [intOf];omega
  ·have e:k=n:=by omega
   subst e
   have ho:=hI.mid.cell (k:=k) (by rw [hI.len];omega)
   have hf:=hI.mid.frozen k
   obtain ⟨u,hu⟩:∃u:Nat,cur.getD k 0=u:=⟨_,rfl⟩
   have hul:u<4294967296:=by rw [←hu];exact Ye hI.mid.lim _
   rw [hu] at ho
   have HU:=Lib.hid hu
   have HI:=Lib.hid hI
   have HNE:=Lib.hid hne
   clear hu hI hne
   rcases Nat.lt_or_ge u (cy+bw) with hlo|hhi
   ·rcases Nat.lt_or_ge u cy with hlo2|hhi2
    ·have hT:((IntKind.u64.wrap (IntKind.u64.wrap ((u:Int)-cy)-bw) / 9223372036854775808)==(0:Int))=false:=by rw [ZF,ZF];simp;omega
     have hZ:0≤IntKind.u64.wrap (IntKind.u64.wrap ((u:Int)-cy)-bw) % 4294967296∧IntKind.u64.wrap (IntKind.u64.wrap ((u:Int)-cy)-bw) % 4294967296<4294967296∧IntKind.u64.wrap (IntKind.u64.wrap ((u:Int)-cy)-bw) % 4294967296+cy+bw=u+4294967296*1:=by rw [ZF,ZF];omega
     have HZ:=Lib.hid hZ
     clear hZ
     have hM2:=HI.out.mid.setI (k:=k) (by rw [HI.out.len];omega) _ HZ.out.1 HZ.out.2.1
     have hsum:=ZfE HI.out.len HPL.out HLV.out rfl ((HI.out.rest k (Nat.le_refl _)).symm.trans HU.out) (z:=(IntKind.u64.wrap (IntKind.u64.wrap ((u:Int)-cy)-bw) % 4294967296).toNat) (bz:=1) (by have:=HZ.out;omega) HI.out.sum
     have hfin:=Zep rfl HQ.out.1 HQ.out.2.1 HQ.out.2.2 (by have:=XD hM2.lim;rw [List.length_set,HI.out.len] at this;exact this) (by rw [hsum,Nat.mul_one]) (by have:=XD h1.lim;rw [HPL.out] at this;exact this)
     have HF:=Lib.hid hfin
     have hB:BackInv g i k 0 0 pre (cur.set k (IntKind.u64.wrap (IntKind.u64.wrap ((u:Int)-cy)-bw) % 4294967296).toNat) post v w (wr.setCell ⟨g,i+k,none⟩ (.int .u32 (IntKind.u64.wrap (IntKind.u64.wrap ((u:Int)-cy)-bw) % 4294967296))) (cur.set k (IntKind.u64.wrap (IntKind.u64.wrap ((u:Int)-cy)-bw) % 4294967296).toNat):=⟨hM2,by rw [List.length_set];exact HI.out.len,by simp [Yy],fun _ _=>rfl,WQ HI.out.only _ _⟩
     have hWl:(cur.set k (IntKind.u64.wrap (IntKind.u64.wrap ((u:Int)-cy)-bw) % 4294967296).toNat).length=k+1:=by rw [List.length_set];exact HI.out.len
     have HWL:=Lib.hid hWl
     clear hsum hfin hM2 hWl
     go_wp2_with fail
     generalize cur.set k (IntKind.u64.wrap (IntKind.u64.wrap ((u:Int)-cy)-bw) % 4294967296).toNat=W at*
     go_loopw [7,72] (fun s7 s72 wr=>∃j cy cur,j≤k∧s72=.int .i64 (j:Nat)∧s7=.int .u64 (cy:Nat)∧cy≤1∧BackInv g i k j cy pre W post v w wr cur) (fun _ j _=>k-(intOf j).toNat)
     case atStart=>exact ⟨0,0,W,by omega,rfl,rfl,by omega,hB⟩
     case round=>
      clear hB ho hf
      obtain ⟨j,cz,cur,hj,rfl,rfl,hcz,hB⟩:=hrel
      by_cases hlt2:j<k
      ·obtain ⟨b2,o2,d,rfl,hb2,hd,hdl,HD⟩:=h2.at_ hlt2
       have hd':=(Ju hB.only (p:=⟨b2,o2+j,none⟩) hb2 (HNE.out ⟨b2,o2,none⟩ rfl)).trans hd
       have ho:=hB.mid.cell (k:=j) (by rw [hB.len];omega)
       have hf:=hB.mid.frozen j
       clear hd
       obtain ⟨y,hy⟩:∃y:Nat,cur.getD j 0=y:=⟨_,rfl⟩
       have hyl:y<4294967296:=by rw [←hy];exact Ye hB.mid.lim _
       rw [hy] at ho
       have HY:=Lib.hid hy
       have HB:=Lib.hid hB
       clear hy hB
       go_wp2_with fail
       go_roundw
       case rel=>exact ⟨j+1,(cz+y+d) / 4294967296,_,by omega,by go_num,Qu (by omega),by omega,HB.out.step hlt2 HD.out HY.out rfl⟩
       case measure=>simp [intOf];omega
      ·have e:j=k:=by omega
       subst e
       have ho:=hB.mid.cell (k:=j) (by rw [hB.len];omega)
       have hf:=hB.mid.frozen j
       obtain ⟨y,hy⟩:∃y:Nat,cur.getD j 0=y:=⟨_,rfl⟩
       have hyl:y<4294967296:=by rw [←hy];exact Ye hB.mid.lim _
       rw [hy] at ho
       have HY:=Lib.hid hy
       have HB:=Lib.hid hB
       clear hy hB
       go_wp2_with fail
       go_ret
       have hS:=HB.out.mid.setI (k:=j) (by rw [HB.out.len];omega) (((y:Int)+cz) % 4294967296) (by omega) (by omega)
       have hv:=ZgJ HB.out.len HWL.out HLV.out rfl ((HB.out.rest j (Nat.le_refl _)).symm.trans HY.out) (z:=(((y:Int)+cz) % 4294967296).toNat) (by omega) HB.out.sum HB.out.mid.lim
       exact ⟨_,Za4 (by have h9:=HF.out.1;generalize val P / val v=Q9 at h9 ⊢;rw [ZF];omega),hS,by rw [List.length_set];exact HB.out.len,hv.trans HF.out.2,WQ HB.out.only _ _⟩
    ·have hT:((IntKind.u64.wrap ((u:Int)-cy-bw) / 9223372036854775808)==(0:Int))=false:=by rw [ZF];simp;omega
     have hZ:0≤IntKind.u64.wrap ((u:Int)-cy-bw) % 4294967296∧IntKind.u64.wrap ((u:Int)-cy-bw) % 4294967296<4294967296∧IntKind.u64.wrap ((u:Int)-cy-bw) % 4294967296+cy+bw=u+4294967296*1:=by rw [ZF];omega
     have HZ:=Lib.hid hZ
     clear hZ
     have hM2:=HI.out.mid.setI (k:=k) (by rw [HI.out.len];omega) _ HZ.out.1 HZ.out.2.1
     have hsum:=ZfE HI.out.len HPL.out HLV.out rfl ((HI.out.rest k (Nat.le_refl _)).symm.trans HU.out) (z:=(IntKind.u64.wrap ((u:Int)-cy-bw) % 4294967296).toNat) (bz:=1) (by have:=HZ.out;omega) HI.out.sum
     have hfin:=Zep rfl HQ.out.1 HQ.out.2.1 HQ.out.2.2 (by have:=XD hM2.lim;rw [List.length_set,HI.out.len] at this;exact this) (by rw [hsum,Nat.mul_one]) (by have:=XD h1.lim;rw [HPL.out] at this;exact this)
     have HF:=Lib.hid hfin
     have hB:BackInv g i k 0 0 pre (cur.set k (IntKind.u64.wrap ((u:Int)-cy-bw) % 4294967296).toNat) post v w (wr.setCell ⟨g,i+k,none⟩ (.int .u32 (IntKind.u64.wrap ((u:Int)-cy-bw) % 4294967296))) (cur.set k (IntKind.u64.wrap ((u:Int)-cy-bw) % 4294967296).toNat):=⟨hM2,by rw [List.length_set];exact HI.out.len,by simp [Yy],fun _ _=>rfl,WQ HI.out.only _ _⟩
     have hWl:(cur.set k (IntKind.u64.wrap ((u:Int)-cy-bw) % 4294967296).toNat).length=k+1:=by rw [List.length_set];exact HI.out.len
     have HWL:=Lib.hid hWl
     clear hsum hfin hM2 hWl
     go_wp2_with fail
     generalize cur.set k (IntKind.u64.wrap ((u:Int)-cy-bw) % 4294967296).toNat=W at*
     go_loopw [7,72] (fun s7 s72 wr=>∃j cy cur,j≤k∧s72=.int .i64 (j:Nat)∧s7=.int .u64 (cy:Nat)∧cy≤1∧BackInv g i k j cy pre W post v w wr cur) (fun _ j _=>k-(intOf j).toNat)
     case atStart=>exact ⟨0,0,W,by omega,rfl,rfl,by omega,hB⟩
     case round=>
      clear hB ho hf
      obtain ⟨j,cz,cur,hj,rfl,rfl,hcz,hB⟩:=hrel
      by_cases hlt2:j<k
      ·obtain ⟨b2,o2,d,rfl,hb2,hd,hdl,HD⟩:=h2.at_ hlt2
       have hd':=(Ju hB.only (p:=⟨b2,o2+j,none⟩) hb2 (HNE.out ⟨b2,o2,none⟩ rfl)).trans hd
       have ho:=hB.mid.cell (k:=j) (by rw [hB.len];omega)
       have hf:=hB.mid.frozen j
       clear hd
       obtain ⟨y,hy⟩:∃y:Nat,cur.getD j 0=y:=⟨_,rfl⟩
       have hyl:y<4294967296:=by rw [←hy];exact Ye hB.mid.lim _
       rw [hy] at ho
       have HY:=Lib.hid hy
       have HB:=Lib.hid hB
       clear hy hB
       go_wp2_with fail
       go_roundw
       case rel=>exact ⟨j+1,(cz+y+d) / 4294967296,_,by omega,by go_num,Qu (by omega),by omega,HB.out.step hlt2 HD.out HY.out rfl⟩
       case measure=>simp [intOf];omega
      ·have e:j=k:=by omega
       subst e
       have ho:=hB.mid.cell (k:=j) (by rw [hB.len];omega)
       have hf:=hB.mid.frozen j
       obtain ⟨y,hy⟩:∃y:Nat,cur.getD j 0=y:=⟨_,rfl⟩
       have hyl:y<4294967296:=by rw [←hy];exact Ye hB.mid.lim _
       rw [hy] at ho
       have HY:=Lib.hid hy
       have HB:=Lib.hid hB
       clear hy hB
       go_wp2_with fail
       go_ret
       have hS:=HB.out.mid.setI (k:=j) (by rw [HB.out.len];omega) (((y:Int)+cz) % 4294967296) (by omega) (by omega)
       have hv:=ZgJ HB.out.len HWL.out HLV.out rfl ((HB.out.rest j (Nat.le_refl _)).symm.trans HY.out) (z:=(((y:Int)+cz) % 4294967296).toNat) (by omega) HB.out.sum HB.out.mid.lim
       exact ⟨_,Za4 (by have h9:=HF.out.1;generalize val P / val v=Q9 at h9 ⊢;rw [ZF];omega),hS,by rw [List.length_set];exact HB.out.len,hv.trans HF.out.2,WQ HB.out.only _ _⟩
   ·have hT:((((u:Int)-cy-bw) / 9223372036854775808)==(0:Int))=true:=by simp;omega
    have hM2:=HI.out.mid.setI (k:=k) (by rw [HI.out.len];omega) ((u:Int)-cy-bw) (by omega) (by omega)
    have hsum:=ZfE HI.out.len HPL.out HLV.out rfl ((HI.out.rest k (Nat.le_refl _)).symm.trans HU.out) (z:=((u:Int)-cy-bw).toNat) (bz:=0) (by omega) HI.out.sum
    have hfin:=Znf rfl HQ.out.1 HQ.out.2.1 (by rw [hsum,Nat.mul_zero,Nat.add_zero])
    have HF:=Lib.hid hfin
    have HM:=Lib.hid hM2
    clear hsum hfin hM2
    go_wp2_with fail
    go_ret
    refine ⟨_,Za4 (by have:=HF.out.1;omega),HM.out,by rw [List.length_set];exact HI.out.len,HF.out.2,WQ HI.out.only _ _⟩
def DivPost(q r:Nat)(w:World)(e:Ending)(w':World):Prop:=
 ∃a1 n1 c1 a2 n2 c2,e=.returned (.tuple #[.slice a1 n1 c1,.slice a2 n2 c2,.int .i64 0])∧LimR w' a1 n1 c1 (lmb q)∧LimR w' a2 n2 c2 (lmb r)∧Below w.heap.size w w'
theorem ZdJ{B d:Nat}{w w1:World}(h:Below B (w.drewN d) w1):Below B w w1:=⟨h.os,h.tape,h.output,h.size,h.block⟩
theorem LB.only{w w':World}{g h:Nat}{l:List Nat}(hb:LB w g l)(ho:w.grownBy w' (some h))(hne:g≠h):LB w' g l:=
 ⟨(ho.block g hb.lt (by simpa using hne)).trans hb.1,hb.2⟩
set_option maxHeartbeats 3200000 in
theorem Kz(w:World){ad1 ad2:Option Addr}{n1 n2 c1 c2:Nat}{l1 l2:List Nat}(h1:LimR w ad1 n1 c1 l1)(h2:LimR w ad2 n2 c2 l2)(hn1:n1≤8796093022208)(hn2:n2≤8796093022208)(hb0:0<val l2):
  Calls Tryz.prog 108 #[.slice ad1 n1 c1,.slice ad2 n2 c2] w (DivPost (val l1 / val l2) (val l1 % val l2) w):=by
 go_enter Tryz.func108, Tryz.ntmps108
 go_wp2_with fail
 refine (Yf w h1 (by omega)).mono ?_
 rintro e w1 ⟨ad1',m1,c1',rfl,g1,rfl⟩
 have hm1:m1≤n1:=by rw [←g1.len,←h1.len];exact Zn h1.lim
 go_wp2_with fail
 refine (Yf _ h2 (by omega)).mono ?_
 rintro e w1 ⟨ad2',m2,c2',rfl,g2,rfl⟩
 have hm2:m2≤n2:=by rw [←g2.len,←h2.len];exact Zn h2.lim
 clear h1 h2
 generalize val l1=a at*
 generalize val l2=b at*
 have hm20:0<m2:=by
  rcases Nat.eq_zero_or_pos m2 with h0|h0
  ·rw [←g2.len,ZZ] at h0;omega
  ·exact h0
 have e2':((m2:Int)==0)=false:=by simp;omega
 go_wp2_with fail
 refine (Vv w g1 g2 (by omega) (by omega)).mono ?_
 rintro e w1 ⟨rfl,d,rfl⟩
 rw [Zg,Zg]
 by_cases hab:a<b
 ·have hc:=ZcD hab
  have HQ:Hid (a / b=0∧a % b=a):=⟨Nat.div_eq_of_lt hab,Nat.mod_eq_of_lt hab⟩
  generalize QW a b=cc at*
  go_wp2_with fail
  refine (Ws _ (g1.drewN d) (by omega)).mono ?_
  rintro e w1 ⟨ad3,n3,c3,rfl,g3,hb3⟩
  rw [Zg] at g3
  go_wp2_with fail
  refine bodyPost_ret (v:=.tuple #[.slice none 0 0,.slice ad3 n3 c3,.int .i64 0]) (by simp [results, Tryz.results108,go_sem]) rfl ?_
  exact ⟨_,_,_,_,_,_,rfl,by rw [HQ.out.1];exact LimR.nil _ _ _,by rw [HQ.out.2];exact g3,ZdJ hb3⟩
 ·have hc:=Zbt (Nat.le_of_not_lt hab)
  generalize QW a b=cc at*
  by_cases h21:m2=1
  ·obtain ⟨b2,o2,x,rfl,_,hx,hu,HX⟩:=g2.at_ (show 0<m2 by omega)
   rw [Nat.add_zero] at hx
   have hx0:Hid (x=b):=by
    have h3:=ZQ (lmb b) 0
    rw [Yy,HX.out,Z8 _ (by rw [g2.len,h21];omega),Zg] at h3
    show x=b
    omega
   have e1':((m2:Int)==1)=true:=by simp;omega
   clear h21
   go_wp2_with fail
   refine (ZiL _ (g1.drewN d) (by omega) hu (by rw [hx0.out];exact hb0)).mono ?_
   rintro e w1 ⟨a3,n3,c3,a4,n4,c4,rfl,g3,g4,hb3⟩
   rw [Zg,hx0.out] at g3 g4
   go_wp2_with fail
   refine bodyPost_ret (v:=.tuple #[.slice a3 n3 c3,.slice a4 n4 c4,.int .i64 0]) (by simp [results, Tryz.results108,go_sem]) rfl ?_
   exact ⟨_,_,_,_,_,_,rfl,g3,g4,ZdJ hb3⟩
  ·have e1':((m2:Int)==1)=false:=by simp;omega
   have hm22:2≤m2:=by omega
   have hmn:m2≤m1:=by rw [←g1.len,←g2.len];exact Zw (Nat.le_of_not_lt hab)
   obtain ⟨b2,o2,x,rfl,_,hx,hu,HX⟩:=g2.at_ (show m2-1<m2 by omega)
   have hx0:0<x:=by rw [←HX.out];exact (Zcx g2.len (by omega)).2.2
   obtain ⟨k1,k2,k3,k4⟩:=Zb7 x hu hx0
   have hlz:=Zq8 k2 k3 k4 k1
   obtain ⟨s,hs⟩:∃s:Nat,s=32-Lib.bitLen x:=⟨_,rfl⟩
   rw [←hs] at hlz
   have hsI:(32-(Lib.bitLen x:Int))=(s:Int):=by omega
   have hs32:s<32:=by omega
   have HB:=Lib.hid (Zif g2.len (by omega) HX.out hlz.1 hlz.2)
   clear k2 k3 k4 hlz hs h21 hx0
   go_wp2_with fail
   refine (Zrd _ x hu).mono ?_
   rintro e w1 ⟨rfl,rfl⟩
   rw [hsI]
   clear hsI k1 hx
   generalize Lib.bitLen x=bl at*
   go_wp2_with fail
   refine (Zew _ (g1.drewN d) (by omega) (show s≤32 by omega)).mono ?_
   rintro e w3 ⟨gu,uc,rfl,hU,hgu,hul,huv,hb3⟩
   rw [Zg] at huv
   have HUV:=Lib.hid huv
   have HUL:=Lib.hid hul
   have g2':=(g2.drewN d).on hb3
   clear huv hul
   go_wp2_with fail
   refine (Zew _ g2' (by omega) (show s≤32 by omega)).mono ?_
   rintro e w4 ⟨gv,vc,rfl,hV,hgv,hvl,hvv,hb4⟩
   rw [Zg] at hvv
   go_wp2_with fail
   refine (Zj2 _ (hV.read (m2+1) hvl.symm) (by omega)).mono ?_
   rintro e w1 ⟨adv,nv,cv,rfl,hvr,hva,rfl⟩
   rw [hvv] at hvr
   have hnv:nv=m2:=by rw [←hvr.len];exact HB.out.1
   subst hnv
   have hne:∀a,adv=some a→a.block≠gu∧a.block≠w4.heap.size:=by
    intro a ha
    rcases hva with hva|hva
    ·rw [hva] at ha
     cases ha
     have h8:=hU.lt
     have h9:=hV.lt
     show gv≠gu∧gv≠w4.heap.size
     omega
    ·rw [hva] at ha;cases ha
   have HNE:=Lib.hid hne
   have hU4:=hU.on hb4
   have hb04:Below w.heap.size w w4:=ZdJ (hb3.trans (hb4.mono hb3.size))
   have hmk:= Tryz.mkU32 ((m1:Int)-nv+1) (m1-nv+1) (by omega) (by omega)
   clear hva hne hvl hvv hV hU
   go_wp2_with fail
   clear hmk
   have hVlt:b*2 ^ s<4294967296 ^ nv:=by
    have:=YW (b*2 ^ s)
    rwa [HB.out.1] at this
   have hV0:0<b*2 ^ s:=Nat.mul_pos hb0 (Nat.two_pow_pos s)
   have hdo:=ZkV (m:=m1) (n:=nv) hmn HUL.out hU4.2 HUV.out (Zms g1.len (by omega) hm20 hmn HB.out.2.2)
   have HDO:=Lib.hid hdo
   have HVV:=Lib.hid (And.intro hVlt hV0)
   have hguo:gu<w4.heap.size:=hU4.lt
   have hgub:w.heap.size≤gu:=hgu
   have hb04s:w.heap.size≤w4.heap.size:=hb04.size
   clear hdo hVlt hV0 g1 g2 g2' hb3 hb4
   go_loopw [13] (fun s13 wr=>∃k uc oc,k≤m1-nv+1∧s13=.int .i64 ((k:Int)-1)∧ZbO m1 nv k (a*2 ^ s) (b*2 ^ s) uc oc∧LB wr gu uc∧LB wr w4.heap.size oc∧LimR wr adv nv cv (lmb (b*2 ^ s))∧Below w.heap.size w wr) (fun i _=>(intOf i+1).toNat)
   case atStart=>exact ⟨m1-nv+1,uc,_,Nat.le_refl _,by go_num,HDO.out,hU4.alloc _,LB.made w4 _,hvr.on ((Below.refl _ _).alloc (Nat.le_refl _) _),hb04.alloc (by have:=hb04.size;omega) _⟩
   case round=>
    clear hvr hU4 hb04
    obtain ⟨k,uc,oc,hk,rfl,hD,hUr,hOr,hvr,hbr⟩:=hrel
    have HD:=Lib.hid hD
    clear hD
    rcases Nat.eq_zero_or_pos k with rfl|hpos
    ·go_wp2_with fail
     obtain ⟨q1,q2⟩:=Ztw HD.out
     obtain ⟨d1,d2⟩:=Zl0 a b s
     rw [d1] at q1
     refine (Zrk _ (hUr.read (m1+1) HD.out.ulen.symm) (by omega) (by omega)).mono ?_
     rintro e w5 ⟨a5,n5,c5,rfl,g5,hb5⟩
     rw [q2,d2] at g5
     have hO5:=hOr.on hb5
     go_wp2_with fail
     refine (Yf _ (hO5.read (m1-nv+1) HD.out.olen.symm) (by omega)).mono ?_
     rintro e w6 ⟨a6,n6,c6,rfl,g6,rfl⟩
     rw [q1] at g6
     go_wp2_with fail
     refine bodyPost_ret (v:=.tuple #[.slice a6 n6 c6,.slice a5 n5 c5,.int .i64 0]) (by simp [results, Tryz.results108,go_sem]) rfl ?_
     exact ⟨_,_,_,_,_,_,rfl,g6,g5,hbr.trans (hb5.mono hbr.size)⟩
    ·obtain ⟨i,rfl⟩:∃i,k=i+1:=⟨k-1,by omega⟩
     have ei:(((i+1:Nat):Int)-1)=(i:Int):=by omega
     rw [ei]
     clear ei
     obtain ⟨p1,p2,p3,p4,p5⟩:=ZgY HD.out hUr.2 (by omega) hmn HVV.out.1
     have hstep:=fun P' h1 h2=>ZqT (P':=P') HD.out hUr.2 (by omega) hmn HVV.out.1 HVV.out.2 h1 h2
     have HST:=Lib.hid hstep
     have hM:Mid wr gu i (uc.take i) ((uc.drop i).take (nv+1)) (uc.drop (i+(nv+1))):=⟨by rw [←p4];exact hUr,p5⟩
     have HP:=Lib.hid (And.intro p1 p2)
     clear p1 p2 p3 p4 p5 hstep
     generalize (uc.drop i).take (nv+1)=P at*
     generalize uc.take i=pre at*
     generalize uc.drop (i+(nv+1))=post at*
     go_wp2_with fail
     rw [show i+nv+1-i=nv+1 by omega]
     refine (Zns _ (hM.read (nv+1) (m1+1-i) HP.out.1.symm (by omega)) hvr rfl (by omega) (by omega) HB.out.2.1 (by rw [Zg];exact HP.out.2)).mono ?_
     rintro e w5 ⟨q,rfl,hq1,hq2,hq3,d5,rfl⟩
     rw [Zg] at hq1 hq2
     have HQ12:=Lib.hid (And.intro hq1 hq2)
     clear hq1 hq2
     go_wp2_with fail
     refine (Zqm (wr.drewN d5) hM HP.out.1 (hvr.drewN d5) (fun a h=>(HNE.out a h).1) (by omega) (by omega) (by rw [Zg];exact HVV.out.2) (by rw [Zg];exact HQ12.out.1) (by rw [Zg];exact HQ12.out.2) hq3).mono ?_
     rintro e w6 ⟨P',rfl,hM6,hP6,hv6,ho6⟩
     rw [Zg] at hv6
     rw [Zg]
     have hov:P'.length=nv+1∧val P'=val P % (b*2 ^ s):=⟨hP6,hv6⟩
     have HOV:=Lib.hid hov
     clear hov hP6 hv6
     have hO6:=LB.only (w:=wr.drewN d5) hOr ho6 (by omega)
     have hvr6:=LimR.only (w:=wr.drewN d5) (hvr.drewN d5) ho6 (fun a h=>(HNE.out a h).1)
     have hb6:Below w.heap.size w w6:=(hbr.drewN d5).grown ho6 (by have:=hbr.size;exact this) (by intro k hk;cases hk;exact hgub)
     have hQl:val P / (b*2 ^ s)<4294967296:=Nat.div_lt_of_lt_mul HP.out.2
     have hc6:=hO6.cell (i:=i) (by rw [HD.out.olen];omega)
     have hf6:=hO6.frozen i
     generalize hQe:val P / (b*2 ^ s)=Q at*
     have HQE:=Lib.hid hQe
     clear hQe
     go_wp2_with fail
     go_roundw
     case rel=>
      refine ⟨i,pre++(P'++post),oc.set i Q,by omega,by go_num,HQE.out▸HST.out P' HOV.out.1 HOV.out.2,hM6.1.far (p:=⟨w4.heap.size,i,none⟩) (by show gu≠w4.heap.size;omega) _,hO6.set_ i Q hQl,hvr6.only (WQ (World.grownBy.refl w6 _) i _) (fun a h=>(HNE.out a h).2),hb6.setCell (p:=⟨w4.heap.size,i,none⟩) hb04s _⟩
     case measure=>simp [intOf]
set_option maxHeartbeats 3200000 in
theorem Zre(w:World){ad1 ad2:Option Addr}{n1 n2 c1 c2:Nat}{l1 l2:List Nat}(h1:LimR w ad1 n1 c1 l1)(h2:LimR w ad2 n2 c2 l2)(hn1:n1≤8796093022208)(hn2:n2≤8796093022208):
  Calls Tryz.prog 107 #[.slice ad1 n1 c1,.slice ad2 n2 c2] w (RetN (Nat.gcd (val l1) (val l2)) w):=by
 go_enter Tryz.func107, Tryz.ntmps107
 go_wp2_with fail
 refine (Yf w h1 (by omega)).mono ?_
 rintro e w1 ⟨ad1',m1,c1',rfl,g1,rfl⟩
 have hm1:m1≤n1:=by rw [←g1.len,←h1.len];exact Zn h1.lim
 go_wp2_with fail
 refine (Yf _ h2 (by omega)).mono ?_
 rintro e w1 ⟨ad2',m2,c2',rfl,g2,rfl⟩
 have hm2:m2≤n2:=by rw [←g2.len,←h2.len];exact Zn h2.lim
 clear h1 h2
 generalize val l1=a at*
 generalize val l2=b at*
 go_wp2_with fail
 go_loopg [0,1] b (fun k s0 s1 wr=>∃ad1 n1 c1 ad2 n2 c2 x,s0=.slice ad1 n1 c1∧s1=.slice ad2 n2 c2∧LimR wr ad1 n1 c1 (lmb x)∧LimR wr ad2 n2 c2 (lmb k)∧n1≤8796093022208∧n2≤8796093022208∧Hid (Nat.gcd x k=Nat.gcd a b)∧Below w.heap.size w wr)
 case atStart=>exact ⟨_,_,_,_,_,_,a,rfl,rfl,g1,g2,by omega,by omega,rfl,Below.refl _ _⟩
 case round=>
  clear g1 g2
  obtain ⟨ad3,n3,c3,ad4,n4,c4,x,rfl,rfl,g3,g4,hn3,hn4,HG,hb⟩:=hrel
  by_cases hlt:2<n4
  ·have hk0:0<gk:=by
    rcases Nat.eq_zero_or_pos gk with h0|h0
    ·have:=g4.len;rw [h0] at this;simp at this;omega
    ·exact h0
   go_wp2_with fail
   refine (Kz _ g3 g4 hn3 hn4 (by rw [Zg];exact hk0)).mono ?_
   rintro e w5 ⟨a5,n5,c5,a6,n6,c6,rfl,g5,g6,hb5⟩
   rw [Zg,Zg] at g5 g6
   have g4':=g4.on hb5
   have hn6:n6≤n4:=by rw [←g6.len,←g4.len];exact Zw (Nat.le_of_lt (Nat.mod_lt _ hk0))
   go_wp2_with fail
   go_roundg (x % gk)
   case measure=>exact Nat.mod_lt _ hk0
   case rel=>exact ⟨_,_,_,_,_,_,gk,rfl,rfl,g4',g6,by omega,by omega,(by rw [Nat.gcd_comm gk,←Nat.gcd_rec,Nat.gcd_comm];exact HG.out:Nat.gcd gk (x % gk)=Nat.gcd a b),hb.trans (hb5.mono hb.size)⟩
  ·rcases Nat.eq_zero_or_pos n4 with h0|h0
   ·have HX:Hid (x=Nat.gcd a b):=by
     have h9:=g4.len
     rw [h0,ZZ] at h9
     have:=HG.out
     rw [h9,Nat.gcd_zero_right] at this
     exact this
    have e1':((n4:Int)==0)=true:=by simp;omega
    clear h0
    go_wp2_with fail
    refine (Ws _ g3 (by omega)).mono ?_
    rintro e w5 ⟨a5,n5,c5,rfl,g5,hb5⟩
    rw [Zg,HX.out] at g5
    go_wp2_with fail
    go_ret
    exact ⟨_,_,_,rfl,g5,hb.trans (hb5.mono hb.size)⟩
   ·have hk0:0<gk:=by
     rcases Nat.eq_zero_or_pos gk with h9|h9
     ·have:=g4.len;rw [h9] at this;simp at this;omega
     ·exact h9
    have hk64:gk<18446744073709551616:=by
     have h9:=YW gk
     rw [g4.len] at h9
     exact Nat.lt_of_lt_of_le h9 (Nat.pow_le_pow_right (n:=4294967296) (by omega) (show n4≤2 by omega))
    have e1':((n4:Int)==0)=false:=by simp;omega
    have HK:=Lib.hid hk64
    clear hk64
    go_wp2_with fail
    refine (Kz _ g3 g4 hn3 hn4 (by rw [Zg];exact hk0)).mono ?_
    rintro e w5 ⟨a5,n5,c5,a6,n6,c6,rfl,g5,g6,hb5⟩
    rw [Zg,Zg] at g5 g6
    have g4':=g4.on hb5
    have hn6:n6≤n4:=by rw [←g6.len,←g4.len];exact Zw (Nat.le_of_lt (Nat.mod_lt _ hk0))
    have hr64:x % gk<gk:=Nat.mod_lt _ hk0
    have HR:=Lib.hid hr64
    clear hr64
    go_wp2_with fail
    refine (ZbT _ g4' (by omega) (by rw [Zg];exact HK.out)).mono ?_
    rintro e w6 ⟨rfl,rfl⟩
    rw [Zg]
    go_wp2_with fail
    refine (ZbT _ g6 (by omega) (by rw [Zg];exact Nat.lt_trans HR.out HK.out)).mono ?_
    rintro e w6 ⟨rfl,rfl⟩
    rw [Zg]
    have hg2:Nat.gcd gk (x % gk)=Nat.gcd a b:=by rw [Nat.gcd_comm gk,←Nat.gcd_rec,Nat.gcd_comm];exact HG.out
    have HG2:=Lib.hid hg2
    clear hg2
    generalize x % gk=y at*
    go_wp2_with fail
    obtain ⟨wo,rfl⟩:∃wo:World,wo=w5:=⟨_,rfl⟩
    go_loopg [11,13] y (fun k s11 s13 wr=>∃u:Nat,s11=.int .u64 (u:Int)∧s13=.int .u64 (k:Int)∧Hid (u<18446744073709551616∧k<u∧Nat.gcd u k=Nat.gcd a b)∧∃d,wr=wo.drewN d)
    case atStart=>exact ⟨gk,rfl,rfl,⟨HK.out,HR.out,HG2.out⟩,0,rfl⟩
    case round=>
     obtain ⟨u,rfl,rfl,HU,d,rfl⟩:=hrel
     rcases Nat.eq_zero_or_pos gk with rfl|hk
     ·have HX:Hid (u=Nat.gcd a b):=by
       have:=HU.out.2.2
       rwa [Nat.gcd_zero_right] at this
      have HU1:=Lib.hid HU.out.1
      go_wp2_with fail
      have h18:=HU1.out
      refine (Zbh _ (u:Int) (by omega) (by omega)).mono ?_
      clear h18
      rintro e w7 ⟨a7,n7,c7,rfl,g7,hb7⟩
      rw [Int.toNat_natCast,HX.out] at g7
      go_wp2_with fail
      go_ret
      exact ⟨_,_,_,rfl,g7,hb.trans ((hb5.trans (ZdJ hb7 |>.mono hb5.size)).mono hb.size)⟩
     ·go_wp2_with fail
      go_quiet (fail)
      go_wp2_with fail
      go_roundg (u % gk)
      case measure=>exact Nat.mod_lt _ hk
      case rel=>exact ⟨gk,rfl,Qu (Zkm u gk),⟨by have:=HU.out;omega,Nat.mod_lt _ hk,by rw [Nat.gcd_comm gk,←Nat.gcd_rec,Nat.gcd_comm];exact HU.out.2.2⟩,dd2 _ _ _⟩
theorem LimR.box{w:World}{ad:Option Addr}{n c:Nat}{l:List Nat}(h:LimR w ad n c l){p:Addr}{v:Value}(hv:w.cell? p=some v)(hne:∀x,v≠.int .u32 x)(u:Value):LimR (w.setCell p u) ad n c l:=
 ⟨h.len,h.cap,h.lim,fun hn=>by
  obtain ⟨b,o,e,hlt,hc⟩:=h.cells hn
  refine ⟨b,o,e,by simpa [World.setCell] using hlt,fun i hi=>?_⟩
  rw [World.cell?_setCell_other w p ⟨b,o+i,none⟩ u]
  ·exact hc i hi
  ·rintro rfl
   rw [hc i hi] at hv
   injection hv with hv
   exact hne _ hv.symm⟩
theorem KF{w:World}{B i j:Nat}{u:Value}(hij:i≠j):(w.setCell ⟨B,i,none⟩ u).cell? ⟨B,j,none⟩=w.cell? ⟨B,j,none⟩:=
 World.cell?_setCell_other w _ _ u (fun e=>hij (by cases e;rfl))
theorem LimR.box64{w:World}{ad:Option Addr}{n c:Nat}{l:List Nat}(h:LimR w ad n c l){B m k:Nat}{x:Bool}{a:Option Addr}(h0:w.cell? ⟨B,0,none⟩=some (.bool x))(h1:w.cell? ⟨B,1,none⟩=some (.slice a m k))(u v:Value):
  LimR ((w.setCell ⟨B,0,none⟩ u).setCell ⟨B,1,none⟩ v) ad n c l:=
 (h.box h0 (fun _=>by simp) u).box (v:=.slice a m k) (by rw [KF (by omega)];exact h1) (fun _=>by simp) v
theorem LimR.box27{w:World}{ad:Option Addr}{n c:Nat}{l:List Nat}(h:LimR w ad n c l){B m k m' k':Nat}{x:Bool}{a a':Option Addr}(h0:w.cell? ⟨B,0,none⟩=some (.bool x))(h1:w.cell? ⟨B,1,none⟩=some (.slice a m k))(h2:w.cell? ⟨B,2,none⟩=some (.slice a' m' k'))(u v s:Value):
  LimR (((w.setCell ⟨B,0,none⟩ u).setCell ⟨B,1,none⟩ v).setCell ⟨B,2,none⟩ s) ad n c l:=
 (h.box64 h0 h1 u v).box (v:=.slice a' m' k') (by rw [KF (by omega),KF (by omega)];exact h2) (fun _=>by simp) s
def iv(neg:Bool)(l:List Nat):Int:=if neg then -(val l:Int) else (val l:Int)
structure IntC (w:World) (neg:Bool) (ad:Option Addr) (n c:Nat) (z:Int):Prop where
 sign:Hid (neg=decide (z<0))
 mag:LimR w ad n c (lmb z.natAbs)
theorem IntC.on{w w':World}{neg:Bool}{ad:Option Addr}{n c:Nat}{z:Int}(h:IntC w neg ad n c z)(hb:Below w.heap.size w w'):IntC w' neg ad n c z:=⟨h.sign,h.mag.on hb⟩
theorem IntC.val_{w:World}{neg:Bool}{ad:Option Addr}{n c:Nat}{z:Int}(h:IntC w neg ad n c z):iv neg (lmb z.natAbs)=z:=by
 have:=h.sign.out
 unfold iv
 rw [Zg,this]
 by_cases hz:z<0
 ·simp [hz];omega
 ·simp [hz];omega
def Za0(z:Int)(w:World)(e:Ending)(w':World):Prop:=∃neg ad n c,e=.returned (.agg #[.bool neg,.slice ad n c])∧IntC w' neg ad n c z∧Below w.heap.size w w'
theorem Jl{w:World}{neg:Bool}{ad:Option Addr}{n c:Nat}{l:List Nat}(h:LimR w ad n c (lmb (val l))):IntC w (neg && decide (0<n)) ad n c (iv neg l):=by
 have hn:=h.len
 have e:(iv neg l).natAbs=val l:=by unfold iv;cases neg <;>simp
 refine ⟨?_,by rw [e];exact h⟩
 show _=_
 have h0:0<n↔0<val l:=by
  rw [←hn]
  constructor
  ·intro h1
   rcases Nat.eq_zero_or_pos (val l) with h2|h2
   ·rw [h2] at h1;simp at h1
   ·exact h2
  ·intro h1
   rcases Nat.eq_zero_or_pos (lmb (val l)).length with h2|h2
   ·rw [ZZ] at h2;omega
   ·exact h2
 unfold iv
 cases neg
 ·simp
 ·simp;omega
set_option maxHeartbeats 800000 in
theorem Uy(w:World){neg:Bool}{ad:Option Addr}{n c:Nat}{l:List Nat}(h:LimR w ad n c l)(hn:n≤17592186044416):
  Calls Tryz.prog 104 #[.bool neg,.slice ad n c] w (Za0 (iv neg l) w):=by
 have hb0:Below w.heap.size w (w.alloc (.cells #[.bool false,.slice none 0 0] 74)):=(Below.refl _ _).alloc (Nat.le_refl _) _
 cases neg with
 | false=>
   go_enter Tryz.func104, Tryz.ntmps104
   go_wp2_with fail
   refine (Ws _ (h.on hb0) (by omega)).mono ?_
   rintro e w1 ⟨ad1,n1,c1,rfl,g1,hb1⟩
   obtain ⟨hc,hf⟩:=Zy hb1
   have hs:w.heap.size<w1.heap.size:=by have:=hb1.size;simp at this;omega
   have HI:=Jl (neg:=false) g1
   go_wp2_with fail
   have hb2:=((hb0.trans (hb1.mono (by simp))).setCell (p:=⟨w.heap.size,0,none⟩) (Nat.le_refl _) (.bool false)).setCell (p:=⟨w.heap.size,1,none⟩) (Nat.le_refl _) (.slice ad1 n1 c1)
   have hl:=g1.box64 (B:=w.heap.size) (x:=false) (a:=none) (m:=0) (k:=0) (by simp [hc]) (by simp [hc]) (.bool false) (.slice ad1 n1 c1)
   exact bodyPost_ret (v:=.agg #[.bool false,.slice ad1 n1 c1]) (by simp [results, Tryz.results104,go_sem,hc]) rfl ⟨_,_,_,_,rfl,⟨HI.sign,by rw [show (iv false l).natAbs=val l by simp [iv]];exact hl⟩,hb2⟩
 | true=>
   go_enter Tryz.func104, Tryz.ntmps104
   go_wp2_with fail
   refine (Ws _ (h.on hb0) (by omega)).mono ?_
   rintro e w1 ⟨ad1,n1,c1,rfl,g1,hb1⟩
   obtain ⟨hc,hf⟩:=Zy hb1
   have hs:w.heap.size<w1.heap.size:=by have:=hb1.size;simp at this;omega
   have HI:=Jl (neg:=true) g1
   go_wp2_with fail
   have hb2:=((hb0.trans (hb1.mono (by simp))).setCell (p:=⟨w.heap.size,0,none⟩) (Nat.le_refl _) (.bool (decide (0<n1)))).setCell (p:=⟨w.heap.size,1,none⟩) (Nat.le_refl _) (.slice ad1 n1 c1)
   have hl:=g1.box64 (B:=w.heap.size) (x:=false) (a:=none) (m:=0) (k:=0) (by simp [hc]) (by simp [hc]) (.bool (decide (0<n1))) (.slice ad1 n1 c1)
   exact bodyPost_ret (v:=.agg #[.bool (decide (0<n1)),.slice ad1 n1 c1]) (by simp [results, Tryz.results104,go_sem,hc]) rfl ⟨_,_,_,_,rfl,⟨HI.sign,by rw [show (iv true l).natAbs=val l by simp [iv]];exact hl⟩,hb2⟩
theorem IntC.box64{w:World}{neg:Bool}{ad:Option Addr}{n c:Nat}{z:Int}(h:IntC w neg ad n c z){B m k:Nat}{x:Bool}{a:Option Addr}(h0:w.cell? ⟨B,0,none⟩=some (.bool x))(h1:w.cell? ⟨B,1,none⟩=some (.slice a m k))(u v:Value):
  IntC ((w.setCell ⟨B,0,none⟩ u).setCell ⟨B,1,none⟩ v) neg ad n c z:=⟨h.sign,h.mag.box64 h0 h1 u v⟩
theorem ZV{B0 B:Nat}{w w1:World}(h:Below B0 w w1)(hB:B0≤B)(u v:Value):Below B0 w ((w1.setCell ⟨B,0,none⟩ u).setCell ⟨B,1,none⟩ v):=
 (h.setCell (p:=⟨B,0,none⟩) hB u).setCell (p:=⟨B,1,none⟩) hB v
theorem ZC{B0 B:Nat}{w w1:World}(h:Below B0 w w1)(hB:B0≤B)(u v s:Value):Below B0 w (((w1.setCell ⟨B,0,none⟩ u).setCell ⟨B,1,none⟩ v).setCell ⟨B,2,none⟩ s):=
 (ZV h hB u v).setCell (p:=⟨B,2,none⟩) hB s
def RetInt(x:Int)(w:World)(e:Ending)(w':World):Prop:=e=.returned (.int .i64 x)∧Below w.heap.size w w'
theorem Zf0{neg:Bool}{l:List Nat}(h:val l=0):(iv neg l).sign=0:=by unfold iv;cases neg <;>simp [h]
theorem ZhA{l:List Nat}(h:val l≠0):(iv true l).sign=-1:=by unfold iv;simp;omega
theorem ZgR{l:List Nat}(h:val l≠0):(iv false l).sign=1:=by unfold iv;simp;omega
set_option maxHeartbeats 800000 in
theorem Zer(w:World){neg:Bool}{ad:Option Addr}{n c:Nat}{l:List Nat}(h:LimR w ad n c l)(hn:n≤17592186044416):
  Calls Tryz.prog 73 #[.agg #[.bool neg,.slice ad n c]] w (RetInt (iv neg l).sign w):=by
 have hb0:Below w.heap.size w (w.alloc (.cells #[.bool neg,.slice ad n c] 74)):=(Below.refl _ _).alloc (Nat.le_refl _) _
 go_enter Tryz.func73, Tryz.ntmps73
 go_wp2_with fail
 refine (ZbL _ (h.on hb0) (by omega)).mono ?_
 rintro e w1 ⟨b,rfl,hb,HB,rfl⟩
 by_cases hz:b=0
 ·have HZ:Hid (val l=0):=HB.out.1 hz
  subst hz
  go_wp2_with fail
  go_ret
  exact ⟨Q2 (Zf0 HZ.out).symm,hb0⟩
 ·have HZ:Hid (val l≠0):=fun e=>hz (HB.out.2 e)
  have e1:(b==0)=false:=by simp;exact hz
  clear hz
  cases neg with
  | false=>
    go_wp2_with fail
    go_ret
    exact ⟨Q2 (ZgR HZ.out).symm,hb0⟩
  | true=>
    go_wp2_with fail
    go_ret
    exact ⟨Q2 (ZhA HZ.out).symm,hb0⟩
set_option maxHeartbeats 800000 in
theorem JO(w:World){neg:Bool}{a1 a2:Option Addr}{n1 n2 c1 c2:Nat}{l:List Nat}(h:LimR w a1 n1 c1 l)(hn:n1≤17592186044416):
  Calls Tryz.prog 74 #[.agg #[.bool neg,.slice a1 n1 c1,.slice a2 n2 c2]] w (Za0 (iv neg l) w):=by
 have hb0:Below w.heap.size w ((w.alloc (.cells #[.bool neg,.slice a1 n1 c1,.slice a2 n2 c2] 26)).alloc (.cells #[.bool false,.slice none 0 0] 74)):=((Below.refl _ _).alloc (Nat.le_refl _) _).alloc (by simp) _
 go_enter Tryz.func74, Tryz.ntmps74
 go_wp2_with fail
 refine (Uy _ (h.on hb0) (by omega)).mono ?_
 rintro e w1 ⟨neg1,ad3,n3,c3,rfl,g1,hb1⟩
 obtain ⟨hc,hf⟩:=Zy hb1
 have hs:w.heap.size+1<w1.heap.size:=by have:=hb1.size;simp at this;omega
 go_wp2_with fail
 exact bodyPost_ret (v:=.agg #[.bool neg1,.slice ad3 n3 c3]) (by simp [results, Tryz.results74,go_sem,hc]) rfl
  ⟨_,_,_,_,rfl,g1.box64 (B:=w.heap.size+1) (x:=false) (a:=none) (m:=0) (k:=0) (by simp [hc]) (by simp [hc]) _ _,ZV (hb0.trans (hb1.mono (by simp;omega))) (by omega) _ _⟩
set_option maxHeartbeats 800000 in
theorem Zsv(w:World)(x:Int)(h0:-9223372036854775808≤x)(h1:x≤9223372036854775807):
  Calls Tryz.prog 72 #[.int .i64 x] w (Za0 x w):=by
 have hb0:Below w.heap.size w (w.alloc (.cells #[.bool false,.slice none 0 0] 74)):=(Below.refl _ _).alloc (Nat.le_refl _) _
 rcases Int.lt_or_le x 0 with hx|hx
 ·have hxx:IntKind.u64.wrap (-IntKind.u64.wrap x)=-x:=by rw [ZF,ZF];omega
  go_enter Tryz.func72, Tryz.ntmps72
  go_wp2_with fail
  refine (Zbh _ (-x) (by omega) (by omega)).mono ?_
  rintro e w1 ⟨ad3,n3,c3,rfl,g1,hb1⟩
  obtain ⟨hc,hf⟩:=Zy hb1
  have hs:w.heap.size<w1.heap.size:=by have:=hb1.size;simp at this;omega
  have HI:IntC w1 true ad3 n3 c3 x:=⟨(by simp;exact hx:true=decide (x<0)),by rw [show x.natAbs=(-x).toNat by omega];exact g1⟩
  clear g1 hxx
  go_wp2_with fail
  exact bodyPost_ret (v:=.agg #[.bool true,.slice ad3 n3 c3]) (by simp [results, Tryz.results72,go_sem,hc]) rfl
   ⟨_,_,_,_,rfl,HI.box64 (B:=w.heap.size) (x:=false) (a:=none) (m:=0) (k:=0) (by simp [hc]) (by simp [hc]) _ _,ZV (hb0.trans (hb1.mono (by simp))) (by omega) _ _⟩
 ·go_enter Tryz.func72, Tryz.ntmps72
  go_wp2_with fail
  refine (Zbh _ x (by omega) (by omega)).mono ?_
  rintro e w1 ⟨ad3,n3,c3,rfl,g1,hb1⟩
  obtain ⟨hc,hf⟩:=Zy hb1
  have hs:w.heap.size<w1.heap.size:=by have:=hb1.size;simp at this;omega
  have HI:IntC w1 false ad3 n3 c3 x:=⟨(by simp;exact hx:false=decide (x<0)),by rw [show x.natAbs=x.toNat by omega];exact g1⟩
  clear g1
  go_wp2_with fail
  exact bodyPost_ret (v:=.agg #[.bool false,.slice ad3 n3 c3]) (by simp [results, Tryz.results72,go_sem,hc]) rfl
   ⟨_,_,_,_,rfl,HI.box64 (B:=w.heap.size) (x:=false) (a:=none) (m:=0) (k:=0) (by simp [hc]) (by simp [hc]) _ _,ZV (hb0.trans (hb1.mono (by simp))) (by omega) _ _⟩
structure Pro3 (w W:World) (x y z:Array Value) (tx ty tz:TypeId):Prop where
 b0:Blk W w.heap.size tx x
 b1:Blk W (w.heap.size+1) ty y
 b2:Blk W (w.heap.size+2) tz z
 size:W.heap.size=w.heap.size+3
 below:Below w.heap.size w W
theorem Pro3.mk'(w:World)(x y z:Array Value)(tx ty tz:TypeId):Pro3 w (((w.alloc (.cells x tx)).alloc (.cells y ty)).alloc (.cells z tz)) x y z tx ty tz:=by
 have e1:(w.alloc (.cells x tx)).heap.size=w.heap.size+1:=by simp
 have e2:((w.alloc (.cells x tx)).alloc (.cells y ty)).heap.size=w.heap.size+2:=by simp
 refine ⟨((Blk.new w tx x).alloc _).alloc _,?_,?_,by simp,(((Below.refl _ _).alloc (Nat.le_refl _) _).alloc (by simp) _).alloc (by simp;omega) _⟩
 ·have:=(Blk.new (w.alloc (.cells x tx)) ty y).alloc (.cells z tz)
  rwa [e1] at this
 ·have:=Blk.new ((w.alloc (.cells x tx)).alloc (.cells y ty)) tz z
  rwa [e2] at this
theorem XS{w w':World}{a1 a2:Option Addr}{n1 n2 c1 c2:Nat}{l1 l2:List Nat}(h1:LimR w a1 n1 c1 l1)(h2:LimR w' a2 n2 c2 l2):(lmb (val l1*val l2)).length≤n1+n2:=by
 have h3:=YB (val l1) (val l2)
 have h4:=Zn h1.lim
 have h5:=Zn h2.lim
 rw [h1.len] at h4
 rw [h2.len] at h5
 omega
theorem Zi8{w w':World}{a1 a2:Option Addr}{n1 n2 c1 c2:Nat}{l1 l2:List Nat}(h1:LimR w a1 n1 c1 l1)(h2:LimR w' a2 n2 c2 l2):(lmb (val l1+val l2)).length≤n1+n2+1:=by
 have h3:=VT (val l1) (val l2)
 have h4:=Zn h1.lim
 have h5:=Zn h2.lim
 rw [h1.len] at h4
 rw [h2.len] at h5
 omega
theorem Zwg(s1 s2:Bool)(l1 l2:List Nat)(l:List Nat)(h:val l=val l1*val l2):iv (s1 !=s2) l=iv s1 l1*iv s2 l2:=by
 unfold iv
 rw [h]
 cases s1 <;>cases s2 <;>simp [Int.natCast_mul,Int.neg_mul,Int.mul_neg]
set_option maxRecDepth 100000 in
set_option maxHeartbeats 3200000 in
theorem Zhe(w:World){s1 s2:Bool}{a1 a2:Option Addr}{n1 n2 c1 c2:Nat}{l1 l2:List Nat}(h1:LimR w a1 n1 c1 l1)(h2:LimR w a2 n2 c2 l2)(hn1:n1≤4398046511104)(hn2:n2≤4398046511104):
  Calls Tryz.prog 128 #[.agg #[.bool s1,.slice a1 n1 c1],.agg #[.bool s2,.slice a2 n2 c2]] w (Za0 (iv s1 l1*iv s2 l2) w):=by
 have hP:=Pro3.mk' w #[.bool s1,.slice a1 n1 c1] #[.bool s2,.slice a2 n2 c2] #[.bool false,.slice none 0 0] 74 74 74
 go_enter Tryz.func128, Tryz.ntmps128
 go_wp2_with fail
 generalize ((w.alloc (.cells #[.bool s1,.slice a1 n1 c1] 74)).alloc (.cells #[.bool s2,.slice a2 n2 c2] 74)).alloc (.cells #[.bool false,.slice none 0 0] 74)=W at*
 have k0:=hP.b0.cell 0
 have k1:=hP.b0.cell 1
 have k2:=hP.b1.cell 0
 have k3:=hP.b1.cell 1
 have k4:=hP.b2.cell 0
 have k5:=hP.b2.cell 1
 have k6:=hP.b2.frozen 0
 have k7:=hP.b2.frozen 1
 simp at k0 k1 k2 k3 k4 k5
 have z0:=hP.b0.lt
 have z1:=hP.b1.lt
 have z2:=hP.b2.lt
 have nb0:w.heap.size+1+1≠w.heap.size:=by omega
 have g1:=h1.on hP.below
 have g2:=h2.on hP.below
 go_region_held3 (fun w'=>w'.cell? ⟨w.heap.size,0,none⟩=some (.bool s1)∧w'.cell? ⟨w.heap.size,1,none⟩=some (.slice a1 n1 c1)∧w'.cell? ⟨w.heap.size+1,0,none⟩=some (.bool s2)∧w'.cell? ⟨w.heap.size+1,1,none⟩=some (.slice a2 n2 c2))
  (go_keep)
  (first
   | (go_at_call 76;refine (KD _ (g1.on (Below.drew (Below.refl _ _))) (g2.on (Below.drew (Below.refl _ _))) (by omega) (by omega)).mono ?_;rintro e w3 ⟨ad3,n3,c3,rfl,g3,hb3'⟩;have hb3:Below W.heap.size W w3:=(Below.drew (Below.refl _ _)).trans hb3';obtain ⟨hc3,hf3⟩:=Zy hb3)
   | (go_at_call 104;refine (Uy _ g3 (by have h9:=XS h1 h2;rw [g3.len] at h9;omega)).mono ?_;rintro e w4 ⟨neg4,ad4,n4,c4,rfl,g4,hb4'⟩;have hb4:Below W.heap.size W w4:=hb3.trans (hb4'.mono hb3.size);obtain ⟨hc4,hf4⟩:=Zy hb4))
 go_wp2_with fail
 have g5:IntC w4 neg4 ad4 n4 c4 (iv s1 l1*iv s2 l2):=by rw [←Zwg s1 s2 l1 l2 _ (Zg _)];exact g4
 exact bodyPost_ret (v:=.agg #[.bool neg4,.slice ad4 n4 c4]) (by simp [results, Tryz.results128,go_sem, *]) rfl
  ⟨_,_,_,_,rfl,g5.box64 (B:=w.heap.size+1+1) (x:=false) (a:=none) (m:=0) (k:=0) (by simp [*]) (by simp [*]) _ _,ZV (hP.below.trans (hb4.mono (by omega))) (by omega) _ _⟩
theorem Zcc(s:Bool)(l1 l2 l:List Nat)(h:val l=val l1+val l2):iv s l=iv s l1+iv s l2:=by
 unfold iv
 rw [h]
 cases s <;>simp <;>omega
theorem Ji(s1 s2:Bool)(hs:s1≠s2)(l1 l2 l:List Nat)(hle:val l2≤val l1)(h:val l=val l1-val l2):iv s1 l=iv s1 l1+iv s2 l2:=by
 unfold iv
 rw [h]
 cases s1 <;>cases s2 <;>simp at hs ⊢ <;>omega
set_option maxRecDepth 100000 in
set_option maxHeartbeats 3200000 in
theorem Zmm(w:World){s:Bool}{a1 a2:Option Addr}{n1 n2 c1 c2:Nat}{l1 l2:List Nat}(h1:LimR w a1 n1 c1 l1)(h2:LimR w a2 n2 c2 l2)(hn1:n1≤4398046511104)(hn2:n2≤4398046511104):
  Calls Tryz.prog 138 #[.agg #[.bool s,.slice a1 n1 c1],.agg #[.bool s,.slice a2 n2 c2]] w (Za0 (iv s l1+iv s l2) w):=by
 have hP:=Pro3.mk' w #[.bool s,.slice a1 n1 c1] #[.bool s,.slice a2 n2 c2] #[.bool false,.slice none 0 0] 74 74 74
 go_enter Tryz.func138, Tryz.ntmps138
 go_upto_region 1 with (fail)
 generalize ((w.alloc (.cells #[.bool s,.slice a1 n1 c1] 74)).alloc (.cells #[.bool s,.slice a2 n2 c2] 74)).alloc (.cells #[.bool false,.slice none 0 0] 74)=W at*
 have k0:=hP.b0.cell 0
 have k1:=hP.b0.cell 1
 have k2:=hP.b1.cell 0
 have k3:=hP.b1.cell 1
 have k4:=hP.b2.cell 0
 have k5:=hP.b2.cell 1
 have k6:=hP.b2.frozen 0
 have k7:=hP.b2.frozen 1
 simp at k0 k1 k2 k3 k4 k5
 have z0:=hP.b0.lt
 have z1:=hP.b1.lt
 have z2:=hP.b2.lt
 have nb0:w.heap.size+1+1≠w.heap.size:=by omega
 have g1:=h1.on hP.below
 have g2:=h2.on hP.below
 go_wp2_with fail
 go_region_held3 (fun w'=>w'.cell? ⟨w.heap.size,0,none⟩=some (.bool s)∧w'.cell? ⟨w.heap.size,1,none⟩=some (.slice a1 n1 c1)∧w'.cell? ⟨w.heap.size+1,0,none⟩=some (.bool s)∧w'.cell? ⟨w.heap.size+1,1,none⟩=some (.slice a2 n2 c2))
  (go_keep)
  (first
   | (go_at_call 142;refine (Zo8 _ (g1.on (Below.drew (Below.refl _ _))) (g2.on (Below.drew (Below.refl _ _))) (by omega) (by omega)).mono ?_;rintro e w3 ⟨ad3,n3,c3,rfl,g3,hb3'⟩;have hb3:Below W.heap.size W w3:=(Below.drew (Below.refl _ _)).trans hb3';obtain ⟨hc3,hf3⟩:=Zy hb3)
   | (go_at_call 104;refine (Uy _ g3 (by have h9:=Zi8 h1 h2;rw [g3.len] at h9;omega)).mono ?_;rintro e w4 ⟨neg4,ad4,n4,c4,rfl,g4,hb4'⟩;have hb4:Below W.heap.size W w4:=hb3.trans (hb4'.mono hb3.size);obtain ⟨hc4,hf4⟩:=Zy hb4))
 go_wp2_with fail
 have g5:IntC w4 neg4 ad4 n4 c4 (iv s l1+iv s l2):=by rw [←Zcc s l1 l2 _ (Zg _)];exact g4
 exact bodyPost_ret (v:=.agg #[.bool neg4,.slice ad4 n4 c4]) (by simp [results, Tryz.results138,go_sem, *]) rfl
  ⟨_,_,_,_,rfl,g5.box64 (B:=w.heap.size+1+1) (x:=false) (a:=none) (m:=0) (k:=0) (by simp [*]) (by simp [*]) _ _,ZV (hP.below.trans (hb4.mono (by omega))) (by omega) _ _⟩
set_option maxRecDepth 100000 in
set_option maxHeartbeats 3200000 in
theorem ZtH(w:World){s1 s2:Bool}(hs:(s1==s2)=false){a1 a2:Option Addr}{n1 n2 c1 c2:Nat}{l1 l2:List Nat}(h1:LimR w a1 n1 c1 l1)(h2:LimR w a2 n2 c2 l2)(hn1:n1≤4398046511104)(hn2:n2≤4398046511104)(hle:val l2≤val l1):
  Calls Tryz.prog 138 #[.agg #[.bool s1,.slice a1 n1 c1],.agg #[.bool s2,.slice a2 n2 c2]] w (Za0 (iv s1 l1+iv s2 l2) w):=by
 have HLE:=Lib.hid hle
 have hP:=Pro3.mk' w #[.bool s1,.slice a1 n1 c1] #[.bool s2,.slice a2 n2 c2] #[.bool false,.slice none 0 0] 74 74 74
 go_enter Tryz.func138, Tryz.ntmps138
 go_upto_region 1 with (fail)
 generalize ((w.alloc (.cells #[.bool s1,.slice a1 n1 c1] 74)).alloc (.cells #[.bool s2,.slice a2 n2 c2] 74)).alloc (.cells #[.bool false,.slice none 0 0] 74)=W at*
 have k0:=hP.b0.cell 0
 have k1:=hP.b0.cell 1
 have k2:=hP.b1.cell 0
 have k3:=hP.b1.cell 1
 have k4:=hP.b2.cell 0
 have k5:=hP.b2.cell 1
 have k6:=hP.b2.frozen 0
 have k7:=hP.b2.frozen 1
 simp at k0 k1 k2 k3 k4 k5
 have z0:=hP.b0.lt
 have z1:=hP.b1.lt
 have z2:=hP.b2.lt
 have nb0:w.heap.size+1+1≠w.heap.size:=by omega
 have g1:=h1.on hP.below
 have g2:=h2.on hP.below
 go_wp2_with fail
 refine (Vv _ g1 g2 (by omega) (by omega)).mono ?_
 rintro e w1 ⟨rfl,d,rfl⟩
 have hc:=Zbt hle
 generalize QW (val l1) (val l2)=cc at*
 go_wp2_with fail
 refine (Zgz _ (g1.drewN d) (g2.drewN d) (by omega) (by omega) hle).mono ?_
 rintro e w3 ⟨ad3,n3,c3,rfl,g3,hb3'⟩
 have hb3:Below W.heap.size W w3:=ZdJ hb3'
 obtain ⟨hc3,hf3⟩:=Zy hb3
 go_wp2_with fail
 refine (Uy _ g3 (by have h9:=Zw (Nat.sub_le (val l1) (val l2));rw [g3.len] at h9;have h8:=Zn h1.lim;rw [h1.len] at h8;omega)).mono ?_
 rintro e w4 ⟨neg4,ad4,n4,c4,rfl,g4,hb4'⟩
 have hb4:Below W.heap.size W w4:=hb3.trans (hb4'.mono hb3.size)
 obtain ⟨hc4,hf4⟩:=Zy hb4
 have g5:IntC w4 neg4 ad4 n4 c4 (iv s1 l1+iv s2 l2):=by rw [←Ji s1 s2 (by simpa using hs) l1 l2 _ HLE.out (Zg _)];exact g4
 go_wp2_with fail
 exact bodyPost_ret (v:=.agg #[.bool neg4,.slice ad4 n4 c4]) (by simp [results, Tryz.results138,go_sem, *]) rfl
  ⟨_,_,_,_,rfl,g5.box64 (B:=w.heap.size+1+1) (x:=false) (a:=none) (m:=0) (k:=0) (by simp [*]) (by simp [*]) _ _,ZV (hP.below.trans (hb4.mono (by omega))) (by omega) _ _⟩
set_option maxRecDepth 100000 in
set_option maxHeartbeats 3200000 in
theorem Zty(w:World){s1 s2:Bool}(hs:(s1==s2)=false){a1 a2:Option Addr}{n1 n2 c1 c2:Nat}{l1 l2:List Nat}(h1:LimR w a1 n1 c1 l1)(h2:LimR w a2 n2 c2 l2)(hn1:n1≤4398046511104)(hn2:n2≤4398046511104)(hle:val l1<val l2):
  Calls Tryz.prog 138 #[.agg #[.bool s1,.slice a1 n1 c1],.agg #[.bool s2,.slice a2 n2 c2]] w (Za0 (iv s1 l1+iv s2 l2) w):=by
 have HLE:=Lib.hid hle
 have hP:=Pro3.mk' w #[.bool s1,.slice a1 n1 c1] #[.bool s2,.slice a2 n2 c2] #[.bool false,.slice none 0 0] 74 74 74
 go_enter Tryz.func138, Tryz.ntmps138
 go_upto_region 1 with (fail)
 generalize ((w.alloc (.cells #[.bool s1,.slice a1 n1 c1] 74)).alloc (.cells #[.bool s2,.slice a2 n2 c2] 74)).alloc (.cells #[.bool false,.slice none 0 0] 74)=W at*
 have k0:=hP.b0.cell 0
 have k1:=hP.b0.cell 1
 have k2:=hP.b1.cell 0
 have k3:=hP.b1.cell 1
 have k4:=hP.b2.cell 0
 have k5:=hP.b2.cell 1
 have k6:=hP.b2.frozen 0
 have k7:=hP.b2.frozen 1
 simp at k0 k1 k2 k3 k4 k5
 have z0:=hP.b0.lt
 have z1:=hP.b1.lt
 have z2:=hP.b2.lt
 have nb0:w.heap.size+1+1≠w.heap.size:=by omega
 have g1:=h1.on hP.below
 have g2:=h2.on hP.below
 have k8:=hP.b0.frozen 0
 have k9:=hP.b0.frozen 1
 have k10:=hP.b1.frozen 0
 have k11:=hP.b1.frozen 1
 go_wp2_with fail
 refine (Vv _ g1 g2 (by omega) (by omega)).mono ?_
 rintro e w1 ⟨rfl,d,rfl⟩
 have hc:=ZcD hle
 generalize QW (val l1) (val l2)=cc at*
 go_wp2_with fail
 have q1:∀{ad:Option Addr} {n c:Nat} {l:List Nat},LimR W ad n c l→LimR (((((W.drewN d).setCell ⟨w.heap.size,0,none⟩ (.bool s2)).setCell ⟨w.heap.size,1,none⟩ (.slice a2 n2 c2)).setCell ⟨w.heap.size+1,0,none⟩ (.bool s1)).setCell ⟨w.heap.size+1,1,none⟩ (.slice a1 n1 c1)) ad n c l:=
  fun h=>((h.drewN d).box64 (B:=w.heap.size) (x:=s1) (a:=a1) (m:=n1) (k:=c1) (by simp [go_sem, *]) (by simp [go_sem, *]) _ _).box64 (B:=w.heap.size+1) (x:=s2) (a:=a2) (m:=n2) (k:=c2) (by simp [go_sem, *]) (by simp [go_sem, *]) _ _
 have q2:=q1 g1
 have q3:=q1 g2
 have q4:Below w.heap.size w (((((W.drewN d).setCell ⟨w.heap.size,0,none⟩ (.bool s2)).setCell ⟨w.heap.size,1,none⟩ (.slice a2 n2 c2)).setCell ⟨w.heap.size+1,0,none⟩ (.bool s1)).setCell ⟨w.heap.size+1,1,none⟩ (.slice a1 n1 c1)):=ZV (ZV (hP.below.drewN d) (Nat.le_refl _) _ _) (by omega) _ _
 have q5:(((((W.drewN d).setCell ⟨w.heap.size,0,none⟩ (.bool s2)).setCell ⟨w.heap.size,1,none⟩ (.slice a2 n2 c2)).setCell ⟨w.heap.size+1,0,none⟩ (.bool s1)).setCell ⟨w.heap.size+1,1,none⟩ (.slice a1 n1 c1)).heap.size=W.heap.size:=by simp [World.setCell]
 have q6:(((((W.drewN d).setCell ⟨w.heap.size,0,none⟩ (.bool s2)).setCell ⟨w.heap.size,1,none⟩ (.slice a2 n2 c2)).setCell ⟨w.heap.size+1,0,none⟩ (.bool s1)).setCell ⟨w.heap.size+1,1,none⟩ (.slice a1 n1 c1)).cell? ⟨w.heap.size,0,none⟩=some (.bool s2):=by simp [go_sem, *]
 have q7:(((((W.drewN d).setCell ⟨w.heap.size,0,none⟩ (.bool s2)).setCell ⟨w.heap.size,1,none⟩ (.slice a2 n2 c2)).setCell ⟨w.heap.size+1,0,none⟩ (.bool s1)).setCell ⟨w.heap.size+1,1,none⟩ (.slice a1 n1 c1)).cell? ⟨w.heap.size+1+1,0,none⟩=some (.bool false):=by simp [go_sem, *]
 have q8:(((((W.drewN d).setCell ⟨w.heap.size,0,none⟩ (.bool s2)).setCell ⟨w.heap.size,1,none⟩ (.slice a2 n2 c2)).setCell ⟨w.heap.size+1,0,none⟩ (.bool s1)).setCell ⟨w.heap.size+1,1,none⟩ (.slice a1 n1 c1)).cell? ⟨w.heap.size+1+1,1,none⟩=some (.slice none 0 0):=by simp [go_sem, *]
 have q9:(((((W.drewN d).setCell ⟨w.heap.size,0,none⟩ (.bool s2)).setCell ⟨w.heap.size,1,none⟩ (.slice a2 n2 c2)).setCell ⟨w.heap.size+1,0,none⟩ (.bool s1)).setCell ⟨w.heap.size+1,1,none⟩ (.slice a1 n1 c1)).frozen? ⟨w.heap.size+1+1,0,none⟩=false:=by simp [go_sem, *]
 have q10:(((((W.drewN d).setCell ⟨w.heap.size,0,none⟩ (.bool s2)).setCell ⟨w.heap.size,1,none⟩ (.slice a2 n2 c2)).setCell ⟨w.heap.size+1,0,none⟩ (.bool s1)).setCell ⟨w.heap.size+1,1,none⟩ (.slice a1 n1 c1)).frozen? ⟨w.heap.size+1+1,1,none⟩=false:=by simp [go_sem, *]
 clear q1 k0 k1 k2 k3 k4 k5 k6 k7 k8 k9 k10 k11
 have HW:w.heap.size+3=W.heap.size:=by have:=hP.size;omega
 rw [←HW] at q5 z0 z1 z2
 have HW':=Lib.hid HW
 clear HW g1 g2 hP
 generalize ((((W.drewN d).setCell ⟨w.heap.size,0,none⟩ (.bool s2)).setCell ⟨w.heap.size,1,none⟩ (.slice a2 n2 c2)).setCell ⟨w.heap.size+1,0,none⟩ (.bool s1)).setCell ⟨w.heap.size+1,1,none⟩ (.slice a1 n1 c1)=V at*
 have Q5:=Lib.hid q5
 have y0:w.heap.size<V.heap.size:=by omega
 have y2:w.heap.size+1+1<V.heap.size:=by omega
 clear q5
 refine (Zgz _ q3 q2 (by omega) (by omega) (Nat.le_of_lt HLE.out)).mono ?_
 rintro e w3 ⟨ad3,n3,c3,rfl,g3,hb3⟩
 obtain ⟨hc3,hf3⟩:=Zy hb3
 go_wp2_with fail
 refine (Uy _ g3 (by have h9:=Zw (Nat.sub_le (val l2) (val l1));rw [g3.len] at h9;have h8:=Zn h2.lim;rw [h2.len] at h8;omega)).mono ?_
 rintro e w4 ⟨neg4,ad4,n4,c4,rfl,g4,hb4'⟩
 have hb4:Below V.heap.size V w4:=hb3.trans (hb4'.mono hb3.size)
 obtain ⟨hc4,hf4⟩:=Zy hb4
 have g5:IntC w4 neg4 ad4 n4 c4 (iv s1 l1+iv s2 l2):=by rw [Int.add_comm,←Ji s2 s1 (by intro e;subst e;simp at hs) l2 l1 _ (Nat.le_of_lt HLE.out) (Zg _)];exact g4
 go_wp2_with fail
 exact bodyPost_ret (v:=.agg #[.bool neg4,.slice ad4 n4 c4]) (by simp [results, Tryz.results138,go_sem, *]) rfl
  ⟨_,_,_,_,rfl,g5.box64 (B:=w.heap.size+1+1) (x:=false) (a:=none) (m:=0) (k:=0) (by simp [*]) (by simp [*]) _ _,ZV (q4.trans (hb4.mono (by omega))) (by omega) _ _⟩
theorem Zov(w:World){s1 s2:Bool}{a1 a2:Option Addr}{n1 n2 c1 c2:Nat}{l1 l2:List Nat}(h1:LimR w a1 n1 c1 l1)(h2:LimR w a2 n2 c2 l2)(hn1:n1≤4398046511104)(hn2:n2≤4398046511104):
  Calls Tryz.prog 138 #[.agg #[.bool s1,.slice a1 n1 c1],.agg #[.bool s2,.slice a2 n2 c2]] w (Za0 (iv s1 l1+iv s2 l2) w):=by
 by_cases hs:s1=s2
 ·subst hs;exact Zmm w h1 h2 hn1 hn2
 ·have hs':(s1==s2)=false:=by simpa using hs
  rcases Nat.lt_or_ge (val l1) (val l2) with h|h
  ·exact Zty w hs' h1 h2 hn1 hn2 h
  ·exact ZtH w hs' h1 h2 hn1 hn2 h
end Go.Proofs.YtdaonnnlgfhlaaaGreatDoor
