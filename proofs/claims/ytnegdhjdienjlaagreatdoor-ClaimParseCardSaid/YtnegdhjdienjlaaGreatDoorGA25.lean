import Derived.Test.YtnegdhjdienjlaaGreatDoorGA24
import Derived.Test.YtnegdhjdienjlaaGreatDoorGA22
import Derived.Test.YtnegdhjdienjlaaGreatDoorGA17
import Derived.Test.YtnegdhjdienjlaaGreatDoorGA20
import Derived.Test.YtnegdhjdienjlaaGreatDoorGA16
import Derived.Test.YtnegdhjdienjlaaGreatDoorGA18
set_option linter.all false
set_option maxHeartbeats 6400000
set_option maxRecDepth 100000
namespace Go.Proofs.YtnegdhjdienjlaaGreatDoor
section
open Go.RowKit
attribute [local irreducible] run runL loopG exec
section
variable {n k : Nat} {L l : List UInt8} {f : Form} {neg : Bool}
theorem rstep(hL:L.length≤1000)(h:l <:+L)(hf:RdF k f)(hk:k≤1000):
  ∃l' bad g,runL (n+4) 183 [.ptr 0 0,formV f,.lit (.bool neg)] [rB L l false]=some (formV g,[(0,rB L l' bad)])∧l' <:+l∧(bad=true→∀m,psL (m+1) f neg l=.error l')∧(bad=false→RdF (k+1) g∧∀m,psL (m+1) f neg l=coL m g l'):=by
 have h1:=(skL_suf l).trans h
 have P:=part_c (n:=n) (neg:=neg) hL h1 hf hk
 have R:=rpart_c (n:=n) (neg:=neg) hL h hf hk
 cases e:paL f neg (skL l) with
 | error r=>
   rw [e] at P R
   refine ⟨r,true,f,R,P.1.trans (skL_suf l),fun _ m=>?_,fun h=>(by cases h)⟩
   rw [psL,e]
 | ok p=>
   obtain ⟨g,r⟩:=p
   rw [e] at P R
   obtain ⟨s,hg,_⟩:=P
   dsimp only at s hg
   have hco:∀m,psL (m+1) f neg l=coL m g r:=fun m=>by rw [psL,e];rfl
   rcases R with ⟨hd,R⟩|R
   ·refine ⟨r,true,f,R,s.trans (skL_suf l),fun _ m=>?_,fun h=>(by cases h)⟩
    rw [hco]
    dsimp only at hd
    obtain ⟨c,r',rfl,hc⟩:=(isIn_D r).1 hd
    have e2:=skL_D hd
    unfold coL
    rw [e2]
    dsimp only
    rw [if_neg (fun h=>by rcases h with h|h;exact isD_ne hc (by decide) h;exact isD_ne hc (by decide) h)]
   ·exact ⟨r,false,g,R,s.trans (skL_suf l),fun h=>(by cases h),fun _=>⟨hg,hco⟩⟩
def RsQ(L:List UInt8)(x:Except (List UInt8) Form)(ex:Ex)(t:St):Prop:=
 (∃g i d,x=.ok g∧ex=.ret∧t=rps_o4a (bs L) g.1 g.2 i d)∨(∃r d,x=.error r∧ex=.exit 0∧(t=rps_o4b (bs L) (po L r) d∨t=rps_o4c (bs L) (po L r) d))
structure RsI (L:List UInt8) (x:Except (List UInt8) Form) (k:Nat) (l:List UInt8) (bad:Bool) (f:Form):Prop where
 s:l <:+L
 n:k+l.length≤L.length+1
 b:bad=true→x=.error l
 g:bad=false→RdF k f∧x=coL (L.length+1-k) f l
theorem rs_bad{d4:Bool}{x:Except (List UInt8) Form}(hI:RsI L x k l true f):
  ∃ex t,ex≠.nrm∧Leave 0 (exec Tryz.prog (tab (n+5)) 0 67 (livesOf 128) big rps_C4) (livesOf 128 (outOf 4)) (rps_h4 (bs L) d4 (po L l) true f.1 f.2) ex t∧RsQ L x ex t:=
 ⟨_,_,by simp,rps_x4_3 (n:=n) (d2_4:=true) rfl,.inr ⟨l,true,hI.b rfl,rfl,.inr rfl⟩⟩
theorem rs_rnd{x:Except (List UInt8) Form}{bad:Bool}(hL:L.length≤999)(hk:1≤k)(hI:RsI L x k l bad f):
  (∃l' bad' g,Cont 0 (exec Tryz.prog (tab (n+5)) 0 67 (livesOf 128) big rps_C4) (livesOf 128 4) (rps_h4 (bs L) false (po L l) bad f.1 f.2) (rps_h4 (bs L) false (po L l') bad' g.1 g.2)∧RsI L x (k+1) l' bad' g)
  ∨∃ex t,ex≠.nrm∧Leave 0 (exec Tryz.prog (tab (n+5)) 0 67 (livesOf 128) big rps_C4) (livesOf 128 (outOf 4)) (rps_h4 (bs L) false (po L l) bad f.1 f.2) ex t∧RsQ L x ex t:=by
 have hs:=bs_size L
 cases bad with
 | true=>exact .inr (rs_bad hI)
 | false=>
   obtain ⟨hf,hx⟩:=hI.g rfl
   have h:=hI.s
   have hk2:=hI.n
   have K2:=rbk_c (n:=n+3) (bad:=false) (by omega) h
   have h1:=(skL_suf l).trans h
   have K3:=rpk_c (n:=n+4) (bad:=false) (by omega) h1
   cases e:skL l with
   | nil=>
     rw [e] at K2 K3
     refine .inr ⟨_,_,by simp,rps_x4_1 (n:=n) rfl K2 K3 rfl (by rw [po_nil,hs]),.inl ⟨f,_,_,?_,rfl,rfl⟩⟩
     rw [hx]
     unfold coL
     rw [e]
   | cons c r2=>
     rw [e] at K2 K3 h1
     obtain ⟨p1,p2⟩:=po_lt h1
     have hsl:=e▸skL_suf l
     have hll:=hsl.length_le
     rw [List.length_cons] at hll
     have hx2:x=if c=43∨c=45 then psL (L.length+1-k) f (decide (c=45)) r2 else .error (c::r2):=by
      rw [hx]
      unfold coL
      rw [e]
     have hz:¬po L (c::r2)=((bs L).size:Int):=by rw [hs];omega
     have eh:hd (c::r2)=(c.toNat:Int):=rfl
     have e43:(43:UInt8).toNat=43:=rfl
     have e45:(45:UInt8).toNat=45:=rfl
     have go:c=43∨c=45→∃l' bad' g,runL (n+4) 183 [.ptr 0 0,formV f,.lit (.bool (hd (c::r2)==45))] [rB L r2 false]=some (formV g,[(0,rB L l' bad')])∧RsI L x (k+1) l' bad' g:=fun hc=>by
      rw [if_pos hc,show L.length+1-k=(L.length-k)+1 from by omega] at hx2
      obtain ⟨l',bad',g,R,s,hb,hg⟩:=rstep (n:=n) (neg:=decide (c=45)) (by omega) (suf_tl h1) hf (by omega)
      have en:(hd (c::r2)==45)=decide (c=45):=by
       rw [eh,Bool.eq_iff_iff,beq_iff_eq,decide_eq_true_eq,u8n]
       omega
      have hl':=s.length_le
      rw [en]
      refine ⟨l',bad',g,R,s.trans (suf_tl h1),by omega,fun e=>?_,fun e=>?_⟩
      ·rw [hx2];exact hb e _
      ·obtain ⟨a,b⟩:=hg e
       refine ⟨a,?_⟩
       rw [hx2,b,show L.length+1-(k+1)=L.length-k from by omega]
     by_cases hc:c=43
     ·obtain ⟨l',bad',g,R,hi⟩:=go (.inl hc)
      rw [rB_sc h1] at R
      exact .inl ⟨l',bad',g,rps_r4_2 (n:=n) rfl K2 K3 rfl hz (by rw [eh,hc];rfl) (po_in (by omega) h1) R,hi⟩
     ·have hc2:¬hd (c::r2)=43:=fun e=>hc (u8n.2 (by omega))
      by_cases hd:c=45
      ·obtain ⟨l',bad',g,R,hi⟩:=go (.inr hd)
       rw [rB_sc h1] at R
       exact .inl ⟨l',bad',g,rps_r4_1 (n:=n) rfl K2 K3 rfl hz hc2 (by rw [eh,hd];rfl) (po_in (by omega) h1) R,hi⟩
      ·refine .inr ⟨_,_,by simp,rps_x4_2 (n:=n) rfl K2 K3 rfl hz hc2 (fun e=>hd (u8n.2 (by omega))),.inr ⟨c::r2,false,?_,rfl,.inl rfl⟩⟩
       rw [hx2,if_neg (fun h=>by rcases h with h|h;exact hc h;exact hd h)]
theorem rs_first(hL:L.length≤999):
  ∃l' bad' g,Cont 0 (exec Tryz.prog (tab (n+5)) 0 67 (livesOf 128) big rps_C4) (livesOf 128 4) (rps_h4 (bs L) true 0 false [] 0) (rps_h4 (bs L) false (po L l') bad' g.1 g.2)∧RsI L (psT L) 1 l' bad' g:=by
 have hs:=bs_size L
 have h0:L <:+L:=List.suffix_refl L
 have K2:=rbk_c (n:=n+3) (bad:=false) (by omega) h0
 rw [rB,po_self] at K2
 have h1:=skL_suf L
 have K3:=rpk_c (n:=n+4) (bad:=false) (by omega) h1
 have fin:∀(l:List UInt8) (neg:Bool),l <:+L→psT L=psL (L.length+1) ([],0) neg l→∃l' bad' g,runL (n+4) 183 [.ptr 0 0,formV ([],0),.lit (.bool neg)] [rB L l false]=some (formV g,[(0,rB L l' bad')])∧RsI L (psT L) 1 l' bad' g:=fun l neg hl e=>by
  obtain ⟨l',bad',g,R,s,hb,hg⟩:=rstep (n:=n) (neg:=neg) (by omega) hl RdF.zero (by omega)
  have hl':=s.length_le
  have hl2:=hl.length_le
  refine ⟨l',bad',g,R,s.trans hl,by omega,fun e2=>?_,fun e2=>?_⟩
  ·rw [e];exact hb e2 _
  ·obtain ⟨a,b⟩:=hg e2
   refine ⟨a,?_⟩
   rw [e,b,Nat.add_sub_cancel]
 unfold psT at fin
 cases e:skL L with
 | nil=>
   rw [e] at K2 K3 h1 fin
   obtain ⟨l',bad',g,R,hi⟩:=fin [] false h1 rfl
   exact ⟨l',bad',g,rps_r4_3 (n:=n) rfl K2 K3 rfl (by show ¬(0:Int)=43;omega) (by show ¬(0:Int)=45;omega) R,by unfold psT;rw [e];exact hi⟩
 | cons c r2=>
   rw [e] at K2 K3 h1 fin
   dsimp only at fin
   have eh:hd (c::r2)=(c.toNat:Int):=rfl
   have e43:(43:UInt8).toNat=43:=rfl
   have e45:(45:UInt8).toNat=45:=rfl
   have en:(hd (c::r2)==45)=decide (c=45):=by
    rw [eh,Bool.eq_iff_iff,beq_iff_eq,decide_eq_true_eq,u8n]
    omega
   have back:∀{l' bad' g},RsI L (if c=43∨c=45 then psL (L.length+1) ([],0) (decide (c=45)) r2 else psL (L.length+1) ([],0) false (c::r2)) 1 l' bad' g→RsI L (psT L) 1 l' bad' g:=fun h=>by unfold psT;rw [e];exact h
   by_cases hc:c=43
   ·rw [if_pos (.inl hc)] at fin back
    obtain ⟨l',bad',g,R,hi⟩:=fin r2 _ (suf_tl h1) rfl
    rw [rB_sc h1,←en] at R
    exact ⟨l',bad',g,rps_r4_5 (n:=n) rfl K2 K3 rfl (by rw [eh,hc];rfl) (po_in (by omega) h1) R,back hi⟩
   ·have hc2:¬hd (c::r2)=43:=fun e=>hc (u8n.2 (by omega))
    by_cases hd:c=45
    ·rw [if_pos (.inr hd)] at fin back
     obtain ⟨l',bad',g,R,hi⟩:=fin r2 _ (suf_tl h1) rfl
     rw [rB_sc h1,←en] at R
     exact ⟨l',bad',g,rps_r4_4 (n:=n) rfl K2 K3 rfl hc2 (by rw [eh,hd];rfl) (po_in (by omega) h1) R,back hi⟩
    ·have hn:¬(c=43∨c=45):=fun h=>by rcases h with h|h;exact hc h;exact hd h
     rw [if_neg hn] at fin back
     obtain ⟨l',bad',g,R,hi⟩:=fin (c::r2) false h1 rfl
     have e0:(Go.Proofs.YtnegdhjdienjlaaGreatDoor.hd (c::r2)==45)=false:=by rw [en,decide_eq_false hd]
     refine ⟨l',bad',g,rps_r4_3 (n:=n) rfl K2 K3 rfl hc2 (fun e=>hd (u8n.2 (by omega))) ?_,back hi⟩
     rw [e0]
     exact R
theorem rparse_c(hL:L.length≤999):run (n+5) 128 [.lit (.string (bs L))]=some (parR L (psT L)):=by
 obtain ⟨l1,b1,g1,R1,I1⟩:=rs_first (n:=n) hL
 obtain ⟨ex,t,h1,h2⟩:=loopG_Q (β:=List UInt8 × Bool × Form) (P:= Tryz.prog) (O:=tab (n+5)) (m:=0) (N:=67) (lives:=livesOf 128) (r:=4) (C:=rps_C4) (M:=L.length+1) (enc:=fun k b=>rps_h4 (bs L) (k==0) (po L b.1) b.2.1 b.2.2.1 b.2.2.2)
  (fun k b=>(k=0→b=(L,false,([],0)))∧(1≤k→RsI L (psT L) k b.1 b.2.1 b.2.2)) (fun ex t=>RsQ L (psT L) ex t) (L,false,([],0)) ⟨fun _=>rfl,fun h=>(by omega)⟩ (by omega)
  (fun k b hk hI=>by
   cases k with
   | zero=>
     rw [hI.1 rfl]
     refine .inl ⟨(l1,b1,g1),?_,fun h=>(by omega),fun _=>I1⟩
     dsimp only
     rw [po_self]
     exact R1
   | succ k=>
     obtain ⟨b,s,g⟩:=b
     have I:=hI.2 (by omega)
     dsimp only at I ⊢
     rw [show (k+1==0)=false from rfl,show (k+1+1==0)=false from rfl]
     rcases rs_rnd (n:=n) hL (by omega) I with ⟨l',bad',g',R,hi⟩|T
     ·exact .inl ⟨(l',bad',g'),R,fun h=>(by omega),fun _=>hi⟩
     ·exact .inr T)
  (fun b hI=>by
   obtain ⟨b,s,g⟩:=b
   have I:=hI.2 (by omega)
   dsimp only at I ⊢
   rw [show (L.length+1==0)=false from rfl]
   rcases rs_rnd (n:=n) hL (by omega) I with ⟨l',bad',g',R,hi⟩|T
   ·have:=hi.n
    omega
   ·exact T)
 dsimp only at h1
 rw [po_self,show ((0:Nat)==0)=true from rfl] at h1
 rcases h2 with ⟨g,i,d,e,rfl,rfl⟩|⟨r,d,e,rfl,rfl|rfl⟩
 ·rw [e];exact rps_f1 (n:=n) h1
 ·rw [e];exact rps_f2 (n:=n) h1
 ·rw [e];exact rps_f3 (n:=n) h1
end
end
section
open Go.RowKit Go.Lib
attribute [local irreducible] run runL loopG exec
def fmF(L:List UInt8):Form × Bool:=if (120:UInt8)∈L then (([],0),false) else match psT (L.map (swp 121 120)) with|.ok g=>(g,true)|.error _=>(([],0),false)
theorem form0:formV (([],0):Form)=.agg [.sl 4 [],.lit (.bool false),.sl 1 [],.sl 1 []]:=by simp
section
variable {n : Nat} {L : List UInt8}
theorem parR_fm(M:List UInt8)(h:¬(120:UInt8)∈L)(e:M=L.map (swp 121 120)):∃a b,parR M (psT M)=.tup [formV (fmF L).1,.lit (.int .i64 a),.lit (.int .i64 b)]∧(b==0)=(fmF L).2:=by
 unfold fmF
 rw [if_neg h,←e]
 cases psT M with
 | ok g=>exact ⟨0,0,rfl,rfl⟩
 | error r=>
   refine ⟨po M r,4,?_,rfl⟩
   show AV.tup [.agg [.sl 4 [],.lit (.bool false),.sl 1 [],.sl 1 []],_,_]=_
   rw [form0]
theorem form_c(hL:L.length≤900):run (n+12) 61 [.lit (.string (bs L))]=some (.tup [formV (fmF L).1,.lit (.bool (fmF L).2)]):=by
 have K1:=contains_c (c:=120) (L:=L) (by omega)
 by_cases h:(120:UInt8)∈L
 ·rw [decide_eq_true h] at K1
  have R:=cfm_f1 (n:=n) K1 rfl
  rw [R]
  unfold fmF
  rw [if_pos h,form0]
 ·rw [decide_eq_false h] at K1
  have K3:=rep_c (a:=121) (b:=120) (by decide) (L:=L) (by omega)
  have K4:=parse_c (n:=n) (L:=L.map (swp 121 120)) (by rw [List.length_map];omega)
  obtain ⟨a,b,e1,e2⟩:=parR_fm _ h rfl
  rw [e1] at K4
  have R:=cfm_f2 (n:=n) K1 rfl K3 K4
  rw [R,e2]
theorem fform_c(hL:L.length≤900):run (n+6) 67 [.lit (.string (bs L))]=some (.tup [formV (fmF L).1,.lit (.bool (fmF L).2)]):=by
 have K1:=contains_c (c:=120) (L:=L) (by omega)
 by_cases h:(120:UInt8)∈L
 ·rw [decide_eq_true h] at K1
  have R:=ffm_f1 (n:=n) K1 rfl
  rw [R]
  unfold fmF
  rw [if_pos h,form0]
 ·rw [decide_eq_false h] at K1
  have K3:oSwap [.lit (.string (bs L)),.lit (.int .u8 121),.lit (.int .u8 120)]=some (.lit (.string (bs (L.map (swp 121 120))))):=swap_c (a:=121) (b:=120) (by omega)
  have K4:=rparse_c (n:=n) (L:=L.map (swp 121 120)) (by rw [List.length_map];omega)
  obtain ⟨a,b,e1,e2⟩:=parR_fm _ h rfl
  rw [e1] at K4
  have R:=ffm_f2 (n:=n) K1 rfl K3 K4
  rw [R,e2]
theorem idx_c{t:List UInt8}(hL:L.length≤1000):oIndex [.lit (.string (bs L)),.lit (.string (bs t))]=some (.lit (.int .i64 (index L t))):=by
 unfold oIndex
 dsimp only
 rw [if_pos (by rw [bs_size];omega),bs_data,bs_data]
theorem split_c(hL:L.length≤1000):run (n+4) 123 [.lit (.string (bs L))]=some (.lit (.int .i64 (spF L))):=by
 have K1:=idx_c (t:=[62,61]) hL
 have K2:=idx_c (t:=[60,61]) hL
 unfold spF
 by_cases h1:index L [62,61]<0
 ·rw [if_pos h1];exact csp_f1 K1 K2 h1
 rw [if_neg h1]
 by_cases h2:0≤index L [60,61]
 ·by_cases h3:index L [60,61]<index L [62,61]
  ·rw [if_pos ⟨h2,h3⟩];exact csp_f2 K1 K2 h1 h2 h3
  ·rw [if_neg fun h=>h3 h.2];exact csp_f3 K1 K2 h1 h2 h3
 ·rw [if_neg fun h=>h2 h.1];exact csp_f4 K1 K2 h1 h2
end
end
section
open Go.RowKit
attribute [local irreducible] run runL loopG exec
theorem psL_rd{L:List UInt8}(hL:L.length≤1000):∀(K k:Nat) (f:Form) (neg:Bool) (l:List UInt8),l <:+L→RdF k f→k+K≤1000→∀g,psL K f neg l=.ok g→∃j,j≤k+K∧RdF j g
 | 0,k,f,neg,l,_,_,_,g,h=>by rw [psL] at h;cases h
 | K+1,k,f,neg,l,hl,hf,hk,g,h=>by
   have h1:=(skL_suf l).trans hl
   have P:=part_c (n:=0) (neg:=neg) hL h1 hf (by omega)
   rw [psL] at h
   cases e:paL f neg (skL l) with
   | error r=>rw [e] at h;cases h
   | ok p=>
     obtain ⟨g',r⟩:=p
     rw [e] at h P
     obtain ⟨s,hg,_⟩:=P
     dsimp only at s hg h
     cases e2:skL r with
     | nil=>
       rw [e2] at h
       cases h
       exact ⟨k+1,by omega,hg⟩
     | cons c r2=>
       rw [e2] at h
       dsimp only at h
       split at h
       ·obtain ⟨j,h3,h4⟩:=psL_rd hL K (k+1) g' _ r2 ((suf_tl (e2▸skL_suf r)).trans (s.trans h1)) hg (by omega) g h
        exact ⟨j,by omega,h4⟩
       ·cases h
theorem psT_rd{L:List UInt8}(hL:L.length≤900){g:Form}(h:psT L=.ok g):∃j,j≤901∧RdF j g:=by
 have h1:=skL_suf L
 unfold psT at h
 cases e:skL L with
 | nil=>
   rw [e] at h h1
   obtain ⟨j,a,b⟩:=psL_rd (L:=L) (by omega) _ 0 _ _ _ h1 RdF.zero (by omega) g h
   exact ⟨j,by omega,b⟩
 | cons c r=>
   rw [e] at h h1
   dsimp only at h
   split at h
   ·obtain ⟨j,a,b⟩:=psL_rd (L:=L) (by omega) _ 0 _ _ _ (suf_tl h1) RdF.zero (by omega) g h
    exact ⟨j,by omega,b⟩
   ·obtain ⟨j,a,b⟩:=psL_rd (L:=L) (by omega) _ 0 _ _ _ h1 RdF.zero (by omega) g h
    exact ⟨j,by omega,b⟩
theorem psT_rdl{L:List UInt8}(hL:L.length≤900){g:Form}(h:psT L=.ok g):∃j,j≤L.length+1∧RdF j g:=by
 have h1:=skL_suf L
 have hl:=h1.length_le
 unfold psT at h
 cases e:skL L with
 | nil=>
   rw [e] at h h1 hl
   obtain ⟨j,a,b⟩:=psL_rd (L:=L) (by omega) _ 0 _ _ _ h1 RdF.zero (by omega) g h
   exact ⟨j,by omega,b⟩
 | cons c r=>
   rw [e] at h h1 hl
   rw [List.length_cons] at hl
   dsimp only at h
   split at h
   ·obtain ⟨j,a,b⟩:=psL_rd (L:=L) (by omega) _ 0 _ _ _ (suf_tl h1) RdF.zero (by omega) g h
    exact ⟨j,by omega,b⟩
   ·obtain ⟨j,a,b⟩:=psL_rd (L:=L) (by omega) _ 0 _ _ _ h1 RdF.zero (by omega) g h
    exact ⟨j,by omega,b⟩
end
section
open Go.RowKit
end
section
open Go.RowKit
theorem fsu_f1{n:Nat}{a0:Form}{a1:Form}{r:Form}{r2:Form}(K2:run (n+2) 180 [formV a1,ratV (ofQ (-1))]=some (formV r))(K3:run (n+2) 179 [formV a0,formV r]=some (formV r2)):
  run (n+3) 127 [formV a0,formV a1]=some (formV r2):=by
 have K1:=r_ofq (z:=(-1)) (by omega) (by omega)
 simp only [ratV,formV] at K2
 simp only [formV] at K3
 unfold run fnP
 simp+decide [Tryz.f127,K1,K2,K3]
end
section
open Go.RowKit
end
section
open Go.RowKit
end
section
open Go.RowKit
end
section
open Go.RowKit
attribute [local irreducible] run runL loopG exec
end
section
open Go.RowKit
end
section
open Go.RowKit
attribute [local irreducible] run runL loopG exec
def LimR2(r:Raw):Prop:=Lim r.l1∧Lim r.l2
structure LimF (f:FormR):Prop where
 t:∀t∈f.1,LimR2 t.2
 k:LimR2 f.2
def Two(r:Raw):Prop:=r.l1.length≤2∧r.l2.length≤2
theorem Two.rb{r:Raw}(h:Two r)(hl:LimR2 r):RawB r:=⟨hl.1,hl.2,by have:=h.1;omega,by have:=h.2;omega⟩
def Cn(r:Raw):Prop:=RatV r.s r.l1 r.l2
theorem Cn.raw{r:Raw}(h:Cn r):r=rawQ r.q:=by
 obtain ⟨s,l1,l2⟩:=r
 obtain ⟨h1,h2,h3⟩:=h
 dsimp only at h1 h2 h3
 unfold Raw.q rawQ
 dsimp only
 rw [←h1,←h2,←h3]
theorem dlmb_H(d:Nat):(lmb d).length≤max 1 (dlmb d).length:=by
 unfold dlmb
 split
 ·rename_i h;subst h;rw [lmb_one];simp
 ·exact Nat.le_max_right _ _
theorem Cn.HB{r:Raw}{m:Nat}(h:Cn r)(hm:1≤m)(h1:r.l1.length≤m)(h2:r.l2.length≤m):H r.q≤m:=by
 have e:=h.raw
 have a1:(lmb r.q.num.natAbs).length≤m:=by have:=congrArg Raw.l1 e;rw [this] at h1;exact h1
 have a2:(dlmb r.q.den).length≤m:=by have:=congrArg Raw.l2 e;rw [this] at h2;exact h2
 have a3:=dlmb_H r.q.den
 unfold Go.Proofs.YtnegdhjdienjlaaGreatDoor.H
 omega
theorem Cn.H{r:Raw}(h:Cn r)(ht:Two r):H r.q≤2:=h.HB (by omega) ht.1 ht.2
def OkTmR(F:List (Int × Raw))(vars:Int)(i:Nat):Prop:=∀v c,F[i]?=some (v,c)→0≤v∧v<vars∧c.q≠0∧Cn c∧∀v' c',0<i→F[i-1]?=some (v',c')→v'<v
def OkFR(f:FormR)(vars:Int):Prop:=(∀i,i<f.1.length→OkTmR f.1 vars i)∧Cn f.2
end
end Go.Proofs.YtnegdhjdienjlaaGreatDoor
