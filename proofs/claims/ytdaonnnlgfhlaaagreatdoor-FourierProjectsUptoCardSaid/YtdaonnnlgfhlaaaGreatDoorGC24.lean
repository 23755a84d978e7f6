import Derived.Test.YtdaonnnlgfhlaaaGreatDoorGC21
import Derived.Test.YtdaonnnlgfhlaaaGreatDoorGC23
import Derived.Test.YtdaonnnlgfhlaaaGreatDoorGC18
import Derived.Test.YtdaonnnlgfhlaaaGreatDoorRows
import Derived.Test.YtdaonnnlgfhlaaaGreatDoorGC16
import Derived.Deep.Slices
import Derived.ChangeArms
import Derived.ChangeSlices
import Derived.DataReads
import Derived.OpenShut
import Derived.Lib.LaidTab
import Derived.Stop.LaidErr
set_option linter.all false
set_option maxHeartbeats 6400000
set_option maxRecDepth 100000
namespace Go.Proofs.YtdaonnnlgfhlaaaGreatDoor
section
open Go.RowKit
attribute [local irreducible] run runL loopG exec
theorem H_divQ{a b:Rat}(h:b≠0):H (a / b)≤H a+H b:=by
 have e:a / b=a*(1 / b):=by rw [Rat.div_def,Rat.div_def,Rat.one_mul]
 rw [e]
 have:=H_mul a (1 / b)
 have:=H_invQ h
 omega
theorem val_H{m k:Nat}{f:Form}{X:List Rat}(h:FB m f)(hm:m≤100000)(hX:∀q∈X,H q≤k)(hk:k≤100000)(hl:X.length≤1000)(hi:InR X.length f.1):H (valX X f)≤m+100*(m+k+1):=by
 have hfl:=h.l
 have hb:f.1.length*(m+k+1)≤100*(m+k+1):=Nat.mul_le_mul_right _ hfl
 have hb2:100*(m+k+1)≤100*200001:=Nat.mul_le_mul_left _ (by omega)
 obtain ⟨E,B⟩:=eval_c (n:=0) (f:=f) (X:=X) (a:=m) (b:=k) (k:=m) h.h.1 hX h.h.2 (by omega) (by omega) (by omega) (by omega)
 have:=B _ (evR_in hi).2
 unfold valX
 omega
theorem sat_c{n m k:Nat}{R:List Form}{X:List Rat}(hR:∀f∈R,FB m f)(hm:m≤100000)(hX:∀q∈X,H q≤k)(hk:k≤100000)(hl:X.length≤1000)(hRl:R.length≤1000000):run (n+1) 26 [.sl 4 (R.map formC),.sl 3 (X.map ratC)]=some (.lit (.bool (tv (SatR X R)))):=by
 have Z:=loopG_all (O:=tab (n+1)) (P:= Tryz.prog) (m:=0) (N:=30) (lives:=livesOf 26) (r:=2) (C:=sat_C2) (M:=R.length) (enc:=fun i=>sat_h2 R X i) (p:=fun i=>tv (∀f,R[i]?=some f→InR X.length f.1∧0≤valX X f)) (exN:=.exit 0) (exE:=.ret) (out:=sat_o2b) (outE:=sat_o2a) (by omega) (by simp) (by simp)
  (fun i hi _=>by
   have hx:R[i]?=some R[i]:=List.getElem?_eq_getElem hi
   obtain ⟨g,hg⟩:∃g,R[i]=g:=⟨_,rfl⟩
   rw [hg] at hx
   obtain ⟨F,q⟩:=g
   obtain ⟨p1,p2⟩:=ev_small (n:=n) (hR _ (List.mem_of_getElem? hx)) hm hX hk hl
   refine ⟨fun hp=>?_,fun hp=>?_⟩
   ·obtain ⟨a1,a2⟩:=tv_true hp _ hx
    obtain ⟨K,B⟩:=p1 a1
    exact sat_r2_1 (by omega) hx K rfl B (fun h9=>by have:=sgR_lt0.1 h9;grind) ⟨by omega,by omega⟩
   ·have hp:=tv_false hp
    by_cases a1:InR X.length F
    ·obtain ⟨K,B⟩:=p1 a1
     refine sat_x2_2 (by omega) hx K rfl B (sgR_lt0.2 ?_)
     false_or_by_contra
     refine hp fun f hf=>?_
     rw [hx] at hf;cases hf
     exact ⟨a1,by grind⟩
    ·exact sat_x2_1 (by omega) hx (p2 a1) (by omega))
  (sat_x2_3 (by omega))
 by_cases h:SatR X R
 ·rw [if_pos (fun i hi=>tv_t fun f hf=>h f (List.mem_of_getElem? hf))] at Z
  rw [tv_t h]
  exact sat_f2 Z
 ·rw [if_neg (fun h2=>h fun f hf=>by
   obtain ⟨i,hi⟩:=List.mem_iff_getElem?.1 hf
   exact tv_true (h2 i (List.getElem?_eq_some_iff.1 hi).1) f hi)] at Z
  rw [tv_f h]
  exact sat_f1 Z
def hP8(a0:List FormR)(a1 x0 x1 x2 x3:Int):Nat→St
 | 0=>lpR_h8 a0 a1 x0 x1 x2 x3
 | 1=>lpR_h8b a0 a1 x0 x1 x2 x3
 | 2=>lpR_h8c a0 a1 x0 x1 x2 x3
 | 3=>lpR_h8d a0 a1 x0 x1 x2 x3
 | _=>lpR_h8e a0 a1 x0 x1 x2 x3
section
variable {n : Nat} {a0 : List FormR} {a1 x0 x1 x2 x3 : Int}
theorem lp_8(h0:InI x0)(h1:InI x1)(h2:InI x2)(h3:InI x3):loopG Tryz.prog (lpRT n) 0 150 (livesOf 5) 8 lpR_C8 (lpR_h8 a0 a1 x0 x1 x2 x3)=some (.exit 0,lpR_o8a a0 a1 x0 x1 x2 x3):=by
 obtain ⟨_,h,_⟩:=loopG_R (O:=lpRT n) (P:= Tryz.prog) (m:=0) (N:=150) (lives:=livesOf 5) (r:=8) (C:=lpR_C8) (exN:=.exit 0) (M:=4) (enc:=fun i (_:Unit)=>hP8 a0 a1 x0 x1 x2 x3 i) (out:=fun _=>lpR_o8a a0 a1 x0 x1 x2 x3) (fun _ _=>True) () trivial (by omega) (by simp)
  (fun i b hi _=>by
   refine ⟨(),?_,trivial⟩
   match i,hi with
   | 0,_=>exact lpR_r8_1 h0 h0
   | 1,_=>exact lpR_r8b_1 h1 h1
   | 2,_=>exact lpR_r8c_1 h2 h2
   | 3,_=>exact lpR_r8d_1 h3 h3
   | i+4,h=>exact absurd h (by omega))
  (fun b _=>lpR_x8e_1)
 exact h
theorem lp_12(hl:a0.length≤1000000000)(hB:∀f∈a0,RawF f)(h8:∀f∈a0,SmR f):loopG Tryz.prog (lpRT n) 0 150 (livesOf 5) 12 lpR_C12 (lpR_h12 a0 a1 x0 x1 x2 x3 0)=some (if ∀i,i<a0.length→tv (∀g,a0[i]?=some g→OkFR g 4)=true then (.exit 2,lpR_o12b a0 a1 x0 x1 x2 x3) else (.ret,lpR_o12a a0 a1 x0 x1 x2 x3)):=
 loopG_all (O:=lpRT n) (P:= Tryz.prog) (m:=0) (N:=150) (lives:=livesOf 5) (r:=12) (C:=lpR_C12) (M:=a0.length) (enc:=fun i=>lpR_h12 a0 a1 x0 x1 x2 x3 i) (p:=fun i=>tv (∀g,a0[i]?=some g→OkFR g 4)) (exN:=.exit 2) (exE:=.ret) (out:=lpR_o12b a0 a1 x0 x1 x2 x3) (outE:=lpR_o12a a0 a1 x0 x1 x2 x3) (by omega) (by simp) (by simp)
  (fun i hi _=>by
   have hx:a0[i]?=some a0[i]:=List.getElem?_eq_getElem hi
   obtain ⟨g,hg⟩:∃g,a0[i]=g:=⟨_,rfl⟩
   rw [hg] at hx
   obtain ⟨F,r⟩:=g
   have hm:=List.mem_of_getElem? hx
   have K:=validRB_c (n:=n+12) (vars:=4) (by have:=(h8 _ hm).1;omega) (hB _ hm).t (hB _ hm).k
   refine ⟨fun hp=>lpR_r12_1 (by omega) hx K (tv_t (tv_true hp _ hx)) ⟨by omega,by omega⟩,fun hp=>lpR_x12_1 (by omega) hx K (tv_f fun h9=>tv_false hp fun f hf=>?_)⟩
   rw [hx] at hf;cases hf
   exact h9)
  (lpR_x12_2 (by omega))
theorem ofQ_H{x:Int}(h:-128≤x∧x<128):H (ofQ x)≤1:=by
 show H ((x:Int):Rat)≤1
 unfold H
 rw [Rat.num_intCast,Rat.den_intCast]
 have h1:(lmb x.natAbs).length≤1:=lmb_len_le (by omega)
 have h2:(lmb 1).length≤1:=lmb_len_le (by omega)
 omega
theorem cdiv{c r:Rat}(hr:H r≤600)(hc:H c≤2):∃(q:Rat) (e:Int),run (n+12) 23 [ratV (-r),ratV c]=some (.tup [ratV q,.lit (.int .i64 e)])∧H q≤1000∧(c≠0→q=-r / c):=by
 by_cases h0:c=0
 ·subst h0
  have K:=fdR_f1 (n:=n+6) (a0:=-r) (a1:=rawQ 0) (rawB_q (by decide+kernel)) (by rw [rawQ_q];exact sgR_eq_zero.2 rfl)
  exact ⟨0,3,by simpa using K,by decide+kernel,fun h=>absurd rfl h⟩
 ·have K:=fdiv_c (n:=n+6) (a:=-r) (c:=rawQ c) (by rw [H_neg];omega) (rawB_q (by omega)) (by rw [rawQ_q];exact h0)
  rw [rawQ_q] at K
  have hq:=H_divQ (a:=-r) h0
  rw [H_neg] at hq
  exact ⟨_,_,K,by omega,fun _=>rfl⟩
theorem lp_23{X:List Rat}{E:List Form}(hX:∀q∈X,H q≤1)(hXl:X.length=4)(h8:∀f∈a0,SmR f)(h4:∀f∈a0,OkFR f 4)(hl:a0.length≤7)(hz:0≤a1.tmod 4)(hz4:(a1.tmod 4).toNat<4):
  ∃(ok low high:Bool) (fz:Nat) (lo hi:Rat),loopG Tryz.prog (lpRT n) 0 150 (livesOf 5) 23 lpR_C23 (lpR_h23 a0 a1 X E true false false 0 0 0 0)=some (.exit 4,lpR_o23a X E ok low high fz lo hi)∧BdI X (a1.tmod 4).toNat (a0.map unR) ok low high lo hi∧H lo≤1000∧H hi≤1000:=by
 obtain ⟨b,h1,h2⟩:=loopG_R (O:=lpRT n) (P:= Tryz.prog) (m:=0) (N:=150) (lives:=livesOf 5) (r:=23) (C:=lpR_C23) (exN:=.exit 4) (M:=a0.length)
  (enc:=fun i (b:Bool × Bool × Bool × Nat × Rat × Rat)=>lpR_h23 a0 a1 X E b.1 b.2.1 b.2.2.1 i b.2.2.2.1 b.2.2.2.2.1 b.2.2.2.2.2) (out:=fun b=>lpR_o23a X E b.1 b.2.1 b.2.2.1 b.2.2.2.1 b.2.2.2.2.1 b.2.2.2.2.2)
  (fun i b=>BdI X (a1.tmod 4).toNat ((a0.map unR).take i) b.1 b.2.1 b.2.2.1 b.2.2.2.2.1 b.2.2.2.2.2∧H b.2.2.2.2.1≤1000∧H b.2.2.2.2.2≤1000) (true,false,false,0,0,0) ⟨BdI.nil _ _ _ _,by decide+kernel,by decide+kernel⟩ (by omega) (by simp)
  (fun i b hi hI=>by
   obtain ⟨ok,low,high,fz,lo,hiq⟩:=b
   obtain ⟨I,Hlo,Hhi⟩:=hI
   dsimp only at I Hlo Hhi
   have hx:a0[i]?=some a0[i]:=List.getElem?_eq_getElem hi
   obtain ⟨g,hg⟩:∃g,a0[i]=g:=⟨_,rfl⟩
   rw [hg] at hx
   have hm:=List.mem_of_getElem? hx
   obtain ⟨e,s⟩:=(h8 _ hm).un
   have hok:OkFm (unR g) 4:=(small_formB (m:=2) (by omega) (fun t ht=>((h8 _ hm).2.2.2 t ht).1) (h8 _ hm).2.1.1 (h4 _ hm)).2.2.2.2
   have hin:InR X.length (unR g).1:=fun t ht=>by have:=hok.srt.2 t ht;rw [hXl];exact this
   have htk:(a0.map unR).take (i+1)=(a0.map unR).take i++[unR g]:=by
    rw [List.take_add_one,List.getElem?_map,hx];rfl
   have hset:(X.set (a1.tmod 4).toNat 0).length=X.length:=List.length_set
   have hX0:∀q∈X.set (a1.tmod 4).toNat 0,H q≤1:=fun q hq=>by
    rcases List.mem_or_eq_of_mem_set hq with h|h
    ·exact hX q h
    ·rw [h];decide+kernel
   have hin0:InR (X.set (a1.tmod 4).toNat 0).length (unR g).1:=by rw [hset];exact hin
   obtain ⟨K8,B9⟩:=(ev_small (n:=n+12) s.fb (by omega) hX0 (by omega) (by omega)).1 hin0
   have Hr:=val_H s.fb (by omega) hX0 (by omega) (by omega) hin0
   have K3:=fco_c (n:=n+12) (f:=unR g) (v:=a1.tmod 4) (by have:=s.l;omega)
   have Hc:H (cof (unR g).1 (a1.tmod 4))≤2:=cofH (by omega) s.t
   obtain ⟨q,er,K10,Hq,hq⟩:=cdiv (n:=n) (c:=cof (unR g).1 (a1.tmod 4)) (r:=valX (X.set (a1.tmod 4).toNat 0) (unR g)) (by omega) Hc
   have hzz:(((a1.tmod 4).toNat:Nat):Int)=a1.tmod 4:=Int.toNat_of_nonneg hz
   have hbd:cof (unR g).1 (a1.tmod 4)≠0→q=bdX X (a1.tmod 4).toNat (unR g):=fun h=>by
    rw [hq h];unfold bdX restX;rw [hzz]
   rw [←e] at K3 K8
   obtain ⟨F,r⟩:=g
   have W:InI ((i:Int)+1):=⟨by omega,by omega⟩
   rw [htk]
   rcases sgR_three (cof (unR (F,r)).1 (a1.tmod 4)) with ⟨c1,c2⟩|⟨c1,c2⟩|⟨c1,c2⟩
   ·have hb:=hbd (by grind)
    have c1':0<cof (unR (F,r)).1 (((a1.tmod 4).toNat:Nat):Int):=by rw [hzz];exact c1
    cases low with
    | false=>exact ⟨(ok,true,high,X.length,q,hiq),lpR_r23_3 (by omega) hx K3 (by omega) (by omega) hz K8 B9 K10 (by omega) (by omega) c2 rfl W,I.up c1' (.inl ⟨.inl rfl,hb⟩),Hq,Hhi⟩
    | true=>
      by_cases hlt:0<sgR (q-lo)
      ·refine ⟨(ok,true,high,X.length,q,hiq),lpR_r23_4 (by omega) hx K3 (by omega) (by omega) hz K8 B9 K10 (by omega) (by omega) c2 rfl (Nat.le_trans Hq (by omega)) (Nat.le_trans Hlo (by omega)) hlt W,I.up c1' (.inl ⟨.inr ?_,hb⟩),Hq,Hhi⟩
       rw [←hb]
       rcases sgR_three (q-lo) with ⟨d1,d2⟩|⟨d1,d2⟩|⟨d1,d2⟩
       ·grind
       ·omega
       ·omega
      ·refine ⟨(ok,true,high,X.length,lo,hiq),lpR_r23_5 (by omega) hx K3 (by omega) (by omega) hz K8 B9 K10 (by omega) (by omega) c2 rfl (Nat.le_trans Hq (by omega)) (Nat.le_trans Hlo (by omega)) hlt W,I.up c1' (.inr ⟨rfl,?_,rfl⟩),Hlo,Hhi⟩
       rw [←hb]
       rcases sgR_three (q-lo) with ⟨d1,d2⟩|⟨d1,d2⟩|⟨d1,d2⟩
       ·omega
       ·grind
       ·grind
   ·have hb:=hbd (by grind)
    have c1':cof (unR (F,r)).1 (((a1.tmod 4).toNat:Nat):Int)<0:=by rw [hzz];exact c1
    cases high with
    | false=>exact ⟨(ok,low,true,X.length,lo,q),lpR_r23_6 (by omega) hx K3 (by omega) (by omega) hz K8 B9 K10 (by omega) (by omega) (by omega) rfl W,I.down c1' (.inl ⟨.inl rfl,hb⟩),Hlo,Hq⟩
    | true=>
      by_cases hlt:sgR (q-hiq)<0
      ·refine ⟨(ok,low,true,X.length,lo,q),lpR_r23_7 (by omega) hx K3 (by omega) (by omega) hz K8 B9 K10 (by omega) (by omega) (by omega) rfl (Nat.le_trans Hq (by omega)) (Nat.le_trans Hhi (by omega)) hlt W,I.down c1' (.inl ⟨.inr ?_,hb⟩),Hlo,Hq⟩
       rw [←hb]
       have:=sgR_lt0.1 hlt
       grind
      ·refine ⟨(ok,low,true,X.length,lo,hiq),lpR_r23_8 (by omega) hx K3 (by omega) (by omega) hz K8 B9 K10 (by omega) (by omega) (by omega) rfl (Nat.le_trans Hq (by omega)) (Nat.le_trans Hhi (by omega)) hlt W,I.down c1' (.inr ⟨rfl,?_,rfl⟩),Hlo,Hhi⟩
       rw [←hb]
       have:¬q-hiq<0:=fun h=>hlt (sgR_lt0.2 h)
       grind
   ·have c1':cof (unR (F,r)).1 (((a1.tmod 4).toNat:Nat):Int)=0:=by rw [hzz];exact c1
    have J:=I.zero c1'
    cases ok with
    | true=>
      have e9:(true && decide (0≤restX X (a1.tmod 4).toNat (unR (F,r))))=decide (0≤sgR (valX (X.set (a1.tmod 4).toNat 0) (unR (F,r)))):=by
       rw [Bool.true_and]
       exact decide_eq_decide.2 sgR_ge0.symm
      rw [e9] at J
      exact ⟨(_,low,high,X.length,lo,hiq),lpR_r23_1 (by omega) hx K3 (by omega) (by omega) hz K8 B9 K10 (by omega) c2 rfl W,J,Hlo,Hhi⟩
    | false=>
      rw [Bool.false_and] at J
      exact ⟨(false,low,high,X.length,lo,hiq),lpR_r23_2 (by omega) hx K3 (by omega) (by omega) hz K8 B9 K10 (by omega) c2 rfl W,J,Hlo,Hhi⟩)
  (fun b hI=>lpR_x23_1 (by omega))
 obtain ⟨ok,low,high,fz,lo,hiq⟩:=b
 obtain ⟨I,a,c⟩:=h2
 rw [List.take_of_length_le (by simp)] at I
 exact ⟨_,_,_,_,_,_,h1,I,a,c⟩
theorem lp_law(hl:a0.length≤1000000000)(hB:∀f∈a0,RawF f)(h0:0≤a1)(hx0:-128≤x0∧x0<128)(hx1:-128≤x1∧x1<128)(hx2:-128≤x2∧x2<128)(hx3:-128≤x3∧x3<128):
  lpR n [.sl 4 (a0.map formRC),.lit (.int .u8 a1),.agg [.lit (.int .i8 x0),.lit (.int .i8 x1),.lit (.int .i8 x2),.lit (.int .i8 x3)]]=some (.lit (.bool true)):=by
 have K1:=few3_c (n:=n+9) hl hB
 by_cases hf:(a0.length:Int)≤7∧∀f∈a0,SmR f
 ·rw [tv_t hf] at K1
  have hmod:a1.tmod 4=a1 % 4:=Int.tmod_eq_emod_of_nonneg h0
  have hz:0≤a1.tmod 4:=by omega
  have hz4:(a1.tmod 4).toNat<4:=by omega
  have hzz:(((a1.tmod 4).toNat:Nat):Int)=a1.tmod 4:=Int.toNat_of_nonneg hz
  have W3:InI (a1.tmod 4):=⟨by omega,by omega⟩
  have L4:=lp_8 (n:=n) (a0:=a0) (a1:=a1) (x0:=x0) (x1:=x1) (x2:=x2) (x3:=x3) ⟨by omega,by omega⟩ ⟨by omega,by omega⟩ ⟨by omega,by omega⟩ ⟨by omega,by omega⟩
  have L5:=lp_12 (n:=n) (a1:=a1) (x0:=x0) (x1:=x1) (x2:=x2) (x3:=x3) hl hB hf.2
  by_cases h4:∀f∈a0,OkFR f 4
  ·rw [if_pos (fun i hi=>tv_t fun g hg=>h4 g (List.mem_of_getElem? hg))] at L5
   obtain ⟨hR,hR7⟩:=few_rb hf
   have e:=(SmR.all hf.2).1
   have h44:=elim_len4 (v:=a1.tmod 4) hR7 (by omega)
   have K6:=elim_c (n:=n+3) (v:=a1.tmod 4) hR (by omega) (by omega) hz (by omega)
   rw [←e] at K6
   have hX:∀q∈[ofQ x0,ofQ x1,ofQ x2,ofQ x3],H q≤1:=fun q hq=>by
    simp only [List.mem_cons,List.not_mem_nil,or_false] at hq
    rcases hq with rfl|rfl|rfl|rfl
    ·exact ofQ_H hx0
    ·exact ofQ_H hx1
    ·exact ofQ_H hx2
    ·exact ofQ_H hx3
   obtain ⟨ok,low,high,fz,lo,hiq,L8,I,Hlo,Hhi⟩:=lp_23 (n:=n) (a0:=a0) (a1:=a1) (X:=[ofQ x0,ofQ x1,ofQ x2,ofQ x3]) (E:=elimF (a1.tmod 4) (a0.map unR)) hX rfl hf.2 h4 (by omega) hz hz4
   have K11:=sat_c (n:=n+11) (R:=elimF (a1.tmod 4) (a0.map unR)) (X:=[ofQ x0,ofQ x1,ofQ x2,ofQ x3]) (fun f hf=>elim_fb hR (by omega) f hf) (by omega) hX (by omega) (by simp) (by omega)
   have P:=proj_law (X:=[ofQ x0,ofQ x1,ofQ x2,ofQ x3]) (v:=(a1.tmod 4).toNat) (by simpa using hz4) (fun f hm=>by
    obtain ⟨g,hg,rfl⟩:=List.mem_map.1 hm
    have hok:OkFm (unR g) 4:=(small_formB (m:=2) (by omega) (fun t ht=>((hf.2 _ hg).2.2.2 t ht).1) (hf.2 _ hg).2.1.1 (h4 _ hg)).2.2.2.2
    exact ⟨hok.srt.1,fun t ht=>hok.srt.2 t ht⟩) I
   rw [hzz] at P
   cases ok with
   | false=>
     rw [tv_f (fun h=>by have:=(P.1 h).1;cases this)] at K11
     exact lpR_f7 K1 rfl W3 L4 L5 K6 rfl L8 rfl K11
   | true=>
     cases low with
     | false=>
       rw [tv_t (P.2 ⟨rfl,.inl rfl⟩)] at K11
       exact lpR_f4 K1 rfl W3 L4 L5 K6 rfl L8 rfl rfl K11
     | true=>
       cases high with
       | false=>
         rw [tv_t (P.2 ⟨rfl,.inr (.inl rfl)⟩)] at K11
         exact lpR_f5 K1 rfl W3 L4 L5 K6 rfl L8 rfl rfl rfl K11
       | true=>
         have R:=lpR_f6 K1 rfl W3 L4 L5 K6 rfl L8 rfl rfl rfl (by omega) (by omega) K11
         rw [R]
         by_cases hle:lo≤hiq
         ·rw [tv_t (P.2 ⟨rfl,.inr (.inr hle)⟩)]
          have:sgR (lo-hiq)≤0:=by
           rcases sgR_three (lo-hiq) with ⟨d1,d2⟩|⟨d1,d2⟩|⟨d1,d2⟩
           ·grind
           ·omega
           ·omega
          rw [decide_eq_true this];rfl
         ·rw [tv_f (fun h=>by rcases (P.1 h).2 with h9|h9|h9;cases h9;cases h9;exact hle h9)]
          have:¬sgR (lo-hiq)≤0:=by
           rcases sgR_three (lo-hiq) with ⟨d1,d2⟩|⟨d1,d2⟩|⟨d1,d2⟩
           ·omega
           ·grind
           ·grind
          rw [decide_eq_false this];rfl
  ·rw [if_neg (fun h2=>h4 fun f hf=>by
    obtain ⟨i,hi⟩:=List.mem_iff_getElem?.1 hf
    exact tv_true (h2 i (List.getElem?_eq_some_iff.1 hi).1) f hi)] at L5
   exact lpR_f2 K1 rfl W3 L4 L5
 ·rw [tv_f hf] at K1
  exact lpR_f1 K1 rfl
end
end
section
open Go.ChangeShapes Go.WideShapes Go.RowKit Go.Deep
def okT:Nat→Nat→Prop:=fun _ _=>True
theorem bulk_one_le{H:Type}(d:DataW H):1≤Rows.uptoBulk d:=by
 cases d with
 | lit l=>cases l <;>simp [Rows.uptoBulk]
 | nil=>simp [Rows.uptoBulk]
 | ptr d=>simp [Rows.uptoBulk]
 | slice elems spare=>simp [Rows.uptoBulk]
 | agg parts=>simp [Rows.uptoBulk]
 | iface t d=>simp [Rows.uptoBulk]
 | map entries=>simp [Rows.uptoBulk]
 | held h=>simp [Rows.uptoBulk]
theorem bulk_part_le{H:Type}{d:DataW H}{l:List (DataW H)}(h:d∈l):Rows.uptoBulk d≤Rows.uptoBulkAll l:=by
 induction l with
 | nil=>cases h
 | cons x r ih=>
   simp only [Rows.uptoBulkAll]
   cases List.mem_cons.1 h with
   | inl e=>subst e;omega
   | inr e=>have:=ih e;omega
theorem bulk_length_le{H:Type}(l:List (DataW H)):l.length≤Rows.uptoBulkAll l:=by
 induction l with
 | nil=>simp [Rows.uptoBulkAll]
 | cons x r ih=>have:=bulk_one_le x;simp only [Rows.uptoBulkAll,List.length_cons];omega
theorem bulk_agg{H:Type}{d:DataW H}{l:List (DataW H)}(h:d∈l):Rows.uptoBulk d≤Rows.uptoBulk (.agg l):=by
 have:=bulk_part_le h
 simp only [Rows.uptoBulk]
 omega
theorem bulk_slice{H:Type}{d:DataW H}{l r:List (DataW H)}(h:d∈l):Rows.uptoBulk d≤Rows.uptoBulk (.slice l r):=by
 have:=bulk_part_le h
 simp only [Rows.uptoBulk]
 omega
theorem bulk_slice_len{H:Type}(l r:List (DataW H)):l.length≤Rows.uptoBulk (.slice l r):=by
 have:=bulk_length_le l
 simp only [Rows.uptoBulk]
 omega
def Opens(w:World)(t:TypeId)(A:Nat→List AV→Prop):Prop:=
 ∀(H:Type) (enc:TypeId × Value→H) (base:Nat) (spare:Nat→Bool) (held:Bool) (fuel:Nat) (cs:List Value) (x:DataW H × List MemPlace),DataW.trod enc Tryz.prog w base spare held fuel t cs=some x→∃us,A (Rows.uptoBulk x.1) us∧RV (RepT w okT) us cs
def Up1(A:Nat→List AV→Prop):Prop:=∀N M us,N≤M→A N us→A M us
theorem Opens.mono{w:World}{t:TypeId}{A B:Nat→List AV→Prop}(h:Opens w t A)(hA:∀N us,A N us→B N us):Opens w t B:=fun H enc base spare held fuel cs x hx=>by
 obtain ⟨us,h1,h2⟩:=h H enc base spare held fuel cs x hx
 exact ⟨us,hA _ _ h1,h2⟩
theorem rvq1{R:AV→Value→Prop}{a:AV}{v:Value}(h:R a v):RV R [a] [v]:=⟨rfl,fun i d hi=>by
 match i,hi with
 | 0,hi=>cases hi;exact ⟨v,rfl,h⟩
 | i+1,hi=>simp at hi⟩
theorem rv_fld{R:AV→Value→Prop}{us bs:List AV}{cs:List Value}{o n:Nat}(h1:RV R us ((cs.drop o).take n))(h2:RV R bs (cs.drop (o+n)))(hn:o+n≤cs.length):RV R (us++bs) (cs.drop o):=by
 have l1:=h1.1
 have l2:=h2.1
 rw [List.length_take,List.length_drop] at l1
 rw [List.length_drop] at l2
 refine ⟨by rw [List.length_append,List.length_drop];omega,fun i d hi=>?_⟩
 by_cases hl:i<us.length
 ·rw [List.getElem?_append_left hl] at hi
  obtain ⟨u,h3,h4⟩:=h1.2 i d hi
  rw [List.getElem?_take,if_pos (by omega)] at h3
  exact ⟨u,h3,h4⟩
 ·rw [List.getElem?_append_right (by omega)] at hi
  obtain ⟨u,h3,h4⟩:=h2.2 _ d hi
  refine ⟨u,?_,h4⟩
  rw [List.getElem?_drop] at h3 ⊢
  rw [←h3]
  congr 1
  omega
theorem rv_end{R:AV→Value→Prop}{cs:List Value}{N:Nat}(h:cs.length=N):RV R [] (cs.drop N):=by
 rw [List.drop_of_length_le (by omega)]
 exact ⟨rfl,fun i d hi=>by simp at hi⟩
section
variable {w : World}
theorem op_int{t:TypeId}{k:IntKind}(ht: Tryz.prog.underlying t=some (.int k)):Opens w t (fun _ us=>∃z,us=[.lit (.int k z)]∧(Lit.int k z).wf=true):=fun H enc base spare held fuel cs x hx=>by
 obtain ⟨n,rfl,rfl,hw⟩:=DataW.trod_int ht hx
 exact ⟨_,⟨n,rfl,hw⟩,rvq1 (.lit _)⟩
theorem op_bool{t:TypeId}(ht: Tryz.prog.underlying t=some .bool):Opens w t (fun _ us=>∃b,us=[.lit (.bool b)]):=fun H enc base spare held fuel cs x hx=>by
 obtain ⟨b,rfl,_⟩:=DataW.trod_bool ht hx
 exact ⟨_,⟨b,rfl⟩,rvq1 (.lit _)⟩
theorem fldB{H:Type}{enc:TypeId × Value→H}{base:Nat}{spare:Nat→Bool}{held:Bool}{t:TypeId}{fs:Array Field}{fuel:Nat}{cs:List Value}{x:DataW H × List MemPlace}(hs: Tryz.prog.underlying t=some (.struct fs))(h:DataW.trod enc Tryz.prog w base spare held fuel t cs=some x):
  cs.length= Tryz.prog.cellsOf t∧∀(i:Nat) (f:Field) (T:TypeId) (o:Nat),fs[i]?=some f→f.type=T→f.offset=o→∃n y,DataW.trod enc Tryz.prog w base spare held n T ((cs.drop o).take (Tryz.prog.cellsOf T))=some y∧Rows.uptoBulk y.1≤Rows.uptoBulk x.1:=by
 obtain ⟨xs,n,_,hx,hl,hlen,hg⟩:=DataW.trod_struct hs h
 refine ⟨hl,fun i f T o hf hT ho=>⟨n,xs[i]'(by rw [hlen];exact (Array.getElem?_eq_some_iff.1 hf).1),?_,?_⟩⟩
 ·subst hT ho
  rw [hg i f hf]
  exact List.getElem?_eq_getElem _
 ·subst hx
  exact bulk_agg (List.mem_map_of_mem (List.getElem_mem _))
theorem addr_at{b o i:Nat}:(⟨b,o,none⟩:Addr).add i=⟨b,o+i,none⟩:=by
 unfold Addr.add
 split
 ·rename_i h;subst h;rfl
 ·rfl
theorem op_sl{t e:TypeId}{k:Nat}{A:Nat→List AV→Prop}(ht: Tryz.prog.underlying t=some (.slice e))(hk: Tryz.prog.cellsOf e=k)(h0k:0<k)(he:Opens w e A)(hA:Up1 A):
  Opens w t (fun N us=>∃es:List (List AV),us=[.sl k es]∧es.length≤N∧∀e∈es,A N e):=fun H enc base spare held fuel cs x hx=>by
 rcases open_slice ht hx with ⟨rfl,_⟩|⟨a,len,cap,m,n,D,Pl,rfl,_,hl,hm,hmm,hxe,hi⟩
 ·exact ⟨_,⟨[],rfl,by simp,fun e he=>by cases he⟩,rvq1 (.nil none 0)⟩
 ·have hlm:len≤m:=by rw [hmm];split <;>omega
  have hb:∀i,i<len→Rows.uptoBulk (D i)≤Rows.uptoBulk x.1:=fun i hil=>by
   subst hxe
   exact bulk_slice (List.mem_map.2 ⟨i,List.mem_range.2 hil,rfl⟩)
  have hbl:len≤Rows.uptoBulk x.1:=by
   subst hxe
   have:=bulk_slice_len ((List.range len).map D) ((List.range (m-len)).map fun j=>D (len+j))
   rw [List.length_map,List.length_range] at this
   exact this
  obtain ⟨U,hU⟩:=choose_lt (n:=len) (p:=fun i (u:List AV)=>A (Rows.uptoBulk x.1) u∧∃cs',RV (RepT w okT) u cs'∧w.cells? base (a.add (i*k)) k=some cs') (fun i hil=>by
   obtain ⟨cs',h1,h2⟩:=hi i (by omega)
   rw [hk] at h1
   obtain ⟨u,hu,hr⟩:=he H enc base spare held _ _ _ h2
   exact ⟨u,hA _ _ _ (hb i hil) hu,cs',hr,h1⟩)
  refine ⟨[.sl k ((List.range len).map U)],⟨_,rfl,by rw [List.length_map,List.length_range];exact hbl,fun e he=>?_⟩,?_⟩
  ·obtain ⟨i,hir,rfl⟩:=List.mem_map.1 he
   exact (hU i (List.mem_range.1 hir)).1
  ·by_cases h0:len=0
   ·subst h0;exact rvq1 (.nil (some a) cap)
   ·have hz:=(hU 0 (by omega)).2.choose_spec.2
    obtain ⟨_,hz1,hz2⟩:=World.cells?_some hz
    have hz3:=hz2 0 h0k
    rw [List.getElem?_eq_getElem (by omega)] at hz3
    have hs0:=World.cell?_spot hz3
    obtain ⟨b,o,sp⟩:=a
    have hsp:sp=none:=by
     simp [Addr.add] at hs0
     exact hs0
    subst hsp
    have key:∀(i j:Nat) (e:List AV) (d:AV),((List.range len).map U)[i]?=some e→e[j]?=some d→∃u,w.cell? ⟨b,o+i*k+j,none⟩=some u∧RepT w okT d u:=fun i j e d hie hjd=>by
     have hil:i<len:=by have:=(List.getElem?_eq_some_iff.1 hie).1;rw [List.length_map,List.length_range] at this;exact this
     rw [List.getElem?_map,List.getElem?_range hil] at hie
     cases hie
     obtain ⟨_,cs',hr,hc⟩:=hU i hil
     obtain ⟨_,q1,q2⟩:=World.cells?_some hc
     obtain ⟨u,g1,g2⟩:=hr.2 j d hjd
     have hj:j<k:=by
      have:=(List.getElem?_eq_some_iff.1 g1).1
      omega
     have:=q2 j hj
     rw [addr_at,addr_at] at this
     exact ⟨u,this.trans g1,g2⟩
    have R:=RepT.sl (w:=w) (ok:=okT) (k:=k) (b:=b) (o:=o) (c:=cap) (es:=(List.range len).map U) (fun e he=>by
      obtain ⟨i,hir,rfl⟩:=List.mem_map.1 he
      obtain ⟨_,cs',hr,hc⟩:=hU i (List.mem_range.1 hir)
      obtain ⟨_,q1,_⟩:=World.cells?_some hc
      have:=hr.1
      omega) (by rw [List.length_map,List.length_range];exact hl) (fun i j e d he hd=>by
      obtain ⟨u,h1,_⟩:=key i j e d he hd
      exact ⟨trivial,by rw [h1];rfl⟩) (fun i j e d he hd=>by
      obtain ⟨u,h1,h2⟩:=key i j e d he hd
      rw [h1]
      exact h2)
    rw [List.length_map,List.length_range] at R
    exact rvq1 R
theorem list_of{α:Type}{enc:α→List AV}{ok:α→Prop}:∀{es:List (List AV)},(∀e∈es,∃x,e=enc x∧ok x)→∃L:List α,es=L.map enc∧∀x∈L,ok x
 | [],_=>⟨[],rfl,fun x hx=>by cases hx⟩
 | e::es,h=>by
   obtain ⟨x,rfl,hx⟩:=h e (List.mem_cons_self ..)
   obtain ⟨L,rfl,hL⟩:=list_of fun e he=>h e (List.mem_cons_of_mem _ he)
   exact ⟨x::L,rfl,fun y hy=>by
    rcases List.mem_cons.1 hy with rfl|hy
    ·exact hx
    ·exact hL y hy⟩
theorem op_list{α:Type}{t e:TypeId}{k:Nat}{enc:α→List AV}{ok:Nat→α→Prop}(ht: Tryz.prog.underlying t=some (.slice e))(hk: Tryz.prog.cellsOf e=k)(h0k:0<k)(he:Opens w e (fun N us=>∃x,us=enc x∧ok N x))(hm:∀N M x,N≤M→ok N x→ok M x):
  Opens w t (fun N us=>∃L:List α,us=[.sl k (L.map enc)]∧L.length≤N∧∀x∈L,ok N x):=
 (op_sl ht hk h0k he (fun N M us hN ⟨x,h1,h2⟩=>⟨x,h1,hm N M x hN h2⟩)).mono fun N us ⟨es,h1,h2,h3⟩=>by
  obtain ⟨L,rfl,hL⟩:=list_of h3
  exact ⟨L,h1,by simpa using h2,hL⟩
def okInt(k:IntKind)(_:Nat)(z:Int):Prop:=(Lit.int k z).wf=true
theorem okInt.up{k:IntKind}{N M:Nat}{z:Int}(hN:N≤M)(h:okInt k N z):okInt k M z:=h
def okBool(_:Nat)(_:Bool):Prop:=True
theorem okBool.up{N M:Nat}{b:Bool}(hN:N≤M)(h:okBool N b):okBool M b:=h
theorem op_intO{t:TypeId}{k:IntKind}(ht: Tryz.prog.underlying t=some (.int k)):Opens w t (fun N us=>∃z,us=[.lit (.int k z)]∧okInt k N z):=op_int ht
theorem op_boolO{t:TypeId}(ht: Tryz.prog.underlying t=some .bool):Opens w t (fun N us=>∃b,us=[.lit (.bool b)]∧okBool N b):=(op_bool ht).mono fun N us ⟨b,h⟩=>⟨b,h,trivial⟩
def okNat(N:Nat)(l:List Nat):Prop:=Lim l∧l.length≤N
theorem okNat.up{N M:Nat}{l:List Nat}(hN:N≤M)(h:okNat N l):okNat M l:=⟨h.1,Nat.le_trans h.2 hN⟩
theorem cU32: Tryz.prog.cellsOf 114=1:=by kernel_rfl
theorem op_natO:Opens w 24 (fun N us=>∃l,us=[natA l]∧okNat N l):=
 (op_list (α:=Nat) (enc:=fun x=>[.lit (.int .u32 (x:Int))]) (ok:=fun _ x=>x<4294967296) Tryz.underlying24 cU32 (by omega) ((op_int Tryz.underlying114).mono fun N us ⟨z,h1,h2⟩=>by
  have h3:0≤z∧z≤4294967295:=by simpa [Lit.wf,IntKind.min,IntKind.max,IntKind.signed,IntKind.bits] using h2
  exact ⟨z.toNat,by rw [h1,Int.toNat_of_nonneg h3.1],by omega⟩) (fun N M x _ h=>h)).mono fun N us ⟨L,h1,h2,h3⟩=>⟨L,h1,fun x hx=>h3 x hx,h2⟩
def okRaw(N:Nat)(r:Raw):Prop:=okNat N r.l1∧okNat N r.l2
theorem okRaw.up{N M:Nat}{r:Raw}(hN:N≤M)(h:okRaw N r):okRaw M r:=⟨h.1.up hN,h.2.up hN⟩
theorem arg_one{d:AV}{v:Value}(hv:v.cells=#[v])(h:RV (RepT w okT) [d] v.cells.toList):RepT w okT d v:=by
 rw [hv] at h
 obtain ⟨u,h1,h2⟩:=h.2 0 d rfl
 cases h1
 exact h2
theorem arg_agg{us:List AV}{cs:Array Value}(h:RV (RepT w okT) us (Value.agg cs).cells.toList):RepT w okT (.agg us) (.agg cs):=by
 have h1:(Value.agg cs).cells=cs:=rfl
 rw [h1] at h
 refine .agg (by have:=h.1;simpa using this) fun i d hi=>?_
 obtain ⟨u,h2,h3⟩:=h.2 i d hi
 have h4:cs[i]?=some u:=by simpa using h2
 rw [Array.getD_eq_getD_getElem?,h4]
 exact h3
theorem rvs_nil{R:AV→Value→Prop}:RV R [] []:=⟨rfl,fun i d hi=>by simp at hi⟩
theorem rvs_cons{R:AV→Value→Prop}{a:AV}{v:Value}{l:List AV}{vs:List Value}(h:R a v)(hl:RV R l vs):RV R (a::l) (v::vs):=⟨by simp [hl.1],fun i d hi=>by
 match i,hi with
 | 0,hi=>cases hi;exact ⟨v,rfl,h⟩
 | i+1,hi=>exact hl.2 i d (by simpa using hi)⟩
end
end
section
open Go.ChangeShapes Go.WideShapes Go.RowKit Go.Deep
section
variable {w : World}
theorem cO_Rat: Tryz.prog.cellsOf 26=3:=by kernel_rfl
theorem cO_Rat_0: Tryz.prog.cellsOf 4=1:=by kernel_rfl
theorem cO_Rat_1: Tryz.prog.cellsOf 24=1:=by kernel_rfl
theorem cO_Rat_2: Tryz.prog.cellsOf 24=1:=by kernel_rfl
set_option maxRecDepth 100000 in
theorem op_Rat:Opens w 26 (fun N us=>∃x:Raw,us=rawC x∧okRaw N x):=fun H enc base spare held fuel cs x hx=>by
 obtain ⟨hl,hf⟩:=fldB Tryz.underlying26 hx
 rw [cO_Rat] at hl
 obtain ⟨n0,y0,g0,b0⟩:=hf 0 _ 4 0 rfl rfl rfl
 obtain ⟨a0,⟨x0,e0,p0⟩,r0⟩:=(op_boolO Tryz.underlying4) _ _ _ _ _ _ _ _ g0
 rw [cO_Rat_0] at r0
 subst e0
 obtain ⟨n1,y1,g1,b1⟩:=hf 1 _ 24 1 rfl rfl rfl
 obtain ⟨a1,⟨x1,e1,p1⟩,r1⟩:=op_natO _ _ _ _ _ _ _ _ g1
 rw [cO_Rat_1] at r1
 subst e1
 obtain ⟨n2,y2,g2,b2⟩:=hf 2 _ 24 2 rfl rfl rfl
 obtain ⟨a2,⟨x2,e2,p2⟩,r2⟩:=op_natO _ _ _ _ _ _ _ _ g2
 rw [cO_Rat_2] at r2
 subst e2
 exact ⟨_,⟨(⟨x0,x1,x2⟩:Raw),rfl,⟨okNat.up b1 p1,okNat.up b2 p2⟩⟩,rv_fld (o:=0) (n:=1) r0 (rv_fld (o:=1) (n:=1) r1 (rv_fld (o:=2) (n:=1) r2 (rv_end hl) (by omega)) (by omega)) (by omega)⟩
def okO_Term(N:Nat)(x:Int × Raw):Prop:=okInt .i64 N x.1∧okRaw N x.2
theorem okO_Term.up{N M:Nat}{x:Int × Raw}(hN:N≤M)(h:okO_Term N x):okO_Term M x:=⟨okInt.up hN h.1,okRaw.up hN h.2⟩
theorem cO_Term: Tryz.prog.cellsOf 68=4:=by kernel_rfl
theorem cO_Term_0: Tryz.prog.cellsOf 3=1:=by kernel_rfl
theorem cO_Term_1: Tryz.prog.cellsOf 26=3:=by kernel_rfl
set_option maxRecDepth 100000 in
theorem op_Term:Opens w 68 (fun N us=>∃x:Int × Raw,us=termRC x∧okO_Term N x):=fun H enc base spare held fuel cs x hx=>by
 obtain ⟨hl,hf⟩:=fldB Tryz.underlying68 hx
 rw [cO_Term] at hl
 obtain ⟨n0,y0,g0,b0⟩:=hf 0 _ 3 0 rfl rfl rfl
 obtain ⟨a0,⟨x0,e0,p0⟩,r0⟩:=(op_intO Tryz.underlying3) _ _ _ _ _ _ _ _ g0
 rw [cO_Term_0] at r0
 subst e0
 obtain ⟨n1,y1,g1,b1⟩:=hf 1 _ 26 1 rfl rfl rfl
 obtain ⟨a1,⟨x1,e1,p1⟩,r1⟩:=op_Rat _ _ _ _ _ _ _ _ g1
 rw [cO_Term_1] at r1
 subst e1
 exact ⟨_,⟨(⟨x0,x1⟩:Int × Raw),rfl,⟨okInt.up b0 p0,okRaw.up b1 p1⟩⟩,rv_fld (o:=0) (n:=1) r0 (rv_fld (o:=1) (n:=3) r1 (rv_end hl) (by omega)) (by omega)⟩
def okO_LTerm(N:Nat)(L:List (Int × Raw)):Prop:=L.length≤N∧∀x∈L,okO_Term N x
theorem okO_LTerm.up{N M:Nat}{L:List (Int × Raw)}(hN:N≤M)(h:okO_LTerm N L):okO_LTerm M L:=⟨Nat.le_trans h.1 hN,fun x hx=>okO_Term.up hN (h.2 x hx)⟩
theorem cO_LTermE: Tryz.prog.cellsOf 68=4:=by kernel_rfl
theorem op_LTerm:Opens w 22 (fun N us=>∃L:List (Int × Raw),us=[.sl 4 (L.map termRC)]∧okO_LTerm N L):=
 (op_list (α:=Int × Raw) (enc:=termRC) (ok:=okO_Term) Tryz.underlying22 cO_LTermE (by omega) op_Term (fun N M x h g=>okO_Term.up h g)).mono fun N us ⟨L,h1,h2,h3⟩=>⟨L,h1,h2,h3⟩
def okO_Affine(N:Nat)(x:FormR):Prop:=okO_LTerm N x.1∧okRaw N x.2
theorem okO_Affine.up{N M:Nat}{x:FormR}(hN:N≤M)(h:okO_Affine N x):okO_Affine M x:=⟨okO_LTerm.up hN h.1,okRaw.up hN h.2⟩
theorem cO_Affine: Tryz.prog.cellsOf 28=4:=by kernel_rfl
theorem cO_Affine_0: Tryz.prog.cellsOf 22=1:=by kernel_rfl
theorem cO_Affine_1: Tryz.prog.cellsOf 26=3:=by kernel_rfl
set_option maxRecDepth 100000 in
theorem op_Affine:Opens w 28 (fun N us=>∃x:FormR,us=formRC x∧okO_Affine N x):=fun H enc base spare held fuel cs x hx=>by
 obtain ⟨hl,hf⟩:=fldB Tryz.underlying28 hx
 rw [cO_Affine] at hl
 obtain ⟨n0,y0,g0,b0⟩:=hf 0 _ 22 0 rfl rfl rfl
 obtain ⟨a0,⟨x0,e0,p0⟩,r0⟩:=op_LTerm _ _ _ _ _ _ _ _ g0
 rw [cO_Affine_0] at r0
 subst e0
 obtain ⟨n1,y1,g1,b1⟩:=hf 1 _ 26 1 rfl rfl rfl
 obtain ⟨a1,⟨x1,e1,p1⟩,r1⟩:=op_Rat _ _ _ _ _ _ _ _ g1
 rw [cO_Affine_1] at r1
 subst e1
 exact ⟨_,⟨(⟨x0,x1⟩:FormR),rfl,⟨okO_LTerm.up b0 p0,okRaw.up b1 p1⟩⟩,rv_fld (o:=0) (n:=1) r0 (rv_fld (o:=1) (n:=3) r1 (rv_end hl) (by omega)) (by omega)⟩
def okO_LRat(N:Nat)(L:List (Raw)):Prop:=L.length≤N∧∀x∈L,okRaw N x
theorem okO_LRat.up{N M:Nat}{L:List (Raw)}(hN:N≤M)(h:okO_LRat N L):okO_LRat M L:=⟨Nat.le_trans h.1 hN,fun x hx=>okRaw.up hN (h.2 x hx)⟩
def okO_LAffine(N:Nat)(L:List (FormR)):Prop:=L.length≤N∧∀x∈L,okO_Affine N x
theorem okO_LAffine.up{N M:Nat}{L:List (FormR)}(hN:N≤M)(h:okO_LAffine N L):okO_LAffine M L:=⟨Nat.le_trans h.1 hN,fun x hx=>okO_Affine.up hN (h.2 x hx)⟩
theorem cO_LAffineE: Tryz.prog.cellsOf 28=4:=by kernel_rfl
theorem op_LAffine:Opens w 40 (fun N us=>∃L:List (FormR),us=[.sl 4 (L.map formRC)]∧okO_LAffine N L):=
 (op_list (α:=FormR) (enc:=formRC) (ok:=okO_Affine) Tryz.underlying40 cO_LAffineE (by omega) op_Affine (fun N M x h g=>okO_Affine.up h g)).mono fun N us ⟨L,h1,h2,h3⟩=>⟨L,h1,h2,h3⟩
end
end
section
open Go.ChangeShapes Go.WideShapes Go.RowKit Go.Deep
theorem gT: Tryz.prog.globalNamed "internal/strconv.uint64pow10"=some 0:=by kernel_rfl
theorem tT:(Tryz.prog.globals[0]?).map (·.type)=some 178:=by kernel_rfl
theorem gtab_pow{g:Nat}{cs:List AV}(h:gtab g=some cs):g= 0∧cs=Lib.pow10Tab.map fun z=>AV.lit (.int .u64 z):=by
 unfold gtab at h
 split at h
 ·rename_i e
  subst e
  cases h
  exact ⟨rfl,rfl⟩
 ·cases h
theorem glob_laid {w:World} (hT:Lib.TabIs Tryz.prog w "internal/strconv.uint64pow10" .u64 Lib.pow10Tab):Glob w okT:=by
 refine ⟨fun g cs hg=>?_,fun g hg=>?_,fun g hg=>absurd hg (by simp [gint])⟩
 ·obtain ⟨rfl,rfl⟩:=gtab_pow hg
  unfold Lib.TabIs World.var? at hT
  rw [gT] at hT
  simp only [Option.bind_some] at hT
  split at hT
  ·rename_i c t fr hc
   cases hT
   have key:∀(j:Nat) (d:AV),(Lib.pow10Tab.map fun z=>AV.lit (.int .u64 z))[j]?=some d→∃v,w.cell? ⟨0,0+j,none⟩=some v∧d=.lit v:=fun j d hj=>by
    rw [List.getElem?_map] at hj
    obtain ⟨z,hz,rfl⟩:=Option.map_eq_some_iff.1 hj
    refine ⟨.int .u64 z,?_,rfl⟩
    rw [Nat.zero_add]
    simp only [World.cell?,hc]
    simp [hz]
   refine ⟨.mem (fun j d hj=>?_) (fun j d hj=>?_),t,?_⟩
   ·obtain ⟨v,h1,_⟩:=key j d hj
    exact ⟨trivial,by rw [h1];rfl⟩
   ·obtain ⟨v,h1,rfl⟩:=key j d hj
    rw [h1]
    exact .lit _
   ·simp [World.shape?,hc]
  ·cases hT
 ·exact absurd hg (by simp [gerr])
theorem laid_glob {W:World} (h:laidMet Tryz.prog [("math/bits.deBruijn32tab",Rows.laid_math_bits_deBruijn32tab),("math/bits.deBruijn64tab",Rows.laid_math_bits_deBruijn64tab),("internal/strconv.uint64pow10",Rows.laid_internal_strconv_uint64pow10)] W):Glob W okT:=by
 have h3:=laidMet.tail (laidMet.tail h)
 have hT:Lib.TabIs Tryz.prog W "internal/strconv.uint64pow10" .u64 Lib.pow10Tab:=Lib.tabIs_of_head gT tT Tryz.underlying178 Tryz.underlying91 (by kernel_rfl) (by kernel_rfl) h3
 exact glob_laid hT
theorem true_end{w:World}{ok:Nat→Nat→Prop}{e:Ending}{w':World}(h:∃v,e=.returned v∧RepT w' (okN ok w w') (.lit (.bool true)) v∧Below w.heap.size w w'):RetB true w e w':=by
 obtain ⟨v,rfl,h2,h3⟩:=h
 cases h2
 exact ⟨rfl,h3⟩
end
section
open Go.ChangeShapes Go.WideShapes Go.RowKit Go.Deep
theorem okQ33{N:Nat}{r:Raw}(h:okRaw N r)(hN:N≤1048576):RawB r:=⟨h.1.1,h.2.1,by have:=h.1.2;omega,by have:=h.2.2;omega⟩
theorem okF33{N:Nat}{f:FormR}(h:okO_Affine N f)(hN:N≤1048576):RawF f:=⟨fun t ht=>okQ33 (h.1.2 t ht).2 hN,okQ33 h.2 hN⟩
theorem okWide_arr{P:Program}{w:World}{r:Reach}{b:Nat}{t e:TypeId}{v:Value}{n:Nat}(ht:P.underlying t=some (.array n e))(h:Value.okWide P w r b t v):∃cs:Array Value,v=.agg cs:=by
 simp only [Value.okWide,ht] at h
 obtain ⟨cs,h1,_⟩:=h
 exact ⟨cs,h1⟩
theorem cArr4: Tryz.prog.cellsOf 47=4:=by kernel_rfl
theorem cArr1: Tryz.prog.cellsOf 46=1:=by kernel_rfl
def okA4(x:Int × Int × Int × Int):Prop:=(-128≤x.1∧x.1<128)∧(-128≤x.2.1∧x.2.1<128)∧(-128≤x.2.2.1∧x.2.2.1<128)∧(-128≤x.2.2.2∧x.2.2.2<128)
theorem i8_in{z:Int}(h:(Lit.int .i8 z).wf=true):-128≤z∧z<128:=by
 have:=bounds_i8 h
 omega
theorem op_Arr4{w:World}:Opens w 47 (fun _ us=>∃x:Int × Int × Int × Int,us=[.lit (.int .i8 x.1),.lit (.int .i8 x.2.1),.lit (.int .i8 x.2.2.1),.lit (.int .i8 x.2.2.2)]∧okA4 x):=fun H enc base spare held fuel cs x hx=>by
 obtain ⟨xs,m,rfl,rfl,hl,hxl,hg⟩:=DataW.trod_array Tryz.underlying47 hx
 rw [cArr4] at hl
 rw [cArr1] at hg
 match cs,hl with
 | [c0,c1,c2,c3],_=>
   have g:∀(i:Nat) (c:Value),i<4→(([c0,c1,c2,c3]:List Value).drop (i*1)).take 1=[c]→∃z,c=.int .i8 z∧(-128≤z∧z<128):=fun i c hi hc=>by
    have h1:=hg i hi
    rw [hc] at h1
    have h2:xs[i]?=some (xs[i]'(by omega)):=List.getElem?_eq_getElem _
    rw [h2] at h1
    obtain ⟨z,h3,_,h4⟩:=DataW.trod_int Tryz.underlying46 h1
    cases h3
    exact ⟨z,rfl,i8_in h4⟩
   obtain ⟨z0,rfl,b0⟩:=g 0 c0 (by omega) rfl
   obtain ⟨z1,rfl,b1⟩:=g 1 c1 (by omega) rfl
   obtain ⟨z2,rfl,b2⟩:=g 2 c2 (by omega) rfl
   obtain ⟨z3,rfl,b3⟩:=g 3 c3 (by omega) rfl
   refine ⟨_,⟨(z0,z1,z2,z3),rfl,b0,b1,b2,b3⟩,rfl,fun i d hi=>?_⟩
   match i,hi with
   | 0,hi=>cases hi;exact ⟨_,rfl,.lit _⟩
   | 1,hi=>cases hi;exact ⟨_,rfl,.lit _⟩
   | 2,hi=>cases hi;exact ⟨_,rfl,.lit _⟩
   | 3,hi=>cases hi;exact ⟨_,rfl,.lit _⟩
   | i+4,hi=>simp at hi
theorem lp_use(w:World){v0 v2:Value}{l:List FormR}{z:Int}{x:Int × Int × Int × Int}{N:Nat}(hz:(Lit.int .u8 z).wf=true)(r0:RepT w okT (.sl 4 (l.map formRC)) v0)(r2:RepT w okT (.agg [.lit (.int .i8 x.1),.lit (.int .i8 x.2.1),.lit (.int .i8 x.2.2.1),.lit (.int .i8 x.2.2.2)]) v2)(k0:okO_LAffine N l)(k2:okA4 x)(hN:N≤1048576)(hG:Glob w okT):
  Calls Tryz.prog 5 #[v0,.int .u8 z,v2] w (RetB true w):=by
 have h0:0≤z∧z≤255:=by simpa [Lit.wf,IntKind.min,IntKind.max,IntKind.signed,IntKind.bits] using hz
 exact (lpR_con (lp_law (n:=0) (by have:=k0.1;omega) (fun f hf=>okF33 (k0.2 f hf) hN) h0.1 k2.1 k2.2.1 k2.2.2.1 k2.2.2.2) w okT _ hG (rvs_cons r0 (rvs_cons (.lit _) (rvs_cons r2 rvs_nil)))).mono fun _ _ h=>true_end h
end
end Go.Proofs.YtdaonnnlgfhlaaaGreatDoor
