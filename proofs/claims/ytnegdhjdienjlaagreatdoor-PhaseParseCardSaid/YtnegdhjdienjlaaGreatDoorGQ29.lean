import Derived.Test.YtnegdhjdienjlaaGreatDoorGQ26
import Derived.Test.YtnegdhjdienjlaaGreatDoorGQ23
import Derived.Test.YtnegdhjdienjlaaGreatDoorGQ27
import Derived.Test.YtnegdhjdienjlaaGreatDoorGQ28
set_option linter.all false
set_option maxHeartbeats 6400000
set_option maxRecDepth 100000
namespace Go.Proofs.YtnegdhjdienjlaaGreatDoor
section
open Go.RowKit
open Lib (decDigits)
attribute [local irreducible] run runL loopG exec
theorem rat0:ratV 0=.agg [.lit (.bool false),.sl 1 [],.sl 1 []]:=by simp
theorem nat1:natA (lmb 1)=.sl 1 [[.lit (.int .u32 1)]]:=by
 have e:lmb 1=[1]:=by decide+kernel
 rw [e];rfl
theorem krep{k:Nat}(h:k≤1000):oRepeat [.lit (.string (⟨#[48]⟩:ByteArray)),.lit (.int .i64 (k:Int))]=some (.lit (.string (bs (List.replicate k 48)))):=by
 have e2:(⟨#[48]⟩:ByteArray).size=1:=rfl
 unfold oRepeat
 dsimp only
 rw [if_pos ⟨by omega,by omega,by rw [Int.toNat_natCast,e2];omega⟩,Int.toNat_natCast]
 rw [repL]
 rfl
theorem dgV_ten:∀(k n:Nat),dgV (List.replicate k 48) n=n*10 ^ k
 | 0,n=>by simp [dgV]
 | k+1,n=>by
   have e:dgV (List.replicate (k+1) 48) n=dgV (List.replicate k 48) (n*10+0):=rfl
   rw [e,dgV_ten k,Nat.pow_succ,Nat.add_zero,Nat.mul_assoc,Nat.mul_comm 10]
theorem dpF_eq(L:List UInt8):dpF L=
  if dgF L (if L[0]?=some 45 then 1 else 0)=[] then none else
  match L.drop ((if L[0]?=some 45 then 1 else 0)+(dgF L (if L[0]?=some 45 then 1 else 0)).length) with
  | []=>some (qv (decide (L[0]?=some 45)) (dgV (dgF L (if L[0]?=some 45 then 1 else 0)) 0) 1)
  | c::R=>if c=47 then (if R.takeWhile isD=[]∨R.dropWhile isD≠[]∨dgV (R.takeWhile isD) 0=0 then none else some (qv (decide (L[0]?=some 45)) (dgV (dgF L (if L[0]?=some 45 then 1 else 0)) 0) (dgV (R.takeWhile isD) 0)))
    else if c=46 then (if R.takeWhile isD=[]∨R.dropWhile isD≠[] then none else some (qv (decide (L[0]?=some 45)) (dgV (dgF L (if L[0]?=some 45 then 1 else 0)++R.takeWhile isD) 0) (10 ^ (R.takeWhile isD).length)))
    else none:=by
 have hh:L.head?=L[0]?:=List.head?_eq_getElem? ..
 have hM:(if decide (L[0]?=some 45)=true then L.drop 1 else L)=L.drop (if L[0]?=some 45 then 1 else 0):=by
  by_cases h:L[0]?=some 45
  ·rw [decide_eq_true h,if_pos rfl,if_pos h]
  ·rw [decide_eq_false h,if_neg (by simp),if_neg h,List.drop_zero]
 unfold dpF
 rw [hh]
 dsimp only
 rw [hM,dgF_rest]
 rfl
section
variable {n : Nat} {L : List UInt8}
theorem dnm_c(hL:L.length≤400):∃(e z z2:Int),runL (n+7) 84 [.ptr 0 0] [pB4 L 0 0]=some (.tup [ratV ((dpF L).getD 0),.lit (.int .i64 e)],[(0,.box 120 [.lit (.string (bs L)),.lit (.int .i64 z),.lit (.int .i64 z2)] false)])∧(e=0↔(dpF L).isSome=true):=by
 have hs:(bs L).size=L.length:=bs_size _
 have K1:=dis_c (n:=n+6) (k:=0) 45 (show L.length≤100000 by omega) (Nat.zero_le L.length)
 rw [dpF_eq]
 have hi0:(if L[0]?=some 45 then 1 else 0)≤L.length:=by
  split
  ·rename_i h
   have:=(List.getElem?_eq_some_iff.1 h).1
   omega
  ·omega
 generalize hneg:decide (L[0]?=some 45)=neg at K1
 generalize hii:(if L[0]?=some 45 then (1:Nat) else 0)=i0 at hi0
 have K1':runL (n+6) 147 [.ptr 0 0,.lit (.int .u8 45)] [pB4 L 0 0]=some (.lit (.bool neg),[(0,pB4 L i0 0)]):=by
  have e:(if L[0]?=some 45 then 0+1 else 0)=i0:=hii
  rw [e] at K1
  exact K1
 clear K1
 have K2:=ddg_c (n:=n+6) (k:=0) (i:=i0) (show L.length+0≤3000 by omega) hi0
 have hDl:=dgF_len L i0 hi0
 have hDd:∀c∈dgF L i0,isD c=true:=tw_all _
 generalize dgF L i0=D at K2 hDl hDd
 rw [Nat.zero_add] at K2
 by_cases h0:D=[]
 ·rw [if_pos h0] at K2 ⊢
  have R:=dnm_f1 (n:=n) (a0:=⟨bs L,0,0⟩) K1' K2 (by decide)
  rw [Option.getD_none,rat0]
  exact ⟨4,_,_,R,by simp⟩
 rw [if_neg h0] at K2 ⊢
 have hget:∀i,L[i]?=(L.drop i).head?:=fun i=>by rw [List.head?_eq_getElem?,List.getElem?_drop];rfl
 have K4:=dis_c (n:=n+6) (k:=D.length) (i:=i0+D.length) 47 (show L.length≤100000 by omega) hDl
 have K6:=dis_c (n:=n+6) (k:=D.length) (i:=i0+D.length) 46 (show L.length≤100000 by omega) hDl
 have V:=dva_c (n:=n+4) hDd (by omega)
 have lD:=lmb_dg hDd (m:=400) (by omega)
 have M:=imk_c (n:=n+4) (k:=dgV D 0) (s:=neg) (by omega)
 rw [hget] at K4 K6
 cases hR:L.drop (i0+D.length) with
 | nil=>
   rw [hR] at K4 K6
   have hlen:¬i0+D.length<L.length:=fun h=>by
    have:=congrArg List.length hR
    rw [List.length_drop,List.length_nil] at this
    omega
   rw [if_neg (by simp),decide_eq_false (by simp)] at K4 K6
   have M1:=imk_c (n:=n+4) (k:=1) (s:=false) (by decide+kernel)
   have Q:=rmk_c (n:=n) (a:=dgV D 0) (d:=1) (s:=neg) (by omega) (by decide+kernel)
   rw [if_neg (by decide)] at Q
   have M1':=M1
   rw [nat1] at M1'
   have M1'':run (n+6) 152 [.lit (.bool false),.sl 1 [[.lit (.int .u32 1)]]]=some (.agg [.lit (.bool (false && decide (0<1))),natA (lmb 1)]):=by rw [←nat1];exact M1
   have R:=dnm_f12 (n:=n) (a0:=⟨bs L,0,0⟩) (r24:=⟨neg && decide (0<dgV D 0),lmb (dgV D 0)⟩) (r25:=⟨false && decide (0<1),lmb 1⟩) K1' K2 rfl K4 rfl K6 rfl (by show ¬_<((bs L).size:Int);omega) V M M1'' Q rfl
   exact ⟨0,_,_,R,by simp⟩
 | cons c R1=>
   rw [hR] at K4 K6
   rw [List.head?_cons] at K4 K6
   have hlt:i0+D.length<L.length:=by
    have:=congrArg List.length hR
    rw [List.length_drop,List.length_cons] at this
    omega
   have hR1:L.drop (i0+D.length+1)=R1:=by rw [←List.drop_drop,hR];rfl
   have hE:dgF L (i0+D.length+1)=R1.takeWhile isD:=by unfold dgF;rw [hR1]
   have hEl:=dgF_len L (i0+D.length+1) (by omega)
   have hErest:=dgF_rest L (i0+D.length+1)
   have hEd:∀c∈dgF L (i0+D.length+1),isD c=true:=tw_all _
   have K7:=ddg_c (n:=n+6) (k:=D.length) (i:=i0+D.length+1) (show L.length+D.length≤3000 by omega) (by omega)
   rw [hR1] at hErest
   dsimp only
   rw [←hE]
   generalize dgF L (i0+D.length+1)=E at hE hEl hErest hEd K7
   have hrest:R1.dropWhile isD≠[]↔i0+D.length+1+E.length<L.length:=by
    rw [←hErest]
    constructor
    ·intro h
     false_or_by_contra
     exact h (List.drop_of_length_le (by omega))
    ·intro h e
     have:=congrArg List.length e
     rw [List.length_drop,List.length_nil] at this
     omega
   have lE:=lmb_dg hEd (m:=400) (by omega)
   by_cases c47:c=47
   ·subst c47
    rw [if_pos rfl]
    rw [if_pos rfl,decide_eq_true rfl] at K4
    by_cases hE0:E=[]
    ·rw [if_pos hE0] at K7
     rw [if_pos (.inl hE0)]
     have R:=dnm_f2 (n:=n) (a0:=⟨bs L,0,0⟩) K1' K2 rfl K4 rfl K7 (by decide)
     rw [Option.getD_none,rat0]
     exact ⟨4,_,_,R,by simp⟩
    rw [if_neg hE0] at K7
    have V2:=dva_c (n:=n+4) hEd (by omega)
    by_cases hr:i0+D.length+1+E.length<L.length
    ·rw [if_pos (.inr (.inl (hrest.2 hr)))]
     have R:=dnm_f3 (n:=n) (a0:=⟨bs L,0,0⟩) K1' K2 rfl K4 rfl K7 rfl V2 (by show _<((bs L).size:Int);omega)
     rw [Option.getD_none,rat0]
     exact ⟨4,_,_,R,by simp⟩
    have M2:=imk_c (n:=n+4) (k:=dgV E 0) (s:=false) (by omega)
    have Q:=rmk_c (n:=n) (a:=dgV D 0) (d:=dgV E 0) (s:=neg) (by omega) (by omega)
    by_cases hz:dgV E 0=0
    ·rw [if_pos (.inr (.inr hz))]
     rw [if_pos hz] at Q
     have R:=dnm_f4 (n:=n) (a0:=⟨bs L,0,0⟩) (r14:=⟨neg && decide (0<dgV D 0),lmb (dgV D 0)⟩) (r15:=⟨false && decide (0<dgV E 0),lmb (dgV E 0)⟩) K1' K2 rfl K4 rfl K7 rfl V2 (by show ¬_<((bs L).size:Int);omega) V M M2 Q (by decide)
     exact ⟨3,_,_,R,by simp⟩
    ·rw [if_neg (fun h=>by rcases h with h|h|h;exact hE0 h;exact hr (hrest.1 h);exact hz h)]
     rw [if_neg hz] at Q
     have R:=dnm_f5 (n:=n) (a0:=⟨bs L,0,0⟩) (r14:=⟨neg && decide (0<dgV D 0),lmb (dgV D 0)⟩) (r15:=⟨false && decide (0<dgV E 0),lmb (dgV E 0)⟩) K1' K2 rfl K4 rfl K7 rfl V2 (by show ¬_<((bs L).size:Int);omega) V M M2 Q rfl
     exact ⟨0,_,_,R,by simp⟩
   rw [if_neg c47]
   rw [if_neg (fun h=>c47 (Option.some.inj h)),decide_eq_false (fun h=>c47 (Option.some.inj h))] at K4
   by_cases c46:c=46
   ·subst c46
    rw [if_pos rfl]
    rw [if_pos rfl,decide_eq_true rfl] at K6
    by_cases hE0:E=[]
    ·rw [if_pos hE0] at K7
     rw [if_pos (.inl hE0)]
     have R:=dnm_f6 (n:=n) (a0:=⟨bs L,0,0⟩) K1' K2 rfl K4 rfl K6 rfl K7 (by decide)
     rw [Option.getD_none,rat0]
     exact ⟨4,_,_,R,by simp⟩
    rw [if_neg hE0] at K7
    have hDE:∀x∈D++E,isD x=true:=fun x hx=>by
     rcases List.mem_append.1 hx with h|h
     ·exact hDd x h
     ·exact hEd x h
    have hTd:∀x∈(49:UInt8)::List.replicate E.length 48,isD x=true:=fun x hx=>by
     rcases List.mem_cons.1 hx with rfl|h
     ·decide
     ·rw [List.eq_of_mem_replicate h];decide
    have hT:dgV ((49:UInt8)::List.replicate E.length 48) 0=10 ^ E.length:=by
     have e:dgV ((49:UInt8)::List.replicate E.length 48) 0=dgV (List.replicate E.length 48) 1:=rfl
     rw [e,dgV_ten,Nat.one_mul]
    have V3:=dva_c (n:=n+4) hTd (by rw [List.length_cons,List.length_replicate];omega)
    have lT:=lmb_dg hTd (m:=500) (by rw [List.length_cons,List.length_replicate];omega)
    rw [hT] at V3 lT
    have rep:=krep (k:=E.length) (by omega)
    rw [←bs_size E] at rep
    have s1:(⟨#[49]⟩:ByteArray).size=1:=rfl
    have D12:bs ((49:UInt8)::List.replicate E.length 48)=(⟨#[49]⟩:ByteArray)++bs (List.replicate E.length 48):=(bs_app [49] _).symm
    have S10:(bs D).size+(bs E).size≤9000000000000000000:=by rw [bs_size,bs_size];omega
    have S12:(⟨#[49]⟩:ByteArray).size+(bs (List.replicate E.length 48)).size≤9000000000000000000:=by rw [s1,bs_size,List.length_replicate];omega
    by_cases hr:i0+D.length+1+E.length<L.length
    ·rw [if_pos (.inr (hrest.2 hr))]
     have R:=dnm_f7 (n:=n) (a0:=⟨bs L,0,0⟩) K1' K2 rfl K4 rfl K6 rfl K7 rfl S10 (bs_app D E).symm rep S12 D12 V3 (by show _<((bs L).size:Int);omega)
     rw [Option.getD_none,rat0]
     exact ⟨4,_,_,R,by simp⟩
    rw [if_neg (fun h=>by rcases h with h|h;exact hE0 h;exact hr (hrest.1 h))]
    have V4:=dva_c (n:=n+4) hDE (by rw [List.length_append];omega)
    have lDE:=lmb_dg hDE (m:=900) (by rw [List.length_append];omega)
    have M3:=imk_c (n:=n+4) (k:=dgV (D++E) 0) (s:=neg) (by omega)
    have M4:=imk_c (n:=n+4) (k:=10 ^ E.length) (s:=false) (by omega)
    have Q:=rmk_c (n:=n) (a:=dgV (D++E) 0) (d:=10 ^ E.length) (s:=neg) (by omega) (by omega)
    rw [if_neg (Nat.pos_iff_ne_zero.1 (Nat.pow_pos (by decide)))] at Q
    have R:=dnm_f9 (n:=n) (a0:=⟨bs L,0,0⟩) (r19:=⟨neg && decide (0<dgV (D++E) 0),lmb (dgV (D++E) 0)⟩) (r20:=⟨false && decide (0<10 ^ E.length),lmb (10 ^ E.length)⟩) K1' K2 rfl K4 rfl K6 rfl K7 rfl S10 (bs_app D E).symm rep S12 D12 V3 (by show ¬_<((bs L).size:Int);omega) V4 M3 M4 Q rfl
    exact ⟨0,_,_,R,by simp⟩
   ·rw [if_neg c46]
    rw [if_neg (fun h=>c46 (Option.some.inj h)),decide_eq_false (fun h=>c46 (Option.some.inj h))] at K6
    have R:=dnm_f10 (n:=n) (a0:=⟨bs L,0,0⟩) K1' K2 rfl K4 rfl K6 rfl (by show _<((bs L).size:Int);omega)
    rw [Option.getD_none,rat0]
    exact ⟨4,_,_,R,by simp⟩
theorem dpr_c(hL:L.length≤400):∃(a e:Int),run (n+8) 36 [.lit (.string (bs L))]=some (.tup [ratV ((dpF L).getD 0),.lit (.int .i64 a),.lit (.int .i64 e)])∧(e=0↔(dpF L).isSome=true):=by
 obtain ⟨e,z,z2,K,h⟩:=dnm_c (n:=n) hL
 by_cases he:e=0
 ·exact ⟨0,0,dpr_f2 K he,by rw [←h];exact ⟨fun _=>he,fun _=>rfl⟩⟩
 ·have R:=dpr_f1 K he
  have hn:dpF L=none:=by
   cases hd:dpF L with
   | none=>rfl
   | some q=>exact absurd (h.2 (by rw [hd];rfl)) he
  refine ⟨z,e,?_,h⟩
  rw [hn,Option.getD_none,rat0]
  exact R
end
end
section
open Go.RowKit
open Lib (decDigits)
theorem dd_ten:∀(m k:Nat),k<10 ^ (m+1)→(decDigits k).length≤m+1
 | 0,k,h=>by rw [dd_lt (by simpa using h)];simp
 | m+1,k,h=>by
   by_cases h10:k<10
   ·rw [dd_lt h10];simp
   ·rw [dd_ge h10,List.length_append,List.length_singleton]
    have h2:k / 10<10 ^ (m+1):=Nat.div_lt_of_lt_mul (by rw [Nat.pow_succ] at h;omega)
    have:=dd_ten m _ h2
    omega
theorem dd_lm{k m:Nat}(hm:1≤m)(h:(lmb k).length≤m):(decDigits k).length≤10*m:=by
 have h1:=val_lt (lim_lmb k)
 rw [val_lmb] at h1
 have h2:4294967296 ^ (lmb k).length≤4294967296 ^ m:=Nat.pow_le_pow_right (by decide) h
 have h3:4294967296 ^ m≤(10 ^ 10) ^ m:=Nat.pow_le_pow_left (by decide) m
 rw [←Nat.pow_mul] at h3
 have e:10*m=(10*m-1)+1:=by omega
 rw [e] at h3 ⊢
 exact dd_ten _ k (Nat.lt_of_lt_of_le h1 (Nat.le_trans h2 h3))
theorem abs_lm{q:Rat}{m:Nat}(hm:1≤m)(h:H q≤m):(absT q).length≤20*m+1∧(decDigits q.num.natAbs).length≤10*m∧(decDigits q.den).length≤10*m:=by
 have a1:(lmb q.num.natAbs).length≤H q:=Nat.le_max_left _ _
 have a2:(lmb q.den).length≤H q:=Nat.le_max_right _ _
 have h1:=dd_lm (k:=q.num.natAbs) hm (by omega)
 have h2:=dd_lm (k:=q.den) hm (by omega)
 refine ⟨?_,h1,h2⟩
 unfold absT
 rw [List.length_append]
 split
 ·simp;omega
 ·simp;omega
end
section
open Go.RowKit
open Lib (decDigits)
attribute [local irreducible] run runL loopG exec
section
variable {n : Nat}
theorem k10:(oU fun k=>natA (lmb k)) [.lit (.int .u64 10)]=some (natA (lmb 10)):=k_ofu (z:=10) (by omega) (by omega)
theorem lmb10:(lmb 10).length≤1:=lmb_len_le (by omega)
theorem f4p_c{k:Nat}(hk:k≤1000):run (n+2) 88 [.lit (.int .i64 (k:Int))]=some (natA (lmb (10 ^ k))):=by
 obtain ⟨b,L,hb,_⟩:=loopG_R (β:=List Nat) (O:=tab (n+2)) (P:= Tryz.prog) (m:=0) (N:=15) (lives:=livesOf 88) (r:=3) (C:=f4p_C3) (M:=k) (enc:=fun i b=>f4p_h3 (k:Int) b i) (exN:=.exit 0) (out:=fun b=>f4p_o3a b)
  (fun i b=>b=lmb (10 ^ i)∧i≤k) (lmb 1) ⟨rfl,by omega⟩ (by omega) (fun h=>by cases h)
  (fun i b hi hI=>by
   obtain ⟨rfl,_⟩:=hI
   have l1:(lmb (10 ^ i)).length≤i+1:=lmb_len_le (Nat.lt_of_lt_of_le (Nat.pow_lt_pow_right (by decide) (Nat.lt_succ_self i)) (Nat.pow_le_pow_left (by decide) _))
   have l2:=lmb10
   have K:=kmul (a:=10 ^ i) (b:=10) (by omega) (by omega)
   exact ⟨_,f4p_r3_1 (by omega) k10 K ⟨by omega,by omega⟩,by rw [Nat.pow_succ],by omega⟩)
  (fun b hI=>f4p_x3_1 (by omega))
 rw [hb] at L
 exact f4p_f1 (k_ofu (z:=1) (by omega) (by omega)) L
theorem f4d_c{L:List UInt8}{i u:Nat}(hL:L.length+u≤3000)(hi:i≤L.length):run (n+2) 87 [.lit (.string (bs L)),.lit (.int .i64 (i:Int)),.lit (.int .i64 (u:Int))]=
  some (.tup [natA (lmb (dgV (dgF L i) 0)),.lit (.int .i64 ((i+(dgF L i).length:Nat):Int)),.lit (.int .i64 ((u+(dgF L i).length:Nat):Int))]):=by
 have hs:(bs L).size=L.length:=bs_size _
 obtain ⟨t1,t2⟩:=tw_at (L.drop i)
 have hle:=dgF_len L i hi
 have htk:=dgF_take L i
 have hDd:∀c∈dgF L i,isD c=true:=tw_all _
 have hD:(L.drop i).takeWhile isD=dgF L i:=rfl
 rw [hD] at t1 t2
 generalize dgF L i=D at t1 t2 hle htk hDd
 have at_:∀j,(bs L)[(((i+j:Nat):Int)).toNat]?=(L.drop i)[j]?:=fun j=>by rw [Int.toNat_natCast,bs_at,List.getElem?_drop]
 have h0:lmb (dgV (D.take 0) 0)=[]:=lmb_eq_nil.2 rfl
 obtain ⟨b,L1,hb,_⟩:=loopG_R (β:=List Nat) (O:=tab (n+2)) (P:= Tryz.prog) (m:=0) (N:=49) (lives:=livesOf 87) (r:=2) (C:=f4d_C2) (M:=D.length) (enc:=fun j b=>f4d_h2 (bs L) ((i+j:Nat):Int) ((u+j:Nat):Int) b) (exN:=.exit 0) (out:=fun b=>f4d_o2b ((i+D.length:Nat):Int) ((u+D.length:Nat):Int) b)
  (fun j b=>b=lmb (dgV (D.take j) 0)∧j≤D.length) [] ⟨h0.symm,by omega⟩ (by omega) (fun h=>by cases h)
  (fun j b hj hI=>by
   obtain ⟨rfl,_⟩:=hI
   obtain ⟨x,h1,h2⟩:=t1 j hj
   have hd:=(isD_num x).1 h2
   have hx:D[j]?=some x:=by rw [←htk,List.getElem?_take,if_pos hj];exact h1
   have ht:D.take (j+1)=D.take j++[x]:=by
    obtain ⟨h3,h4⟩:=List.getElem?_eq_some_iff.1 hx
    rw [List.take_succ_eq_append_getElem h3,h4]
   have lT:=lmb_dg (D:=D.take j) (fun c hc=>hDd c (List.mem_of_mem_take hc)) (m:=3000) (by rw [List.length_take];omega)
   have l2:=lmb10
   have K7:=kmul (a:=dgV (D.take j) 0) (b:=10) (by omega) (by omega)
   have K10:=k_ofu (z:=(x.toNat:Int)-48) (by omega) (by omega)
   have e9:((x.toNat:Int)-48).toNat=x.toNat-48:=by omega
   rw [e9] at K10
   have l3:(lmb (x.toNat-48)).length≤1:=lmb_len_le (by omega)
   have l4:=lmb_len_mul (dgV (D.take j) 0) 10
   have K11:=kadd (a:=dgV (D.take j) 0*10) (b:=x.toNat-48) (by omega) (by omega)
   have e:dgV (D.take (j+1)) 0=dgV (D.take j) 0*10+(x.toNat-48):=by rw [ht,dgV_app];rfl
   refine ⟨_,?_,rfl,by omega⟩
   rw [e]
   exact f4d_r2_1 (by omega) (by rw [at_];exact h1) (by omega) (by omega) (by omega) (by omega) k10 K7 (wrB (by omega) (by omega)) (wrU (by omega) (by omega)) K10 K11 ⟨by omega,by omega⟩ ⟨by omega,by omega⟩)
  (fun b hI=>by
   by_cases hlt:i+D.length<L.length
   ·obtain ⟨x,hx⟩:∃x,(L.drop i)[D.length]?=some x:=⟨_,List.getElem?_eq_getElem (by rw [List.length_drop];omega)⟩
    have hd:=t2 x hx
    have hnd:¬(48≤x.toNat∧x.toNat≤57):=fun h=>by rw [(isD_num x).2 h] at hd;cases hd
    by_cases h48:48≤x.toNat
    ·exact f4d_x2_2 (b3:=x) (by omega) (by rw [at_];exact hx) (by omega) (by omega) (by omega)
    ·exact f4d_x2_3 (b3:=x) (by omega) (by rw [at_];exact hx) (by omega) (by omega)
   ·exact f4d_x2_4 (by omega))
 rw [hb,List.take_length] at L1
 exact f4d_f2 L1
theorem dig_sub{d:Nat}(h:d<10):(⟨#[48,49,50,51,52,53,54,55,56,57]⟩:ByteArray).extract d (d+1)=bs [dig d]:=by
 have e:=bs_cut [48,49,50,51,52,53,54,55,56,57] d (d+1)
 have e2:∀d:Fin 10,(([48,49,50,51,52,53,54,55,56,57]:List UInt8).drop d.1).take (d.1+1-d.1)=[dig d.1]:=by decide
 rw [e2 ⟨d,h⟩] at e
 exact e
theorem f4D_c{K:Nat}(hK:(lmb K).length≤1000):run (n+4) 80 [natA (lmb K)]=some (.lit (.string (bs (decDigits K)))):=by
 have hb:K<4294967296 ^ (lmb K).length:=by
  have:=val_lt (lim_lmb K)
  rwa [val_lmb] at this
 have hb2:K<10 ^ (10*(lmb K).length):=Nat.lt_of_lt_of_le hb (by rw [Nat.pow_mul];exact Nat.pow_le_pow_left (by decide) _)
 obtain ⟨ex,t,h1,h2⟩:=loopG_Q (β:=List UInt8) (O:=tab (n+4)) (P:= Tryz.prog) (m:=0) (N:=34) (lives:=livesOf 80) (r:=2) (C:=f4D_C2) (M:=10*(lmb K).length) (enc:=fun i l=>f4D_h2 (lmb (K / 10 ^ i)) (bs l))
  (fun i l=>dd0 (K / 10 ^ i)++l=dd0 K∧l.length≤i) (fun ex t=>ex=.exit 0∧t=f4D_o2a (bs (dd0 K))) [] ⟨by rw [Nat.pow_zero,Nat.div_one,List.append_nil],by simp⟩ (by omega)
  (fun i l hi hI=>by
   obtain ⟨i1,i2⟩:=hI
   have l0:(lmb (K / 10 ^ i)).length≤1000:=Nat.le_trans (lmb_len_mono (Nat.div_le_self _ _)) hK
   have ed:K / 10 ^ (i+1)=K / 10 ^ i / 10:=by rw [Nat.pow_succ,Nat.div_div_eq_div_mul]
   generalize K / 10 ^ i=m at i1 l0 ed
   by_cases hm:m=0
   ·subst hm
    refine .inr ⟨_,_,by simp,f4D_x2_1 (by rw [lmb0.2 rfl];decide),rfl,?_⟩
    rw [show l=dd0 K from i1]
   ·have hp:0<(lmb m).length:=by have:=@lmb0 m;omega
    have K3:=k_div (k:=m) (m:=10) (by omega) (by have:=lmb10;omega) (by omega)
    have hd:m % 10<10:=Nat.mod_lt _ (by decide)
    have K4:=k_uint (k:=m % 10) (by omega)
    have s10:(⟨#[48,49,50,51,52,53,54,55,56,57]⟩:ByteArray).size=10:=rfl
    have D6:bs [dig (m % 10)]=(⟨#[48,49,50,51,52,53,54,55,56,57]⟩:ByteArray).extract (((m % 10:Nat):Int)).toNat ((((m % 10:Nat):Int)+1).toNat):=by
     have e1:(((m % 10:Nat):Int)).toNat=m % 10:=by omega
     have e2:((((m % 10:Nat):Int)+1).toNat)=m % 10+1:=by omega
     rw [e1,e2];exact (dig_sub hd).symm
    have R:=f4D_r2_1 (n:=n) (nat_2:=lmb m) (str_2:=bs l) (by omega) k10 K3 K4 (wrU (by omega) (by omega)) ⟨by omega,by omega,by rw [s10];omega⟩ D6 (by rw [bs_size,bs_size,List.length_singleton];omega) (bs_app _ _).symm
    refine .inl ⟨dig (m % 10)::l,?_,?_,by rw [List.length_cons];omega⟩
    ·rw [ed];exact R
    ·rw [ed,←i1,dd0_10 (Nat.pos_of_ne_zero hm)];simp)
  (fun l hI=>by
   obtain ⟨i1,i2⟩:=hI
   have hz:K / 10 ^ (10*(lmb K).length)=0:=Nat.div_eq_of_lt hb2
   rw [hz] at i1 ⊢
   refine ⟨_,_,by simp,f4D_x2_1 (by rw [lmb0.2 rfl];decide),rfl,?_⟩
   rw [show l=dd0 K from i1])
 obtain ⟨rfl,rfl⟩:=h2
 rw [Nat.pow_zero,Nat.div_one] at h1
 by_cases h:K=0
 ·subst h
  have R:=f4D_f1 (n:=n) h1 rfl
  rw [R,dd_lt (by decide)];rfl
 ·have e:dd0 K=decDigits K:=if_neg h
  rw [e] at h1
  exact f4D_f2 h1 (bs_ne (dd_ne _))
theorem f4T_c{q:Rat}(hq:H q≤1000):run (n+5) 33 [ratV q]=some (.lit (.string (bs (rtx q)))):=by
 have a1:(lmb q.num.natAbs).length≤H q:=Nat.le_max_left _ _
 have a2:(lmb q.den).length≤H q:=Nat.le_max_right _ _
 have K1:run (n+4) 80 [natA (rawQ q).l1]=some (.lit (.string (bs (decDigits q.num.natAbs)))):=f4D_c (n:=n) (by omega)
 obtain ⟨l1,l2⟩:(decDigits q.num.natAbs).length≤10000∧(decDigits q.den).length≤10000:=by
  have:=abs_lm (m:=1000) (by omega) hq
  omega
 have s1:(⟨#[45]⟩:ByteArray).size=1:=rfl
 have s2:(⟨#[47]⟩:ByteArray).size=1:=rfl
 have D3:bs ([45]++decDigits q.num.natAbs)=(⟨#[45]⟩:ByteArray)++bs (decDigits q.num.natAbs):=(bs_app [45] _).symm
 have D6:bs (47::decDigits q.den)=(⟨#[47]⟩:ByteArray)++bs (decDigits q.den):=(bs_app [47] _).symm
 unfold rtx absT
 by_cases hd:q.den=1
 ·have el:(rawQ q).l2=[]:=by show dlmb q.den=[];unfold dlmb;rw [if_pos hd]
  rw [if_pos hd,List.append_nil]
  have C:¬(0:Int)<((rawQ q).l2.length:Int):=by rw [el];decide
  cases hn:ngT q with
  | true=>
    rw [if_pos rfl]
    exact f4T_f2 K1 hn (by rw [s1,bs_size];omega) D3 C
  | false=>
    rw [if_neg (by simp),List.nil_append]
    exact f4T_f4 K1 hn C
 ·have el:(rawQ q).l2=lmb q.den:=by show dlmb q.den=_;unfold dlmb;rw [if_neg hd]
  have K5:run (n+4) 80 [natA (rawQ q).l2]=some (.lit (.string (bs (decDigits q.den)))):=by rw [el];exact f4D_c (n:=n) (by omega)
  have C:(0:Int)<((rawQ q).l2.length:Int):=by
   rw [el]
   have:=@lmb0 q.den
   have:=q.den_pos
   omega
  rw [if_neg hd]
  cases hn:ngT q with
  | true=>
    rw [if_pos rfl,←List.append_assoc]
    exact f4T_f1 K1 hn (by rw [s1,bs_size];omega) D3 C K5 (by rw [s2,bs_size];omega) D6 (by rw [bs_size,bs_size];simp;omega) (bs_app _ _).symm
  | false=>
    rw [if_neg (by simp),List.nil_append]
    exact f4T_f3 K1 hn C K5 (by rw [s2,bs_size];omega) D6 (by rw [bs_size,bs_size];simp;omega) (bs_app _ _).symm
theorem fmk2_c{k:Nat}{s:Bool}(hk:(lmb k).length≤1000000):run (n+1) 91 [.lit (.bool s),natA (lmb k)]=some (.agg [.lit (.bool (s && decide (0<k))),natA (lmb k)]):=by
 have K:=k_make hk
 cases s with
 | false=>exact fmk2_f2 K rfl
 | true=>
   have R:=fmk2_f1 (n:=n) (a0:=true) K rfl
   have e:decide (0<((lmb k).length:Int))=(true && decide (0<k)):=by
    rw [Bool.true_and]
    apply decide_eq_decide.2
    have:=@lmb0 k
    omega
   rw [e] at R
   exact R
theorem fmk3_c{a d:Nat}{s:Bool}(ha:(lmb a).length≤1000000)(hd:(lmb d).length≤1000000):
  run (n+6) 68 [.agg [.lit (.bool (s && decide (0<a))),natA (lmb a)],.agg [.lit (.bool (false && decide (0<d))),natA (lmb d)]]=some (if d=0 then .tup [ratV 0,.lit (.int .i64 3)] else .tup [ratV (qv s a d),.lit (.int .i64 0)]):=by
 have M:=fmk2_c (n:=n+3) (k:=d) (s:=false && decide (0<d)) hd
 have eM:((false && decide (0<d)) && decide (0<d))=(false && decide (0<d)):=by simp
 rw [eM] at M
 have hl:=@lmb0 d
 by_cases h:d=0
 ·rw [if_pos h]
  have S:=fsg2_f1 (n:=n+3) (a0:=⟨false && decide (0<d),lmb d⟩) (r:=⟨false && decide (0<d),lmb d⟩) M (by show ((lmb d).length:Int)=0;omega)
  have R:=fmk3_f1 (n:=n) (a0:=⟨s && decide (0<a),lmb a⟩) (a1:=⟨false && decide (0<d),lmb d⟩) S rfl
  rw [R]
  simp
 ·rw [if_neg h]
  have S:=fsg2_f3 (n:=n+3) (a0:=⟨false && decide (0<d),lmb d⟩) (r:=⟨false && decide (0<d),lmb d⟩) M (by show ¬((lmb d).length:Int)=0;omega) rfl
  have Q:=kq (b:=!((s && decide (0<a))==(false && decide (0<d)))) ha hd (Nat.pos_of_ne_zero h)
  have e2:(!((s && decide (0<a))==(false && decide (0<d))))=(s && decide (0<a)):=by
   rw [Bool.false_and];cases (s && decide (0<a)) <;>rfl
  have R:=fmk3_f2 (n:=n) (a0:=⟨s && decide (0<a),lmb a⟩) (a1:=⟨false && decide (0<d),lmb d⟩) S (by decide) Q
  rw [R,e2,qv_s]
theorem fpar_n{L:List UInt8}(hL:L.length≤400){b:UInt8}(h0:L[0]?=some b)(hb:b=45):∃(a e:Int),run (n+7) 39 [.lit (.string (bs L))]=some (.tup [ratV ((dpF L).getD 0),.lit (.int .i64 a),.lit (.int .i64 e)])∧(e=0↔(dpF L).isSome=true):=by
 have hs:(bs L).size=L.length:=bs_size _
 have hlt0:0<L.length:=(List.getElem?_eq_some_iff.1 h0).1
 have E0:(bs L)[0]?=some b:=by rw [bs_at];exact h0
 rw [dpF_eq]
 have hneg:decide (L[0]?=some 45)=true:=by rw [h0];simp [hb]
 have hii:(if L[0]?=some 45 then (1:Nat) else 0)=1:=by rw [h0];simp [hb]
 have hbb:(((b.toNat:Int)==45))=true:=by rw [hb];decide
 rw [hneg,hii]
 have K4:=f4d_c (n:=n+4) (u:=0) (i:=1) (show L.length+0≤3000 by omega) (by omega)
 have hDl:=dgF_len L 1 (by omega)
 have hDd:∀c∈dgF L 1,isD c=true:=tw_all _
 generalize dgF L 1=D at K4 hDl hDd
 rw [Nat.zero_add] at K4
 by_cases hD0:D=[]
 ·subst hD0
  rw [if_pos rfl]
  have R:=f4P_f2 (n:=n) (by omega) E0 (by rw [hb];decide) K4 (by omega) (by simp)
  rw [Option.getD_none,rat0]
  exact ⟨_,4,R,by simp⟩
 rw [if_neg hD0]
 have hp:0<D.length:=List.length_pos_iff.2 hD0
 have lD:=lmb_dg hDd (m:=400) (by omega)
 have M:=fmk2_c (n:=n+5) (k:=dgV D 0) (s:=(((b.toNat:Int)==45))) (by omega)
 have hget:∀i,L[i]?=(L.drop i).head?:=fun i=>by rw [List.head?_eq_getElem?,List.getElem?_drop];rfl
 have at_:(bs L)[(((1+D.length:Nat):Int)).toNat]?=(L.drop (1+D.length)).head?:=by rw [Int.toNat_natCast,bs_at,hget]
 cases hR:L.drop (1+D.length) with
 | nil=>
   have hlen:¬1+D.length<L.length:=fun h=>by
    have:=congrArg List.length hR
    rw [List.length_drop,List.length_nil] at this
    omega
   have M1:=fmk2_c (n:=n+5) (k:=1) (s:=false) (by decide+kernel)
   have Q:=fmk3_c (n:=n) (a:=dgV D 0) (d:=1) (s:=(((b.toNat:Int)==45))) (by omega) (by decide+kernel)
   rw [if_neg (by decide)] at Q
   have R:=f4P_f15 (n:=n) (r26:=⟨(((b.toNat:Int)==45)) && decide (0<dgV D 0),lmb (dgV D 0)⟩) (r27:=⟨false && decide (0<1),lmb 1⟩) (by omega) E0 (by rw [hb];decide) K4 (by omega) (by omega) (k_ofu (z:=1) (by omega) (by omega)) (by omega) M M1 Q
   rw [hbb] at R
   exact ⟨_,0,R,by simp⟩
 | cons c R1=>
   rw [hR] at at_
   have hlt:1+D.length<L.length:=by
    have:=congrArg List.length hR
    rw [List.length_drop,List.length_cons] at this
    omega
   have hR1:L.drop (1+D.length+1)=R1:=by rw [←List.drop_drop,hR];rfl
   have hE:dgF L (1+D.length+1)=R1.takeWhile isD:=by unfold dgF;rw [hR1]
   have hEl:=dgF_len L (1+D.length+1) (by omega)
   have hErest:=dgF_rest L (1+D.length+1)
   have hEd:∀c∈dgF L (1+D.length+1),isD c=true:=tw_all _
   have K12:=f4d_c (n:=n+4) (u:=D.length) (i:=1+D.length+1) (show L.length+D.length≤3000 by omega) (by omega)
   rw [hR1] at hErest
   dsimp only
   rw [←hE]
   generalize dgF L (1+D.length+1)=E at hE hEl hErest hEd K12
   have hrest:R1.dropWhile isD≠[]↔1+D.length+1+E.length<L.length:=by
    rw [←hErest]
    constructor
    ·intro h
     false_or_by_contra
     exact h (List.drop_of_length_le (by omega))
    ·intro h e
     have:=congrArg List.length e
     rw [List.length_drop,List.length_nil] at this
     omega
   have lE:=lmb_dg hEd (m:=400) (by omega)
   have hE0:E=[]↔E.length=0:=List.length_eq_zero_iff.symm
   have ei:((1+D.length+1:Nat):Int)=((1+D.length:Nat):Int)+1:=by omega
   rw [ei] at K12
   have k1:=k_ofu (z:=1) (by omega) (by omega)
   by_cases c47:c=47
   ·subst c47
    rw [if_pos rfl]
    have C10:(((47:UInt8)).toNat:Int)=47:=rfl
    by_cases e0:E=[]
    ·rw [if_pos (.inl e0)]
     have R:=f4P_f4 (n:=n) (by omega) E0 (by rw [hb];decide) K4 (by omega) (by omega) k1 (by omega) at_ (by omega) C10 ⟨by omega,by omega⟩ K12 (by omega) (by rw [e0];simp)
     rw [Option.getD_none,rat0]
     exact ⟨_,4,R,by simp⟩
    have hpE:0<E.length:=List.length_pos_iff.2 e0
    have M2:=fmk2_c (n:=n+5) (k:=dgV E 0) (s:=false) (by omega)
    have hl:=@lmb0 (dgV E 0)
    by_cases hr:1+D.length+1+E.length<L.length
    ·rw [if_pos (.inr (.inl (hrest.2 hr)))]
     by_cases hz:dgV E 0=0
     ·have R:=f4P_f5 (n:=n) (by omega) E0 (by rw [hb];decide) K4 (by omega) (by omega) k1 (by omega) at_ (by omega) C10 ⟨by omega,by omega⟩ K12 (by omega) (by omega) (by omega) (by omega)
      rw [Option.getD_none,rat0]
      exact ⟨_,4,R,by simp⟩
     ·have R:=f4P_f8 (n:=n) (by omega) E0 (by rw [hb];decide) K4 (by omega) (by omega) k1 (by omega) at_ (by omega) C10 ⟨by omega,by omega⟩ K12 (by omega) (by omega) (by omega) (by omega)
      rw [Option.getD_none,rat0]
      exact ⟨_,4,R,by simp⟩
    by_cases hz:dgV E 0=0
    ·rw [if_pos (.inr (.inr hz))]
     have R:=f4P_f6 (n:=n) (by omega) E0 (by rw [hb];decide) K4 (by omega) (by omega) k1 (by omega) at_ (by omega) C10 ⟨by omega,by omega⟩ K12 (by omega) (by omega) (by omega) (by omega) (by omega)
     rw [Option.getD_none,rat0]
     exact ⟨_,3,R,by simp⟩
    ·rw [if_neg (fun h=>by rcases h with h|h|h;exact e0 h;exact hr (hrest.1 h);exact hz h)]
     have Q:=fmk3_c (n:=n) (a:=dgV D 0) (d:=dgV E 0) (s:=(((b.toNat:Int)==45))) (by omega) (by omega)
     rw [if_neg hz] at Q
     have R:=f4P_f9 (n:=n) (r18:=⟨(((b.toNat:Int)==45)) && decide (0<dgV D 0),lmb (dgV D 0)⟩) (r19:=⟨false && decide (0<dgV E 0),lmb (dgV E 0)⟩) (by omega) E0 (by rw [hb];decide) K4 (by omega) (by omega) k1 (by omega) at_ (by omega) C10 ⟨by omega,by omega⟩ K12 (by omega) (by omega) (by omega) (by omega) M M2 Q
     rw [hbb] at R
     exact ⟨_,0,R,by simp⟩
   rw [if_neg c47]
   have C10:¬(c.toNat:Int)=47:=fun h=>c47 (UInt8.toNat_inj.1 (by show c.toNat=47;omega))
   by_cases c46:c=46
   ·subst c46
    rw [if_pos rfl]
    have C11:(((46:UInt8)).toNat:Int)=46:=rfl
    by_cases e0:E=[]
    ·rw [if_pos (.inl e0)]
     have R:=f4P_f11 (n:=n) (by omega) E0 (by rw [hb];decide) K4 (by omega) (by omega) k1 (by omega) at_ (by omega) C10 C11 ⟨by omega,by omega⟩ K12 (by omega) (by rw [e0];simp)
     rw [Option.getD_none,rat0]
     exact ⟨_,4,R,by simp⟩
    have hpE:0<E.length:=List.length_pos_iff.2 e0
    have ek:((D.length+E.length:Nat):Int)-(D.length:Int)=(E.length:Int):=by omega
    have PW:=f4p_c (n:=n+4) (k:=E.length) (by omega)
    rw [←ek] at PW
    have lP:(lmb (10 ^ E.length)).length≤E.length+1:=lmb_len_le (Nat.lt_of_lt_of_le (Nat.pow_lt_pow_right (by decide) (Nat.lt_succ_self _)) (Nat.pow_le_pow_left (by decide) _))
    have K18:=kmul (a:=dgV D 0) (b:=10 ^ E.length) (by omega) (by omega)
    have l5:=lmb_len_mul (dgV D 0) (10 ^ E.length)
    have K19:=kadd (a:=dgV D 0*10 ^ E.length) (b:=dgV E 0) (by omega) (by omega)
    rw [←dgV_lin,←dgV_app] at K19
    by_cases hr:1+D.length+1+E.length<L.length
    ·rw [if_pos (.inr (hrest.2 hr))]
     have R:=f4P_f12 (n:=n) (by omega) E0 (by rw [hb];decide) K4 (by omega) (by omega) k1 (by omega) at_ (by omega) C10 C11 ⟨by omega,by omega⟩ K12 (by omega) (by omega) ⟨by omega,by omega⟩ PW K18 K19 (by omega)
     rw [Option.getD_none,rat0]
     exact ⟨_,4,R,by simp⟩
    rw [if_neg (fun h=>by rcases h with h|h;exact e0 h;exact hr (hrest.1 h))]
    have hDE:∀x∈D++E,isD x=true:=fun x hx=>by
     rcases List.mem_append.1 hx with h|h
     ·exact hDd x h
     ·exact hEd x h
    have lDE:=lmb_dg hDE (m:=900) (by rw [List.length_append];omega)
    have M3:=fmk2_c (n:=n+5) (k:=dgV (D++E) 0) (s:=(((b.toNat:Int)==45))) (by omega)
    have M4:=fmk2_c (n:=n+5) (k:=10 ^ E.length) (s:=false) (by omega)
    have Q:=fmk3_c (n:=n) (a:=dgV (D++E) 0) (d:=10 ^ E.length) (s:=(((b.toNat:Int)==45))) (by omega) (by omega)
    rw [if_neg (Nat.pos_iff_ne_zero.1 (Nat.pow_pos (by decide)))] at Q
    have R:=f4P_f13 (n:=n) (r22:=⟨(((b.toNat:Int)==45)) && decide (0<dgV (D++E) 0),lmb (dgV (D++E) 0)⟩) (r23:=⟨false && decide (0<10 ^ E.length),lmb (10 ^ E.length)⟩) (by omega) E0 (by rw [hb];decide) K4 (by omega) (by omega) k1 (by omega) at_ (by omega) C10 C11 ⟨by omega,by omega⟩ K12 (by omega) (by omega) ⟨by omega,by omega⟩ PW K18 K19 (by omega) M3 M4 Q
    rw [hbb] at R
    exact ⟨_,0,R,by simp⟩
   ·rw [if_neg c46]
    have R:=f4P_f14 (n:=n) (by omega) E0 (by rw [hb];decide) K4 (by omega) (by omega) k1 (by omega) at_ (by omega) C10 (fun h=>c46 (UInt8.toNat_inj.1 (by show c.toNat=46;omega)))
    rw [Option.getD_none,rat0]
    exact ⟨_,4,R,by simp⟩
theorem fpar_p{L:List UInt8}(hL:L.length≤400){b:UInt8}(h0:L[0]?=some b)(hb:b≠45):∃(a e:Int),run (n+7) 39 [.lit (.string (bs L))]=some (.tup [ratV ((dpF L).getD 0),.lit (.int .i64 a),.lit (.int .i64 e)])∧(e=0↔(dpF L).isSome=true):=by
 have hs:(bs L).size=L.length:=bs_size _
 have hlt0:0<L.length:=(List.getElem?_eq_some_iff.1 h0).1
 have E0:(bs L)[0]?=some b:=by rw [bs_at];exact h0
 rw [dpF_eq]
 have hneg:decide (L[0]?=some 45)=false:=by rw [h0];simp [hb]
 have hii:(if L[0]?=some 45 then (1:Nat) else 0)=0:=by rw [h0];rw [if_neg (fun h=>hb (Option.some.inj h))]
 have hbb:(((b.toNat:Int)==45))=false:=by (have h9:¬(b.toNat:Int)=45:=fun h=>hb (UInt8.toNat_inj.1 (by show b.toNat=45;omega));simpa using h9)
 rw [hneg,hii]
 have K4:=f4d_c (n:=n+4) (u:=0) (i:=0) (show L.length+0≤3000 by omega) (by omega)
 have hDl:=dgF_len L 0 (by omega)
 have hDd:∀c∈dgF L 0,isD c=true:=tw_all _
 generalize dgF L 0=D at K4 hDl hDd
 rw [Nat.zero_add] at K4
 by_cases hD0:D=[]
 ·subst hD0
  rw [if_pos rfl]
  have R:=f4P_f17 (n:=n) (by omega) E0 (fun h=>hb (UInt8.toNat_inj.1 (by show b.toNat=45;omega))) K4 (by omega) (by simp)
  rw [Option.getD_none,rat0]
  exact ⟨_,4,R,by simp⟩
 rw [if_neg hD0]
 have hp:0<D.length:=List.length_pos_iff.2 hD0
 have lD:=lmb_dg hDd (m:=400) (by omega)
 have M:=fmk2_c (n:=n+5) (k:=dgV D 0) (s:=(((b.toNat:Int)==45))) (by omega)
 have hget:∀i,L[i]?=(L.drop i).head?:=fun i=>by rw [List.head?_eq_getElem?,List.getElem?_drop];rfl
 have at_:(bs L)[(((D.length:Nat):Int)).toNat]?=(L.drop (0+D.length)).head?:=by rw [Nat.zero_add,Int.toNat_natCast,bs_at,hget]
 cases hR:L.drop (0+D.length) with
 | nil=>
   have hlen:¬0+D.length<L.length:=fun h=>by
    have:=congrArg List.length hR
    rw [List.length_drop,List.length_nil] at this
    omega
   have M1:=fmk2_c (n:=n+5) (k:=1) (s:=false) (by decide+kernel)
   have Q:=fmk3_c (n:=n) (a:=dgV D 0) (d:=1) (s:=(((b.toNat:Int)==45))) (by omega) (by decide+kernel)
   rw [if_neg (by decide)] at Q
   have R:=f4P_f30 (n:=n) (r55:=⟨(((b.toNat:Int)==45)) && decide (0<dgV D 0),lmb (dgV D 0)⟩) (r56:=⟨false && decide (0<1),lmb 1⟩) (by omega) E0 (fun h=>hb (UInt8.toNat_inj.1 (by show b.toNat=45;omega))) K4 (by omega) (by omega) (k_ofu (z:=1) (by omega) (by omega)) (by omega) M M1 Q
   rw [hbb] at R
   exact ⟨_,0,R,by simp⟩
 | cons c R1=>
   rw [hR] at at_
   have hlt:0+D.length<L.length:=by
    have:=congrArg List.length hR
    rw [List.length_drop,List.length_cons] at this
    omega
   have hR1:L.drop (0+D.length+1)=R1:=by rw [←List.drop_drop,hR];rfl
   have hE:dgF L (0+D.length+1)=R1.takeWhile isD:=by unfold dgF;rw [hR1]
   have hEl:=dgF_len L (0+D.length+1) (by omega)
   have hErest:=dgF_rest L (0+D.length+1)
   have hEd:∀c∈dgF L (0+D.length+1),isD c=true:=tw_all _
   have K12:=f4d_c (n:=n+4) (u:=D.length) (i:=0+D.length+1) (show L.length+D.length≤3000 by omega) (by omega)
   rw [hR1] at hErest
   dsimp only
   rw [←hE]
   generalize dgF L (0+D.length+1)=E at hE hEl hErest hEd K12
   have hrest:R1.dropWhile isD≠[]↔0+D.length+1+E.length<L.length:=by
    rw [←hErest]
    constructor
    ·intro h
     false_or_by_contra
     exact h (List.drop_of_length_le (by omega))
    ·intro h e
     have:=congrArg List.length e
     rw [List.length_drop,List.length_nil] at this
     omega
   have lE:=lmb_dg hEd (m:=400) (by omega)
   have hE0:E=[]↔E.length=0:=List.length_eq_zero_iff.symm
   have ei:((0+D.length+1:Nat):Int)=((D.length:Nat):Int)+1:=by omega
   rw [ei] at K12
   have k1:=k_ofu (z:=1) (by omega) (by omega)
   by_cases c47:c=47
   ·subst c47
    rw [if_pos rfl]
    have C10:(((47:UInt8)).toNat:Int)=47:=rfl
    by_cases e0:E=[]
    ·rw [if_pos (.inl e0)]
     have R:=f4P_f19 (n:=n) (by omega) E0 (fun h=>hb (UInt8.toNat_inj.1 (by show b.toNat=45;omega))) K4 (by omega) (by omega) k1 (by omega) at_ (by omega) C10 ⟨by omega,by omega⟩ K12 (by omega) (by rw [e0];simp)
     rw [Option.getD_none,rat0]
     exact ⟨_,4,R,by simp⟩
    have hpE:0<E.length:=List.length_pos_iff.2 e0
    have M2:=fmk2_c (n:=n+5) (k:=dgV E 0) (s:=false) (by omega)
    have hl:=@lmb0 (dgV E 0)
    by_cases hr:0+D.length+1+E.length<L.length
    ·rw [if_pos (.inr (.inl (hrest.2 hr)))]
     by_cases hz:dgV E 0=0
     ·have R:=f4P_f20 (n:=n) (by omega) E0 (fun h=>hb (UInt8.toNat_inj.1 (by show b.toNat=45;omega))) K4 (by omega) (by omega) k1 (by omega) at_ (by omega) C10 ⟨by omega,by omega⟩ K12 (by omega) (by omega) (by omega) (by omega)
      rw [Option.getD_none,rat0]
      exact ⟨_,4,R,by simp⟩
     ·have R:=f4P_f23 (n:=n) (by omega) E0 (fun h=>hb (UInt8.toNat_inj.1 (by show b.toNat=45;omega))) K4 (by omega) (by omega) k1 (by omega) at_ (by omega) C10 ⟨by omega,by omega⟩ K12 (by omega) (by omega) (by omega) (by omega)
      rw [Option.getD_none,rat0]
      exact ⟨_,4,R,by simp⟩
    by_cases hz:dgV E 0=0
    ·rw [if_pos (.inr (.inr hz))]
     have R:=f4P_f21 (n:=n) (by omega) E0 (fun h=>hb (UInt8.toNat_inj.1 (by show b.toNat=45;omega))) K4 (by omega) (by omega) k1 (by omega) at_ (by omega) C10 ⟨by omega,by omega⟩ K12 (by omega) (by omega) (by omega) (by omega) (by omega)
     rw [Option.getD_none,rat0]
     exact ⟨_,3,R,by simp⟩
    ·rw [if_neg (fun h=>by rcases h with h|h|h;exact e0 h;exact hr (hrest.1 h);exact hz h)]
     have Q:=fmk3_c (n:=n) (a:=dgV D 0) (d:=dgV E 0) (s:=(((b.toNat:Int)==45))) (by omega) (by omega)
     rw [if_neg hz] at Q
     have R:=f4P_f24 (n:=n) (r47:=⟨(((b.toNat:Int)==45)) && decide (0<dgV D 0),lmb (dgV D 0)⟩) (r48:=⟨false && decide (0<dgV E 0),lmb (dgV E 0)⟩) (by omega) E0 (fun h=>hb (UInt8.toNat_inj.1 (by show b.toNat=45;omega))) K4 (by omega) (by omega) k1 (by omega) at_ (by omega) C10 ⟨by omega,by omega⟩ K12 (by omega) (by omega) (by omega) (by omega) M M2 Q
     rw [hbb] at R
     exact ⟨_,0,R,by simp⟩
   rw [if_neg c47]
   have C10:¬(c.toNat:Int)=47:=fun h=>c47 (UInt8.toNat_inj.1 (by show c.toNat=47;omega))
   by_cases c46:c=46
   ·subst c46
    rw [if_pos rfl]
    have C11:(((46:UInt8)).toNat:Int)=46:=rfl
    by_cases e0:E=[]
    ·rw [if_pos (.inl e0)]
     have R:=f4P_f26 (n:=n) (by omega) E0 (fun h=>hb (UInt8.toNat_inj.1 (by show b.toNat=45;omega))) K4 (by omega) (by omega) k1 (by omega) at_ (by omega) C10 C11 ⟨by omega,by omega⟩ K12 (by omega) (by rw [e0];simp)
     rw [Option.getD_none,rat0]
     exact ⟨_,4,R,by simp⟩
    have hpE:0<E.length:=List.length_pos_iff.2 e0
    have ek:((D.length+E.length:Nat):Int)-(D.length:Int)=(E.length:Int):=by omega
    have PW:=f4p_c (n:=n+4) (k:=E.length) (by omega)
    rw [←ek] at PW
    have lP:(lmb (10 ^ E.length)).length≤E.length+1:=lmb_len_le (Nat.lt_of_lt_of_le (Nat.pow_lt_pow_right (by decide) (Nat.lt_succ_self _)) (Nat.pow_le_pow_left (by decide) _))
    have K18:=kmul (a:=dgV D 0) (b:=10 ^ E.length) (by omega) (by omega)
    have l5:=lmb_len_mul (dgV D 0) (10 ^ E.length)
    have K19:=kadd (a:=dgV D 0*10 ^ E.length) (b:=dgV E 0) (by omega) (by omega)
    rw [←dgV_lin,←dgV_app] at K19
    by_cases hr:0+D.length+1+E.length<L.length
    ·rw [if_pos (.inr (hrest.2 hr))]
     have R:=f4P_f27 (n:=n) (by omega) E0 (fun h=>hb (UInt8.toNat_inj.1 (by show b.toNat=45;omega))) K4 (by omega) (by omega) k1 (by omega) at_ (by omega) C10 C11 ⟨by omega,by omega⟩ K12 (by omega) (by omega) ⟨by omega,by omega⟩ PW K18 K19 (by omega)
     rw [Option.getD_none,rat0]
     exact ⟨_,4,R,by simp⟩
    rw [if_neg (fun h=>by rcases h with h|h;exact e0 h;exact hr (hrest.1 h))]
    have hDE:∀x∈D++E,isD x=true:=fun x hx=>by
     rcases List.mem_append.1 hx with h|h
     ·exact hDd x h
     ·exact hEd x h
    have lDE:=lmb_dg hDE (m:=900) (by rw [List.length_append];omega)
    have M3:=fmk2_c (n:=n+5) (k:=dgV (D++E) 0) (s:=(((b.toNat:Int)==45))) (by omega)
    have M4:=fmk2_c (n:=n+5) (k:=10 ^ E.length) (s:=false) (by omega)
    have Q:=fmk3_c (n:=n) (a:=dgV (D++E) 0) (d:=10 ^ E.length) (s:=(((b.toNat:Int)==45))) (by omega) (by omega)
    rw [if_neg (Nat.pos_iff_ne_zero.1 (Nat.pow_pos (by decide)))] at Q
    have R:=f4P_f28 (n:=n) (r51:=⟨(((b.toNat:Int)==45)) && decide (0<dgV (D++E) 0),lmb (dgV (D++E) 0)⟩) (r52:=⟨false && decide (0<10 ^ E.length),lmb (10 ^ E.length)⟩) (by omega) E0 (fun h=>hb (UInt8.toNat_inj.1 (by show b.toNat=45;omega))) K4 (by omega) (by omega) k1 (by omega) at_ (by omega) C10 C11 ⟨by omega,by omega⟩ K12 (by omega) (by omega) ⟨by omega,by omega⟩ PW K18 K19 (by omega) M3 M4 Q
    rw [hbb] at R
    exact ⟨_,0,R,by simp⟩
   ·rw [if_neg c46]
    have R:=f4P_f29 (n:=n) (by omega) E0 (fun h=>hb (UInt8.toNat_inj.1 (by show b.toNat=45;omega))) K4 (by omega) (by omega) k1 (by omega) at_ (by omega) C10 (fun h=>c46 (UInt8.toNat_inj.1 (by show c.toNat=46;omega)))
    rw [Option.getD_none,rat0]
    exact ⟨_,4,R,by simp⟩
theorem fpar_c{L:List UInt8}(hL:L.length≤400):∃(a e:Int),run (n+7) 39 [.lit (.string (bs L))]=some (.tup [ratV ((dpF L).getD 0),.lit (.int .i64 a),.lit (.int .i64 e)])∧(e=0↔(dpF L).isSome=true):=by
 cases hL0:L with
 | nil=>
   have K2:=f4d_c (n:=n+4) (L:=[]) (u:=0) (i:=0) (by decide) (by decide)
   have e0:dgF [] 0=[]:=rfl
   rw [e0] at K2
   have R:=f4P_f32 (n:=n) (a0:=bs []) (by decide) K2 (by decide) (by decide)
   have hd:dpF []=none:=rfl
   rw [hd,Option.getD_none,rat0]
   exact ⟨_,4,R,by simp⟩
 | cons c l=>
   rw [←hL0]
   have h0:L[0]?=some c:=by rw [hL0];rfl
   by_cases hc:c=45
   ·exact fpar_n hL h0 hc
   ·exact fpar_p hL h0 hc
end
end
end Go.Proofs.YtnegdhjdienjlaaGreatDoor
