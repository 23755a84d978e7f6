import Derived.Test.YtnegdhjdienjlaaGreatDoorGB16
import Derived.Test.YtnegdhjdienjlaaGreatDoorGB17
set_option linter.all false
set_option maxHeartbeats 6400000
set_option maxRecDepth 100000
namespace Go.Proofs.YtnegdhjdienjlaaGreatDoor
section
open Go.RowKit
section
variable {cat2 : ByteArray} {n : Nat} {r2 : ByteArray} {cat : ByteArray} {a0 : Rat} {r : ByteArray}
theorem fab_f1(K1:run (n+4) 50 [natA (rawQ a0).l1]=some (.lit (.string r)))(C2:0<((rawQ a0).l2.length:Int))(K3:run (n+4) 50 [natA (rawQ a0).l2]=some (.lit (.string r2)))(S4:(⟨#[47]⟩:ByteArray).size+r2.size≤9000000000000000000)(D4:cat=(⟨#[47]⟩:ByteArray)++r2)(S5:r.size+cat.size≤9000000000000000000)(D5:cat2=r++cat):
  run (n+5) 95 [ratV a0]=some (.lit (.string cat2)):=by
 have C2_:0<(rawQ a0).l2.length:=by omega
 have C2_z:((rawQ a0).l2.length:Int)≠0:=by omega
 have C2_e:(((rawQ a0).l2.length:Int)==0)=false:=by simpa using C2_z
 have C2_g:(((rawQ a0).l2.length:Int) !=0)=true:=by simpa using C2_z
 have S4_r:=cat_r S4 D4
 have S4_q:=cat_q S4 D4
 have S5_r:=cat_r S5 D5
 have S5_q:=cat_q S5 D5
 unfold run fnP
 simp+decide [Tryz.f95,K1,C2,C2_,C2_e,C2_g,K3,↓S4_r,S4_q,↓S5_r,S5_q]
theorem fab_f2(K1:run (n+4) 50 [natA (rawQ a0).l1]=some (.lit (.string r)))(C2:¬0<((rawQ a0).l2.length:Int)):
  run (n+5) 95 [ratV a0]=some (.lit (.string r)):=by
 have C2_:¬0<(rawQ a0).l2.length:=by omega
 have C2_z:((rawQ a0).l2.length:Int)=0:=by omega
 have C2_e:(((rawQ a0).l2.length:Int)==0)=true:=by rw [C2_z];simp
 have C2_g:(((rawQ a0).l2.length:Int) !=0)=false:=by rw [C2_z];simp
 unfold run fnP
 simp+decide [Tryz.f95,K1,C2,C2_,C2_e,C2_g]
end
end
section
open Go.RowKit
section
variable {n : Nat} {cat : ByteArray} {a1 : Bool} {a0 : ByteArray} {a2 : ByteArray} {cat2 : ByteArray} {cat3 : ByteArray} {cat4 : ByteArray} {cat5 : ByteArray}
theorem fjn_f1(C1:a0=(⟨#[]⟩:ByteArray))(C2:a1=true)(S3:(⟨#[45]⟩:ByteArray).size+a2.size≤9000000000000000000)(D3:cat=(⟨#[45]⟩:ByteArray)++a2):
  run n 96 [.lit (.string a0),.lit (.bool a1),.lit (.string a2)]=some (.lit (.string cat)):=by
 have C1_:(a0.toList==(⟨#[]⟩:ByteArray).toList)=true:=by rw [C1];simp
 have C1_n:(a0.toList !=(⟨#[]⟩:ByteArray).toList)=false:=by rw [bne,C1_];rfl
 have C1_i:a0.toList.isEmpty=true:=by rw [C1,ba_toList] <;>rfl
 have S3_r:=cat_r S3 D3
 have S3_q:=cat_q S3 D3
 unfold run fnP
 simp+decide [Tryz.f96,C1_,C1_n,C1_i,C2,↓S3_r,S3_q]
theorem fjn_f2(C1:a0=(⟨#[]⟩:ByteArray))(C2:a1=false):
  run n 96 [.lit (.string a0),.lit (.bool a1),.lit (.string a2)]=some (.lit (.string a2)):=by
 have C1_:(a0.toList==(⟨#[]⟩:ByteArray).toList)=true:=by rw [C1];simp
 have C1_n:(a0.toList !=(⟨#[]⟩:ByteArray).toList)=false:=by rw [bne,C1_];rfl
 have C1_i:a0.toList.isEmpty=true:=by rw [C1,ba_toList] <;>rfl
 unfold run fnP
 simp+decide [Tryz.f96,C1_,C1_n,C1_i,C2]
theorem fjn_f3(C1:¬a0=(⟨#[]⟩:ByteArray))(C2:a1=true)(S3:a0.size+(⟨#[32,45,32]⟩:ByteArray).size≤9000000000000000000)(D3:cat2=a0++(⟨#[32,45,32]⟩:ByteArray))(S4:cat2.size+a2.size≤9000000000000000000)(D4:cat3=cat2++a2):
  run n 96 [.lit (.string a0),.lit (.bool a1),.lit (.string a2)]=some (.lit (.string cat3)):=by
 obtain ⟨ks0,hks0⟩:∃k:ByteArray,(⟨#[32,45,32]⟩:ByteArray)=k:=⟨_,rfl⟩
 rw [hks0] at S3 D3
 have C1_:(a0.toList==(⟨#[]⟩:ByteArray).toList)=false:=by rw [beq_eq_false_iff_ne];exact fun h=>C1 (ba_inj h)
 have C1_n:(a0.toList !=(⟨#[]⟩:ByteArray).toList)=true:=by rw [bne,C1_];rfl
 have C1_i:a0.toList.isEmpty=false:=by rcases he:a0.toList.isEmpty with _|_;rfl;exact absurd (ba_inj (by rw [List.isEmpty_iff.1 he,ba_toList] <;>rfl)) C1
 have S3_r:=cat_r S3 D3
 have S3_q:=cat_q S3 D3
 have S4_r:=cat_r S4 D4
 have S4_q:=cat_q S4 D4
 unfold run fnP
 simp+decide [Tryz.f96,C1_,C1_n,C1_i,C2,↓S3_r,S3_q,↓S4_r,S4_q,hks0]
theorem fjn_f4(C1:¬a0=(⟨#[]⟩:ByteArray))(C2:a1=false)(S3:a0.size+(⟨#[32,43,32]⟩:ByteArray).size≤9000000000000000000)(D3:cat4=a0++(⟨#[32,43,32]⟩:ByteArray))(S4:cat4.size+a2.size≤9000000000000000000)(D4:cat5=cat4++a2):
  run n 96 [.lit (.string a0),.lit (.bool a1),.lit (.string a2)]=some (.lit (.string cat5)):=by
 obtain ⟨ks0,hks0⟩:∃k:ByteArray,(⟨#[32,43,32]⟩:ByteArray)=k:=⟨_,rfl⟩
 rw [hks0] at S3 D3
 have C1_:(a0.toList==(⟨#[]⟩:ByteArray).toList)=false:=by rw [beq_eq_false_iff_ne];exact fun h=>C1 (ba_inj h)
 have C1_n:(a0.toList !=(⟨#[]⟩:ByteArray).toList)=true:=by rw [bne,C1_];rfl
 have C1_i:a0.toList.isEmpty=false:=by rcases he:a0.toList.isEmpty with _|_;rfl;exact absurd (ba_inj (by rw [List.isEmpty_iff.1 he,ba_toList] <;>rfl)) C1
 have S3_r:=cat_r S3 D3
 have S3_q:=cat_q S3 D3
 have S4_r:=cat_r S4 D4
 have S4_q:=cat_q S4 D4
 unfold run fnP
 simp+decide [Tryz.f96,C1_,C1_n,C1_i,C2,↓S3_r,S3_q,↓S4_r,S4_q,hks0]
end
end
section
open Go.RowKit
open Lib (decDigits)
attribute [local irreducible] run runL loopG exec
theorem dd0_10{k:Nat}(h:0<k):dd0 k=dd0 (k / 10)++[dig (k % 10)]:=by
 unfold dd0
 rw [if_neg (by omega)]
 by_cases h1:k<10
 ·rw [if_pos (by omega),dd_lt h1,Nat.mod_eq_of_lt h1];rfl
 ·rw [if_neg (by omega),dd_ge h1]
theorem oneB_dig(d:Nat):oneB (48+(d:Int))=bs [dig d]:=by
 unfold oneB bs dig
 have e:(48+(d:Int)).toNat=48+d:=by omega
 rw [e]
theorem bs_ne{l:List UInt8}(h:l≠[]):¬bs l=(⟨#[]⟩:ByteArray):=fun e=>h (bs_inj e)
theorem fdg_c{n K:Nat}(hK:(lmb K).length≤100000):run (n+4) 50 [natA (lmb K)]=some (.lit (.string (bs (decDigits K)))):=by
 have hbits:K<2 ^ (32*(lmb K).length):=by
  have:=val_lt (lim_lmb K)
  rw [val_lmb] at this
  rwa [Nat.pow_mul]
 have hdd:=dd_bits _ K hbits
 have hpos:=dd_pos K
 have rnd1:∀(k:Nat) (l:List UInt8),k≤K→l.length≤4000000→(lmb k).length≤100000∧((48:Int)+((k % 10:Nat):Int)<256)∧k % 10<18446744073709551616:=fun k l h _=>⟨Nat.le_trans (lmb_len_mono h) hK,by omega,by omega⟩
 obtain ⟨s,hL,hI⟩:=loopG_R (O:=tab (n+4)) (P:= Tryz.prog) (m:=0) (N:=39) (lives:=livesOf 50) (r:=3) (C:=fdg_C3) (exN:=.exit 0) (M:=(decDigits K).length) (enc:=fun _ (s:Nat × List UInt8)=>fdg_h3 (lmb s.1) (bs s.2)) (out:=fun s=>fdg_o3a (bs s.2))
  (fun i s=>s.1≤K∧s.2.length=i∧((i=0∧s.1=K)∨(0<i∧dd0 s.1++s.2=decDigits K))) (K,[]) ⟨Nat.le_refl _,rfl,.inl ⟨rfl,rfl⟩⟩ (by omega) (fun h=>by cases h)
  (fun i s hi hI=>by
   obtain ⟨k,l⟩:=s
   obtain ⟨i1,i2,i3⟩:=hI
   dsimp only at i1 i2 i3 ⊢
   obtain ⟨b1,b2,b3⟩:=rnd1 k l i1 (by omega)
   have K2:=k_div10 (k:=k) (by omega)
   have K3:=k_uint b3
   have w1:IntKind.u64.wrap (48+((k % 10:Nat):Int))=48+((k % 10:Nat):Int):=by rw [wrapU64];omega
   have w2:IntKind.u8.wrap (48+((k % 10:Nat):Int))=48+((k % 10:Nat):Int):=by simp [IntKind.wrap,IntKind.signed,IntKind.bits];omega
   have hs:(oneB (48+((k % 10:Nat):Int))).size+(bs l).size≤9000000000000000000:=by rw [oneB_dig,bs_size,bs_size,List.length_singleton];omega
   have e9:oneB (48+((k % 10:Nat):Int))++bs l=bs (dig (k % 10)::l):=by rw [oneB_dig,bs_app];rfl
   by_cases hk:0<k
   ·have hp:0<(lmb k).length:=by rw [lmb_pos hk];simp
    have R:=fdg_r3_1 (n:=n) (nat_3:=lmb k) (str_3:=bs l) (by omega) K2 K3 w1 w2 ⟨by omega,b2⟩ hs e9.symm
    refine ⟨(k / 10,dig (k % 10)::l),R,Nat.le_trans (Nat.div_le_self _ _) i1,by simp [i2],.inr ⟨by omega,?_⟩⟩
    dsimp only
    have e:=dd0_10 hk
    rcases i3 with ⟨h0,hk'⟩|⟨h0,h1⟩
    ·have hl:l=[]:=List.eq_nil_of_length_eq_zero (by omega)
     subst hl hk'
     rw [←e]
     unfold dd0
     rw [if_neg (by omega)]
    ·rw [←h1,e];simp
   ·have hk0:k=0:=by omega
    subst hk0
    have hi0:i=0:=by
     rcases i3 with ⟨h0,_⟩|⟨h0,h1⟩
     ·exact h0
     ·exfalso
      have e:dd0 0=[]:=rfl
      rw [e,List.nil_append] at h1
      rw [←h1] at hi
      omega
    subst hi0
    have hl:l=[]:=List.eq_nil_of_length_eq_zero i2
    subst hl
    have R:=fdg_r3_2 (n:=n) (nat_3:=lmb 0) (str_3:=bs []) (by rw [lmb_zero];simp) rfl K2 K3 w1 w2 ⟨by omega,b2⟩ hs e9.symm
    refine ⟨(0 / 10,dig (0 % 10)::[]),R,by simp,by simp,.inr ⟨by omega,?_⟩⟩
    rcases i3 with ⟨_,h1⟩|⟨h0,_⟩
    ·subst h1
     rw [dd_lt (by omega)]
     rfl
    ·omega)
  (fun s hI=>by
   obtain ⟨k,l⟩:=s
   obtain ⟨i1,i2,i3⟩:=hI
   dsimp only at i1 i2 i3 ⊢
   have hl:l≠[]:=fun e=>by subst e;simp at i2;omega
   have hk0:k=0:=by
    rcases i3 with ⟨h0,_⟩|⟨_,h1⟩
    ·omega
    ·rcases Nat.eq_zero_or_pos k with h|h
     ·exact h
     ·exfalso
      have e:=congrArg List.length h1
      have:0<(dd0 k).length:=by unfold dd0;rw [if_neg (by omega)];exact dd_pos k
      rw [List.length_append] at e
      omega
   subst hk0
   exact fdg_x3_1 (by rw [lmb_zero];simp) (bs_ne hl))
 obtain ⟨k,l⟩:=s
 obtain ⟨i1,i2,i3⟩:=hI
 dsimp only at i1 i2 i3 hL
 have hl:l=decDigits K:=by
  rcases i3 with ⟨h0,_⟩|⟨_,h1⟩
  ·omega
  ·have e:=congrArg List.length h1
   rw [List.length_append] at e
   have:dd0 k=[]:=List.eq_nil_of_length_eq_zero (by omega)
   rw [this,List.nil_append] at h1
   exact h1
 subst hl
 exact fdg_f1 (k_make (by omega)) hL
def absT(q:Rat):List UInt8:=decDigits q.num.natAbs++if q.den=1 then [] else 47::decDigits q.den
theorem absT_len{q:Rat}(h:H q≤100000):(absT q).length≤7000000:=by
 have bits:∀K:Nat,K<2 ^ (32*(lmb K).length):=fun K=>by
  have:=val_lt (lim_lmb K)
  rw [val_lmb] at this
  rwa [Nat.pow_mul]
 have h1:=dd_bits _ _ (bits q.num.natAbs)
 have h2:=dd_bits _ _ (bits q.den)
 have a1:(lmb q.num.natAbs).length≤H q:=Nat.le_max_left _ _
 have a2:(lmb q.den).length≤H q:=Nat.le_max_right _ _
 unfold absT
 rw [List.length_append]
 split
 ·simp;omega
 ·simp;omega
theorem rawQ_parts(q:Rat):(rawQ q).l1=lmb q.num.natAbs∧(rawQ q).l2=(if q.den=1 then [] else lmb q.den)∧(rawQ q).s=decide (q.num<0):=⟨rfl,rfl,rfl⟩
theorem den_pos(q:Rat):0<(lmb q.den).length:=by rw [lmb_pos q.den_pos];simp
theorem fab_c{n:Nat}{q:Rat}(hq:H q≤100000):run (n+5) 95 [ratV q]=some (.lit (.string (bs (absT q)))):=by
 have a1:(lmb q.num.natAbs).length≤H q:=Nat.le_max_left _ _
 have a2:(lmb q.den).length≤H q:=Nat.le_max_right _ _
 have ht:=absT_len hq
 have K1:=fdg_c (n:=n) (K:=q.num.natAbs) (by omega)
 by_cases h:q.den=1
 ·have e:absT q=decDigits q.num.natAbs:=by unfold absT;rw [if_pos h,List.append_nil]
  rw [e]
  exact fab_f2 K1 (by rw [(rawQ_parts q).2.1,if_pos h];simp)
 ·have e:bs (absT q)=bs (decDigits q.num.natAbs)++((⟨#[47]⟩:ByteArray)++bs (decDigits q.den)):=by
   unfold absT
   rw [if_neg h]
   have e2:(⟨#[47]⟩:ByteArray)=bs [47]:=rfl
   rw [e2,bs_app,bs_app];rfl
  have el:(rawQ q).l2=lmb q.den:=by rw [(rawQ_parts q).2.1,if_neg h]
  have K3:=fdg_c (n:=n) (K:=q.den) (by omega)
  rw [←el] at K3
  have hl:=congrArg ByteArray.size e
  have hd:=den_pos q
  unfold absT at ht
  rw [if_neg h,List.length_append,List.length_cons] at ht
  have s1:(⟨#[47]⟩:ByteArray).size+(bs (decDigits q.den)).size≤9000000000000000000:=by rw [bs_size];show 1+_≤_;omega
  have s2:(bs (decDigits q.num.natAbs)).size+((⟨#[47]⟩:ByteArray)++bs (decDigits q.den)).size≤9000000000000000000:=by
   have e2:(⟨#[47]⟩:ByteArray)=bs [47]:=rfl
   rw [e2,bs_app,bs_size,bs_size];simp;omega
  exact fab_f1 K1 (by rw [el];omega) K3 s1 rfl s2 e
theorem lsz_c{n:Nat}{q:Rat}(hq:H q≤100000):run (n+6) 104 [ratV q]=some (.lit (.string (bs (absT q)))):=by
 have a1:(lmb q.num.natAbs).length≤H q:=Nat.le_max_left _ _
 have a2:(lmb q.den).length≤H q:=Nat.le_max_right _ _
 have ht:=absT_len hq
 have K1:=ldc_c (n:=n) (K:=q.num.natAbs) (by omega)
 by_cases h:q.den=1
 ·have e:absT q=decDigits q.num.natAbs:=by unfold absT;rw [if_pos h,List.append_nil]
  rw [e]
  exact lsz_f2 K1 (by rw [(rawQ_parts q).2.1,if_pos h];simp)
 ·have e:bs (absT q)=bs (decDigits q.num.natAbs)++((⟨#[47]⟩:ByteArray)++bs (decDigits q.den)):=by
   unfold absT
   rw [if_neg h]
   have e2:(⟨#[47]⟩:ByteArray)=bs [47]:=rfl
   rw [e2,bs_app,bs_app];rfl
  have el:(rawQ q).l2=lmb q.den:=by rw [(rawQ_parts q).2.1,if_neg h]
  have K3:=ldc_c (n:=n) (K:=q.den) (by omega)
  rw [←el] at K3
  have hd:=den_pos q
  unfold absT at ht
  rw [if_neg h,List.length_append,List.length_cons] at ht
  have s1:(⟨#[47]⟩:ByteArray).size+(bs (decDigits q.den)).size≤9000000000000000000:=by rw [bs_size];show 1+_≤_;omega
  have s2:(bs (decDigits q.num.natAbs)).size+((⟨#[47]⟩:ByteArray)++bs (decDigits q.den)).size≤9000000000000000000:=by
   have e2:(⟨#[47]⟩:ByteArray)=bs [47]:=rfl
   rw [e2,bs_app,bs_size,bs_size];simp;omega
  exact lsz_f1 K1 (by rw [el];omega) K3 s1 rfl s2 e
def jn(a:List UInt8)(neg:Bool)(p:List UInt8):List UInt8:=if a=[] then (if neg=true then 45::p else p) else a++((if neg=true then [32,45,32] else [32,43,32])++p)
theorem jn_len(a:List UInt8)(neg:Bool)(p:List UInt8):(jn a neg p).length≤a.length+p.length+3:=by
 unfold jn
 split
 ·split
  ·rw [List.length_cons];omega
  ·omega
 ·rw [List.length_append,List.length_append]
  split <;>simp <;>omega
theorem fjn_c{n:Nat}{a p:List UInt8}{neg:Bool}(h:a.length+p.length≤1000000000000):run n 96 [.lit (.string (bs a)),.lit (.bool neg),.lit (.string (bs p))]=some (.lit (.string (bs (jn a neg p)))):=by
 have c1:(⟨#[45]⟩:ByteArray)=bs [45]:=rfl
 have c2:(⟨#[32,45,32]⟩:ByteArray)=bs [32,45,32]:=rfl
 have c3:(⟨#[32,43,32]⟩:ByteArray)=bs [32,43,32]:=rfl
 unfold jn
 by_cases ha:a=[]
 ·subst ha
  rw [if_pos rfl]
  cases neg with
  | true=>
    exact fjn_f1 (n:=n) (a0:=bs []) (a1:=true) (a2:=bs p) rfl rfl (by rw [c1,bs_size,bs_size];simp;omega) (by rw [c1,bs_app];rfl)
  | false=>exact fjn_f2 (n:=n) (a0:=bs []) (a1:=false) (a2:=bs p) rfl rfl
 ·rw [if_neg ha]
  cases neg with
  | true=>
    exact fjn_f3 (n:=n) (a0:=bs a) (a1:=true) (a2:=bs p) (bs_ne ha) rfl (by rw [c2,bs_size,bs_size];simp;omega) rfl (by rw [c2,bs_app,bs_size,bs_size];simp;omega) (by rw [c2,bs_app,bs_app,List.append_assoc];rfl)
  | false=>
    exact fjn_f4 (n:=n) (a0:=bs a) (a1:=false) (a2:=bs p) (bs_ne ha) rfl (by rw [c3,bs_size,bs_size];simp;omega) rfl (by rw [c3,bs_app,bs_size,bs_size];simp;omega) (by rw [c3,bs_app,bs_app,List.append_assoc];rfl)
end
section
open Go.RowKit
noncomputable def ltx_C4:Code:=(loopsOf (bodyOf Tryz.f47)).getD 0 .skip
def ltx_h4(a0:Form)(i_4:Nat):St:=
 ⟨[(1,.ptr 0 0),(3,.ptr 1 0),(4,.clo 101 [.ptr 1 0]),(11,.sl 4 (a0.1.map termC)),(12,.lit (.int .i64 (a0.1.length:Int))),(13,.lit (.int .i64 (i_4:Int)))],
  [(0,some (.box 79 [.sl 4 (a0.1.map termC),.lit (.bool (rawQ a0.2).s),natA (rawQ a0.2).l1,natA (rawQ a0.2).l2] false)),
   (1,some (.box 139 [(.lit (.pointer none)),.nl 1] false))],2⟩
def ltx_o4a(a0:Form):St:=
 ⟨[(1,.ptr 0 0),(3,.ptr 1 0),(4,.clo 101 [.ptr 1 0])],
  [(0,some (.box 79 [.sl 4 (a0.1.map termC),.lit (.bool (rawQ a0.2).s),natA (rawQ a0.2).l1,natA (rawQ a0.2).l2] false)),
   (1,some (.box 139 [(.lit (.pointer none)),.nl 1] false))],2⟩
theorem ltx_x4_1{n:Nat}{a0:Form}{i_4:Nat}(C1:¬(i_4:Int)<(a0.1.length:Int)):
  Leave 0 (exec Tryz.prog (tab (n+7)) 0 55 (livesOf 47) big ltx_C4) (livesOf 47 (outOf 4)) (ltx_h4 a0 i_4) (.exit 0) (ltx_o4a a0):=by
 have C1_:¬i_4<a0.1.length:=by omega
 unfold Leave
 simp+decide [ltx_h4,loopsOf, Tryz.f47,ltx_o4a,ltx_C4,C1,C1_]
end
section
open Go.RowKit
def ltx_hN(a0:Form)(i_4:Nat)(ab:ByteArray):St:=
 ⟨[(1,.ptr 0 0),(3,.ptr 1 0),(4,.clo 101 [.ptr 1 0]),(11,.sl 4 (a0.1.map termC)),(12,.lit (.int .i64 (a0.1.length:Int))),(13,.lit (.int .i64 (i_4:Int)))],
  [(0,some (.box 79 [.sl 4 (a0.1.map termC),.lit (.bool (rawQ a0.2).s),natA (rawQ a0.2).l1,natA (rawQ a0.2).l2] false)),
   (1,some (.box 139 [.ptr 1 0,.own 2 ab.size] false)),
   (2,some (.row 5 1 (strEls ab) 0))],3⟩
def ltx_oN(a0:Form)(ab:ByteArray):St:=
 ⟨[(1,.ptr 0 0),(3,.ptr 1 0),(4,.clo 101 [.ptr 1 0])],
  [(0,some (.box 79 [.sl 4 (a0.1.map termC),.lit (.bool (rawQ a0.2).s),natA (rawQ a0.2).l1,natA (rawQ a0.2).l2] false)),
   (1,some (.box 139 [.ptr 1 0,.own 2 ab.size] false)),
   (2,some (.row 5 1 (strEls ab) 0))],3⟩
theorem ltE1_1{n:Nat}{rb:ByteArray}{a0:Form}{i_4:Nat}{v3:Int}{q3:Rat}{r5:ByteArray}{cat7:ByteArray}{r6:ByteArray}{cat8:ByteArray}{cat9:ByteArray}(C1:(i_4:Int)<(a0.1.length:Int))(E2:a0.1[i_4]?=some (v3,q3))(K3:(oItoa) [.lit (.int .i64 v3)]=some (.lit (.string r5)))(S4:(⟨#[120]⟩:ByteArray).size+r5.size≤9000000000000000000)(D4:cat7=(⟨#[120]⟩:ByteArray)++r5)(K5:run (n+6) 104 [ratV q3]=some (.lit (.string r6)))(C6:¬r6=(⟨#[49]⟩:ByteArray))(S7:r6.size+(⟨#[42]⟩:ByteArray).size≤9000000000000000000)(D7:cat8=r6++(⟨#[42]⟩:ByteArray))(S8:cat8.size+cat7.size≤9000000000000000000)(D8:cat9=cat8++cat7)(K9:runL (n+6) 101 [.lit (.bool (rawQ q3).s),.lit (.string cat9),.ptr 0 0] [.box 139 [(.lit (.pointer none)),.nl 1] false]=some (.tup [],[(0,.box 139 [.ptr 0 0,.own 1 rb.size] false),(1,.row 5 1 (strEls rb) 0)]))(W10:InI ((i_4:Int)+1)):
  Cont 0 (exec Tryz.prog (tab (n+7)) 0 55 (livesOf 47) big ltx_C4) (livesOf 47 4) (ltx_h4 a0 i_4) (ltx_hN a0 (i_4+1) rb):=by
 obtain ⟨ks0,hks0⟩:∃k:ByteArray,(⟨#[42]⟩:ByteArray)=k:=⟨_,rfl⟩
 rw [hks0] at S7 D7
 have C1_:i_4<a0.1.length:=by omega
 obtain ⟨EL2,EG2⟩:=List.getElem?_eq_some_iff.1 E2
 have S4_r:=cat_r S4 D4
 have S4_q:=cat_q S4 D4
 simp only [ratV] at K5
 have C6_:(r6.toList==(⟨#[49]⟩:ByteArray).toList)=false:=by rw [beq_eq_false_iff_ne];exact fun h=>C6 (ba_inj h)
 have C6_n:(r6.toList !=(⟨#[49]⟩:ByteArray).toList)=true:=by rw [bne,C6_];rfl
 have C6_k:(r6.toList==([49]:List UInt8))=false:=by rw [show ([49]:List UInt8)=(⟨#[49]⟩:ByteArray).toList by rw [ba_toList]];exact C6_
 have S7_r:=cat_r S7 D7
 have S7_q:=cat_q S7 D7
 have S8_r:=cat_r S8 D8
 have S8_q:=cat_q S8 D8
 have W10_:IntKind.i64.wrap ((i_4:Int)+1)=(i_4:Int)+1:=wr64 W10.1 W10.2
 unfold Cont
 simp+decide [ltx_h4,ltx_hN,loopsOf, Tryz.f47,ltx_C4,C1,C1_,EL2,EG2,E2,K3,↓S4_r,S4_q,K5,C6_,C6_n,C6_k,↓S7_r,S7_q,↓S8_r,S8_q,K9,W10_,hks0]
theorem ltE2_1{n:Nat}{rb:ByteArray}{a0:Form}{i_4:Nat}{v3:Int}{q3:Rat}{r5:ByteArray}{cat7:ByteArray}{r6:ByteArray}{cat8:ByteArray}{cat9:ByteArray}(C1:(i_4:Int)<(a0.1.length:Int))(E2:a0.1[i_4]?=some (v3,q3))(K3:(oItoa) [.lit (.int .i64 v3)]=some (.lit (.string r5)))(S4:(⟨#[120]⟩:ByteArray).size+r5.size≤9000000000000000000)(D4:cat7=(⟨#[120]⟩:ByteArray)++r5)(K5:run (n+6) 104 [ratV q3]=some (.lit (.string r6)))(C6:¬r6=(⟨#[49]⟩:ByteArray))(S7:r6.size+(⟨#[42]⟩:ByteArray).size≤9000000000000000000)(D7:cat8=r6++(⟨#[42]⟩:ByteArray))(S8:cat8.size+cat7.size≤9000000000000000000)(D8:cat9=cat8++cat7)(K9:runL (n+6) 101 [.lit (.bool (rawQ q3).s),.lit (.string cat9),.ptr 0 0] [.box 139 [(.lit (.pointer none)),.nl 1] false]=some (.tup [],[(0,.box 139 [.ptr 0 0,.own 2 rb.size] false),(2,.row 5 1 (strEls rb) 0)]))(W10:InI ((i_4:Int)+1)):
  Cont 0 (exec Tryz.prog (tab (n+7)) 0 55 (livesOf 47) big ltx_C4) (livesOf 47 4) (ltx_h4 a0 i_4) (ltx_hN a0 (i_4+1) rb):=by
 obtain ⟨ks0,hks0⟩:∃k:ByteArray,(⟨#[42]⟩:ByteArray)=k:=⟨_,rfl⟩
 rw [hks0] at S7 D7
 have C1_:i_4<a0.1.length:=by omega
 obtain ⟨EL2,EG2⟩:=List.getElem?_eq_some_iff.1 E2
 have S4_r:=cat_r S4 D4
 have S4_q:=cat_q S4 D4
 simp only [ratV] at K5
 have C6_:(r6.toList==(⟨#[49]⟩:ByteArray).toList)=false:=by rw [beq_eq_false_iff_ne];exact fun h=>C6 (ba_inj h)
 have C6_n:(r6.toList !=(⟨#[49]⟩:ByteArray).toList)=true:=by rw [bne,C6_];rfl
 have C6_k:(r6.toList==([49]:List UInt8))=false:=by rw [show ([49]:List UInt8)=(⟨#[49]⟩:ByteArray).toList by rw [ba_toList]];exact C6_
 have S7_r:=cat_r S7 D7
 have S7_q:=cat_q S7 D7
 have S8_r:=cat_r S8 D8
 have S8_q:=cat_q S8 D8
 have W10_:IntKind.i64.wrap ((i_4:Int)+1)=(i_4:Int)+1:=wr64 W10.1 W10.2
 unfold Cont
 simp+decide [ltx_h4,ltx_hN,loopsOf, Tryz.f47,ltx_C4,C1,C1_,EL2,EG2,E2,K3,↓S4_r,S4_q,K5,C6_,C6_n,C6_k,↓S7_r,S7_q,↓S8_r,S8_q,K9,W10_,hks0]
theorem ltN_1{n:Nat}{ab rb:ByteArray}{a0:Form}{i_4:Nat}{v3:Int}{q3:Rat}{r5:ByteArray}{cat7:ByteArray}{r6:ByteArray}{cat8:ByteArray}{cat9:ByteArray}(C1:(i_4:Int)<(a0.1.length:Int))(E2:a0.1[i_4]?=some (v3,q3))(K3:(oItoa) [.lit (.int .i64 v3)]=some (.lit (.string r5)))(S4:(⟨#[120]⟩:ByteArray).size+r5.size≤9000000000000000000)(D4:cat7=(⟨#[120]⟩:ByteArray)++r5)(K5:run (n+6) 104 [ratV q3]=some (.lit (.string r6)))(C6:¬r6=(⟨#[49]⟩:ByteArray))(S7:r6.size+(⟨#[42]⟩:ByteArray).size≤9000000000000000000)(D7:cat8=r6++(⟨#[42]⟩:ByteArray))(S8:cat8.size+cat7.size≤9000000000000000000)(D8:cat9=cat8++cat7)(K9:runL (n+6) 101 [.lit (.bool (rawQ q3).s),.lit (.string cat9),.ptr 0 0] [.box 139 [.ptr 0 0,.own 1 ab.size] false,.row 5 1 (strEls ab) 0]=some (.tup [],[(0,.box 139 [.ptr 0 0,.own 3 rb.size] false),(3,.row 5 1 (strEls rb) 0)]))(W10:InI ((i_4:Int)+1)):
  Cont 0 (exec Tryz.prog (tab (n+7)) 0 55 (livesOf 47) big ltx_C4) (livesOf 47 4) (ltx_hN a0 i_4 ab) (ltx_hN a0 (i_4+1) rb):=by
 obtain ⟨ks0,hks0⟩:∃k:ByteArray,(⟨#[42]⟩:ByteArray)=k:=⟨_,rfl⟩
 rw [hks0] at S7 D7
 have C1_:i_4<a0.1.length:=by omega
 obtain ⟨EL2,EG2⟩:=List.getElem?_eq_some_iff.1 E2
 have S4_r:=cat_r S4 D4
 have S4_q:=cat_q S4 D4
 simp only [ratV] at K5
 have C6_:(r6.toList==(⟨#[49]⟩:ByteArray).toList)=false:=by rw [beq_eq_false_iff_ne];exact fun h=>C6 (ba_inj h)
 have C6_n:(r6.toList !=(⟨#[49]⟩:ByteArray).toList)=true:=by rw [bne,C6_];rfl
 have C6_k:(r6.toList==([49]:List UInt8))=false:=by rw [show ([49]:List UInt8)=(⟨#[49]⟩:ByteArray).toList by rw [ba_toList]];exact C6_
 have S7_r:=cat_r S7 D7
 have S7_q:=cat_q S7 D7
 have S8_r:=cat_r S8 D8
 have S8_q:=cat_q S8 D8
 have W10_:IntKind.i64.wrap ((i_4:Int)+1)=(i_4:Int)+1:=wr64 W10.1 W10.2
 unfold Cont
 simp+decide [ltx_hN,loopsOf, Tryz.f47,ltx_C4,C1,C1_,EL2,EG2,E2,K3,↓S4_r,S4_q,K5,C6_,C6_n,C6_k,↓S7_r,S7_q,↓S8_r,S8_q,K9,W10_,hks0]
theorem ltE1_2{n:Nat}{rb:ByteArray}{a0:Form}{i_4:Nat}{v3:Int}{q3:Rat}{r5:ByteArray}{cat7:ByteArray}{r6:ByteArray}(C1:(i_4:Int)<(a0.1.length:Int))(E2:a0.1[i_4]?=some (v3,q3))(K3:(oItoa) [.lit (.int .i64 v3)]=some (.lit (.string r5)))(S4:(⟨#[120]⟩:ByteArray).size+r5.size≤9000000000000000000)(D4:cat7=(⟨#[120]⟩:ByteArray)++r5)(K5:run (n+6) 104 [ratV q3]=some (.lit (.string r6)))(C6:r6=(⟨#[49]⟩:ByteArray))(K7:runL (n+6) 101 [.lit (.bool (rawQ q3).s),.lit (.string cat7),.ptr 0 0] [.box 139 [(.lit (.pointer none)),.nl 1] false]=some (.tup [],[(0,.box 139 [.ptr 0 0,.own 1 rb.size] false),(1,.row 5 1 (strEls rb) 0)]))(W8:InI ((i_4:Int)+1)):
  Cont 0 (exec Tryz.prog (tab (n+7)) 0 55 (livesOf 47) big ltx_C4) (livesOf 47 4) (ltx_h4 a0 i_4) (ltx_hN a0 (i_4+1) rb):=by
 have C1_:i_4<a0.1.length:=by omega
 obtain ⟨EL2,EG2⟩:=List.getElem?_eq_some_iff.1 E2
 have S4_r:=cat_r S4 D4
 have S4_q:=cat_q S4 D4
 simp only [ratV] at K5
 have C6_:(r6.toList==(⟨#[49]⟩:ByteArray).toList)=true:=by rw [C6];simp
 have C6_n:(r6.toList !=(⟨#[49]⟩:ByteArray).toList)=false:=by rw [bne,C6_];rfl
 have C6_k:(r6.toList==([49]:List UInt8))=true:=by rw [show ([49]:List UInt8)=(⟨#[49]⟩:ByteArray).toList by rw [ba_toList]];exact C6_
 have W8_:IntKind.i64.wrap ((i_4:Int)+1)=(i_4:Int)+1:=wr64 W8.1 W8.2
 unfold Cont
 simp+decide [ltx_h4,ltx_hN,loopsOf, Tryz.f47,ltx_C4,C1,C1_,EL2,EG2,E2,K3,↓S4_r,S4_q,K5,C6_,C6_n,C6_k,K7,W8_]
theorem ltE2_2{n:Nat}{rb:ByteArray}{a0:Form}{i_4:Nat}{v3:Int}{q3:Rat}{r5:ByteArray}{cat7:ByteArray}{r6:ByteArray}(C1:(i_4:Int)<(a0.1.length:Int))(E2:a0.1[i_4]?=some (v3,q3))(K3:(oItoa) [.lit (.int .i64 v3)]=some (.lit (.string r5)))(S4:(⟨#[120]⟩:ByteArray).size+r5.size≤9000000000000000000)(D4:cat7=(⟨#[120]⟩:ByteArray)++r5)(K5:run (n+6) 104 [ratV q3]=some (.lit (.string r6)))(C6:r6=(⟨#[49]⟩:ByteArray))(K7:runL (n+6) 101 [.lit (.bool (rawQ q3).s),.lit (.string cat7),.ptr 0 0] [.box 139 [(.lit (.pointer none)),.nl 1] false]=some (.tup [],[(0,.box 139 [.ptr 0 0,.own 2 rb.size] false),(2,.row 5 1 (strEls rb) 0)]))(W8:InI ((i_4:Int)+1)):
  Cont 0 (exec Tryz.prog (tab (n+7)) 0 55 (livesOf 47) big ltx_C4) (livesOf 47 4) (ltx_h4 a0 i_4) (ltx_hN a0 (i_4+1) rb):=by
 have C1_:i_4<a0.1.length:=by omega
 obtain ⟨EL2,EG2⟩:=List.getElem?_eq_some_iff.1 E2
 have S4_r:=cat_r S4 D4
 have S4_q:=cat_q S4 D4
 simp only [ratV] at K5
 have C6_:(r6.toList==(⟨#[49]⟩:ByteArray).toList)=true:=by rw [C6];simp
 have C6_n:(r6.toList !=(⟨#[49]⟩:ByteArray).toList)=false:=by rw [bne,C6_];rfl
 have C6_k:(r6.toList==([49]:List UInt8))=true:=by rw [show ([49]:List UInt8)=(⟨#[49]⟩:ByteArray).toList by rw [ba_toList]];exact C6_
 have W8_:IntKind.i64.wrap ((i_4:Int)+1)=(i_4:Int)+1:=wr64 W8.1 W8.2
 unfold Cont
 simp+decide [ltx_h4,ltx_hN,loopsOf, Tryz.f47,ltx_C4,C1,C1_,EL2,EG2,E2,K3,↓S4_r,S4_q,K5,C6_,C6_n,C6_k,K7,W8_]
theorem ltN_2{n:Nat}{ab rb:ByteArray}{a0:Form}{i_4:Nat}{v3:Int}{q3:Rat}{r5:ByteArray}{cat7:ByteArray}{r6:ByteArray}(C1:(i_4:Int)<(a0.1.length:Int))(E2:a0.1[i_4]?=some (v3,q3))(K3:(oItoa) [.lit (.int .i64 v3)]=some (.lit (.string r5)))(S4:(⟨#[120]⟩:ByteArray).size+r5.size≤9000000000000000000)(D4:cat7=(⟨#[120]⟩:ByteArray)++r5)(K5:run (n+6) 104 [ratV q3]=some (.lit (.string r6)))(C6:r6=(⟨#[49]⟩:ByteArray))(K7:runL (n+6) 101 [.lit (.bool (rawQ q3).s),.lit (.string cat7),.ptr 0 0] [.box 139 [.ptr 0 0,.own 1 ab.size] false,.row 5 1 (strEls ab) 0]=some (.tup [],[(0,.box 139 [.ptr 0 0,.own 3 rb.size] false),(3,.row 5 1 (strEls rb) 0)]))(W8:InI ((i_4:Int)+1)):
  Cont 0 (exec Tryz.prog (tab (n+7)) 0 55 (livesOf 47) big ltx_C4) (livesOf 47 4) (ltx_hN a0 i_4 ab) (ltx_hN a0 (i_4+1) rb):=by
 have C1_:i_4<a0.1.length:=by omega
 obtain ⟨EL2,EG2⟩:=List.getElem?_eq_some_iff.1 E2
 have S4_r:=cat_r S4 D4
 have S4_q:=cat_q S4 D4
 simp only [ratV] at K5
 have C6_:(r6.toList==(⟨#[49]⟩:ByteArray).toList)=true:=by rw [C6];simp
 have C6_n:(r6.toList !=(⟨#[49]⟩:ByteArray).toList)=false:=by rw [bne,C6_];rfl
 have C6_k:(r6.toList==([49]:List UInt8))=true:=by rw [show ([49]:List UInt8)=(⟨#[49]⟩:ByteArray).toList by rw [ba_toList]];exact C6_
 have W8_:IntKind.i64.wrap ((i_4:Int)+1)=(i_4:Int)+1:=wr64 W8.1 W8.2
 unfold Cont
 simp+decide [ltx_hN,loopsOf, Tryz.f47,ltx_C4,C1,C1_,EL2,EG2,E2,K3,↓S4_r,S4_q,K5,C6_,C6_n,C6_k,K7,W8_]
theorem ltN_x{n:Nat}{ab:ByteArray}{a0:Form}{i_4:Nat}(C1:¬(i_4:Int)<(a0.1.length:Int)):
  Leave 0 (exec Tryz.prog (tab (n+7)) 0 55 (livesOf 47) big ltx_C4) (livesOf 47 (outOf 4)) (ltx_hN a0 i_4 ab) (.exit 0) (ltx_oN a0 ab):=by
 have C1_:¬i_4<a0.1.length:=by omega
 unfold Leave
 simp+decide [ltx_hN,loopsOf, Tryz.f47,ltx_oN,ltx_C4,C1,C1_]
theorem ltFE1{n:Nat}{rb:ByteArray}{a0:Form}{r8:ByteArray}{r10:ByteArray}(L1:loopG Tryz.prog (tab (n+7)) 0 55 (livesOf 47) 4 ltx_C4 (ltx_h4 a0 0)=some (.exit 0,ltx_o4a a0))(C2:0<((rawQ a0.2).l1.length:Int))(K3:run (n+6) 104 [ratV a0.2]=some (.lit (.string r8)))(K4:runL (n+6) 101 [.lit (.bool (rawQ a0.2).s),.lit (.string r8),.ptr 0 0] [.box 139 [(.lit (.pointer none)),.nl 1] false]=some (.tup [],[(0,.box 139 [.ptr 0 0,.own 1 rb.size] false),(1,.row 5 1 (strEls rb) 0)]))(K5:runL (n+6) 105 [.ptr 0 0] [.box 139 [.ptr 0 0,.own 1 rb.size] false,.row 5 1 (strEls rb) 0]=some (.lit (.string r10),[(0,.box 139 [.ptr 0 0,.own 1 rb.size] false)])):
  run (n+7) 47 [formV a0]=some (.lit (.string r10)):=by
 have C2_:0<(rawQ a0.2).l1.length:=by omega
 have C2_z:((rawQ a0.2).l1.length:Int)≠0:=by omega
 have C2_e:(((rawQ a0.2).l1.length:Int)==0)=false:=by simpa using C2_z
 have C2_g:(((rawQ a0.2).l1.length:Int) !=0)=true:=by simpa using C2_z
 simp only [ratV] at K3
 unfold run fnP
 simp+decide [Tryz.f47,C2,C2_,C2_e,C2_g,K3,K4,K5]
 rw [loopX_G (C':=ltx_C4) (e:=(ltx_h4 a0 0)) ?_ ?_,L1]
 rotate_left
 ·kernel_rfl
 ·simp+decide [ltx_h4,C2,C2_,C2_e,C2_g,K3,K4,K5]
 simp+decide [ltx_o4a,C2,C2_,C2_e,C2_g,K3,K4,K5]
theorem ltFE2{n:Nat}{rb:ByteArray}{a0:Form}{r8:ByteArray}{r10:ByteArray}(L1:loopG Tryz.prog (tab (n+7)) 0 55 (livesOf 47) 4 ltx_C4 (ltx_h4 a0 0)=some (.exit 0,ltx_o4a a0))(C2:0<((rawQ a0.2).l1.length:Int))(K3:run (n+6) 104 [ratV a0.2]=some (.lit (.string r8)))(K4:runL (n+6) 101 [.lit (.bool (rawQ a0.2).s),.lit (.string r8),.ptr 0 0] [.box 139 [(.lit (.pointer none)),.nl 1] false]=some (.tup [],[(0,.box 139 [.ptr 0 0,.own 2 rb.size] false),(2,.row 5 1 (strEls rb) 0)]))(K5:runL (n+6) 105 [.ptr 0 0] [.box 139 [.ptr 0 0,.own 1 rb.size] false,.row 5 1 (strEls rb) 0]=some (.lit (.string r10),[(0,.box 139 [.ptr 0 0,.own 1 rb.size] false)])):
  run (n+7) 47 [formV a0]=some (.lit (.string r10)):=by
 have C2_:0<(rawQ a0.2).l1.length:=by omega
 have C2_z:((rawQ a0.2).l1.length:Int)≠0:=by omega
 have C2_e:(((rawQ a0.2).l1.length:Int)==0)=false:=by simpa using C2_z
 have C2_g:(((rawQ a0.2).l1.length:Int) !=0)=true:=by simpa using C2_z
 simp only [ratV] at K3
 unfold run fnP
 simp+decide [Tryz.f47,C2,C2_,C2_e,C2_g,K3,K4,K5]
 rw [loopX_G (C':=ltx_C4) (e:=(ltx_h4 a0 0)) ?_ ?_,L1]
 rotate_left
 ·kernel_rfl
 ·simp+decide [ltx_h4,C2,C2_,C2_e,C2_g,K3,K4,K5]
 simp+decide [ltx_o4a,C2,C2_,C2_e,C2_g,K3,K4,K5]
theorem ltFE3{n:Nat}{rb:ByteArray}{a0:Form}{r7:Int}{r9:ByteArray}{r11:ByteArray}(L1:loopG Tryz.prog (tab (n+7)) 0 55 (livesOf 47) 4 ltx_C4 (ltx_h4 a0 0)=some (.exit 0,ltx_o4a a0))(C2:¬0<((rawQ a0.2).l1.length:Int))(K3:runL (n+6) 102 [.ptr 0 0] [.box 139 [(.lit (.pointer none)),.nl 1] false]=some (.lit (.int .i64 r7),[(0,.box 139 [(.lit (.pointer none)),.nl 1] false)]))(C4:r7=0)(K5:run (n+6) 104 [ratV a0.2]=some (.lit (.string r9)))(K6:runL (n+6) 101 [.lit (.bool (rawQ a0.2).s),.lit (.string r9),.ptr 0 0] [.box 139 [(.lit (.pointer none)),.nl 1] false]=some (.tup [],[(0,.box 139 [.ptr 0 0,.own 1 rb.size] false),(1,.row 5 1 (strEls rb) 0)]))(K7:runL (n+6) 105 [.ptr 0 0] [.box 139 [.ptr 0 0,.own 1 rb.size] false,.row 5 1 (strEls rb) 0]=some (.lit (.string r11),[(0,.box 139 [.ptr 0 0,.own 1 rb.size] false)])):
  run (n+7) 47 [formV a0]=some (.lit (.string r11)):=by
 have C2_:¬0<(rawQ a0.2).l1.length:=by omega
 have C2_z:((rawQ a0.2).l1.length:Int)=0:=by omega
 have C2_e:(((rawQ a0.2).l1.length:Int)==0)=true:=by rw [C2_z];simp
 have C2_g:(((rawQ a0.2).l1.length:Int) !=0)=false:=by rw [C2_z];simp
 have C4_:(r7==0)=true:=by rw [C4];simp
 have C4_n:(r7 !=0)=false:=by rw [C4];simp
 simp only [ratV] at K5
 unfold run fnP
 simp+decide [Tryz.f47,C2,C2_,C2_e,C2_g,K3,C4_,C4_n,K5,K6,K7]
 rw [loopX_G (C':=ltx_C4) (e:=(ltx_h4 a0 0)) ?_ ?_,L1]
 rotate_left
 ·kernel_rfl
 ·simp+decide [ltx_h4,C2,C2_,C2_e,C2_g,K3,C4_,C4_n,K5,K6,K7]
 simp+decide [ltx_o4a,C2,C2_,C2_e,C2_g,K3,C4_,C4_n,K5,K6,K7]
theorem ltFN1{n:Nat}{ab rb:ByteArray}{a0:Form}{r8:ByteArray}{r10:ByteArray}(L1:loopG Tryz.prog (tab (n+7)) 0 55 (livesOf 47) 4 ltx_C4 (ltx_h4 a0 0)=some (.exit 0,ltx_oN a0 ab))(C2:0<((rawQ a0.2).l1.length:Int))(K3:run (n+6) 104 [ratV a0.2]=some (.lit (.string r8)))(K4:runL (n+6) 101 [.lit (.bool (rawQ a0.2).s),.lit (.string r8),.ptr 0 0] [.box 139 [.ptr 0 0,.own 1 ab.size] false,.row 5 1 (strEls ab) 0]=some (.tup [],[(0,.box 139 [.ptr 0 0,.own 3 rb.size] false),(3,.row 5 1 (strEls rb) 0)]))(K5:runL (n+6) 105 [.ptr 0 0] [.box 139 [.ptr 0 0,.own 1 rb.size] false,.row 5 1 (strEls rb) 0]=some (.lit (.string r10),[(0,.box 139 [.ptr 0 0,.own 1 rb.size] false)])):
  run (n+7) 47 [formV a0]=some (.lit (.string r10)):=by
 have C2_:0<(rawQ a0.2).l1.length:=by omega
 have C2_z:((rawQ a0.2).l1.length:Int)≠0:=by omega
 have C2_e:(((rawQ a0.2).l1.length:Int)==0)=false:=by simpa using C2_z
 have C2_g:(((rawQ a0.2).l1.length:Int) !=0)=true:=by simpa using C2_z
 simp only [ratV] at K3
 unfold run fnP
 simp+decide [Tryz.f47,C2,C2_,C2_e,C2_g,K3,K4,K5]
 rw [loopX_G (C':=ltx_C4) (e:=(ltx_h4 a0 0)) ?_ ?_,L1]
 rotate_left
 ·kernel_rfl
 ·simp+decide [ltx_h4,C2,C2_,C2_e,C2_g,K3,K4,K5]
 simp+decide [ltx_oN,C2,C2_,C2_e,C2_g,K3,K4,K5]
theorem ltFN2{n:Nat}{ab:ByteArray}{a0:Form}{r7:Int}{r12:ByteArray}(L1:loopG Tryz.prog (tab (n+7)) 0 55 (livesOf 47) 4 ltx_C4 (ltx_h4 a0 0)=some (.exit 0,ltx_oN a0 ab))(C2:¬0<((rawQ a0.2).l1.length:Int))(K3:runL (n+6) 102 [.ptr 0 0] [.box 139 [.ptr 0 0,.own 1 ab.size] false,.row 5 1 (strEls ab) 0]=some (.lit (.int .i64 r7),[(0,.box 139 [.ptr 0 0,.own 1 ab.size] false),(1,.row 5 1 (strEls ab) 0)]))(C4:¬r7=0)(K5:runL (n+6) 105 [.ptr 0 0] [.box 139 [.ptr 0 0,.own 1 ab.size] false,.row 5 1 (strEls ab) 0]=some (.lit (.string r12),[(0,.box 139 [.ptr 0 0,.own 1 ab.size] false)])):
  run (n+7) 47 [formV a0]=some (.lit (.string r12)):=by
 have C2_:¬0<(rawQ a0.2).l1.length:=by omega
 have C2_z:((rawQ a0.2).l1.length:Int)=0:=by omega
 have C2_e:(((rawQ a0.2).l1.length:Int)==0)=true:=by rw [C2_z];simp
 have C2_g:(((rawQ a0.2).l1.length:Int) !=0)=false:=by rw [C2_z];simp
 have C4_:(r7==0)=false:=by simpa using C4
 have C4_n:(r7 !=0)=true:=by simpa using C4
 unfold run fnP
 simp+decide [Tryz.f47,C2,C2_,C2_e,C2_g,K3,C4_,C4_n,K5]
 rw [loopX_G (C':=ltx_C4) (e:=(ltx_h4 a0 0)) ?_ ?_,L1]
 rotate_left
 ·kernel_rfl
 ·simp+decide [ltx_h4,C2,C2_,C2_e,C2_g,K3,C4_,C4_n,K5]
 simp+decide [ltx_oN,C2,C2_,C2_e,C2_g,K3,C4_,C4_n,K5]
end
section
open Go.RowKit
theorem blen_0{n:Nat}:runL n 102 [.ptr 0 0] [.box 139 [.lit (.pointer none),.nl 1] false]=some (.lit (.int .i64 0),[(0,.box 139 [.lit (.pointer none),.nl 1] false)]):=by
 unfold runL fnL
 simp+decide [Tryz.f102]
theorem blen_1{n:Nat}{k:Nat}{es:List (List AV)}:runL n 102 [.ptr 0 0] [.box 139 [.ptr 0 0,.own 1 k] false,.row 5 1 es 0]=some (.lit (.int .i64 k),[(0,.box 139 [.ptr 0 0,.own 1 k] false),(1,.row 5 1 es 0)]):=by
 unfold runL fnL
 simp+decide [Tryz.f102]
theorem bws_0{n:Nat}{s:ByteArray}(h:roomy s.size 1=true):runL (n+1) 103 [.ptr 0 0,.lit (.string s)] [.box 139 [.lit (.pointer none),.nl 1] false]=some (.tup [.lit (.int .i64 s.size),.lit .nilIface],[(0,.box 139 [.ptr 0 0,.own 1 s.size] false),(1,.row 5 1 (strEls s) 0)]):=by
 unfold runL fnL
 simp+decide [Tryz.f103,ccG,isSelf,enumB,apS,isNil,h]
theorem bws_1{n:Nat}{a s:ByteArray}(h:roomy (a.size+s.size) 1=true):runL (n+1) 103 [.ptr 0 0,.lit (.string s)] [.box 139 [.ptr 0 0,.own 1 a.size] false,.row 5 1 (strEls a) 0]=some (.tup [.lit (.int .i64 s.size),.lit .nilIface],[(0,.box 139 [.ptr 0 0,.own 2 (a.size+s.size)] false),(2,.row 5 1 (strEls (a++s)) 0)]):=by
 unfold runL fnL
 simp+decide [Tryz.f103,ccG,isSelf,enumB,apS,isNil,h]
theorem bstr_1{n:Nat}{a:ByteArray}(h0:0<a.size)(h:(a.size:Int)≤9223372036854775807):runL n 105 [.ptr 0 0] [.box 139 [.ptr 0 0,.own 1 a.size] false,.row 5 1 (strEls a) 0]=some (.lit (.string a),[(0,.box 139 [.ptr 0 0,.own 1 a.size] false)]):=by
 unfold runL fnL
 simp+decide [Tryz.f105,usdT,usT,h0,h]
theorem bpart_0{n:Nat}{s:ByteArray}(h:roomy s.size 1=true):runL (n+2) 101 [.lit (.bool false),.lit (.string s),.ptr 0 0] [.box 139 [.lit (.pointer none),.nl 1] false]=some (.tup [],[(0,.box 139 [.ptr 0 0,.own 1 s.size] false),(1,.row 5 1 (strEls s) 0)]):=by
 have K:=bws_0 (n:=n) h
 unfold runL fnL
 simp+decide [Tryz.f101,blen_0,K]
end
section
open Go.RowKit
theorem bpart_1{n:Nat}{s:ByteArray}(h0:roomy 1 1=true)(h:roomy (1+s.size) 1=true):runL (n+2) 101 [.lit (.bool true),.lit (.string s),.ptr 0 0] [.box 139 [.lit (.pointer none),.nl 1] false]=some (.tup [],[(0,.box 139 [.ptr 0 0,.own 2 (1+s.size)] false),(2,.row 5 1 (strEls ((⟨#[45]⟩:ByteArray)++s)) 0)]):=by
 have K1:=bws_0 (n:=n) (s:=(⟨#[45]⟩:ByteArray)) h0
 have K2:=bws_1 (n:=n) (a:=(⟨#[45]⟩:ByteArray)) (s:=s) h
 unfold runL fnL
 simp+decide [Tryz.f101,blen_0,K1,K2]
theorem bpart_2{n:Nat}{a s:ByteArray}(ha:0<a.size)(h0:roomy (a.size+3) 1=true)(h:roomy (a.size+3+s.size) 1=true):runL (n+2) 101 [.lit (.bool false),.lit (.string s),.ptr 0 0] [.box 139 [.ptr 0 0,.own 1 a.size] false,.row 5 1 (strEls a) 0]=some (.tup [],[(0,.box 139 [.ptr 0 0,.own 3 (a.size+3+s.size)] false),(3,.row 5 1 (strEls (a++(⟨#[32,43,32]⟩:ByteArray)++s)) 0)]):=by
 have K1:=bws_1 (n:=n) (a:=a) (s:=(⟨#[32,43,32]⟩:ByteArray)) h0
 have K2:=bws_1 (n:=n) (a:=a++(⟨#[32,43,32]⟩:ByteArray)) (s:=s) (by rw [ByteArray.size_append];exact h)
 rw [ByteArray.size_append] at K2
 have e1:((a.size:Int)==0)=false:=by rw [beq_eq_false_iff_ne];omega
 have e2:((a.size:Int) !=0)=true:=by rw [bne_iff_ne];omega
 unfold runL fnL
 simp+decide [Tryz.f101,blen_1,K1,K2,e1,e2,ha]
theorem bpart_3{n:Nat}{a s:ByteArray}(ha:0<a.size)(h0:roomy (a.size+3) 1=true)(h:roomy (a.size+3+s.size) 1=true):runL (n+2) 101 [.lit (.bool true),.lit (.string s),.ptr 0 0] [.box 139 [.ptr 0 0,.own 1 a.size] false,.row 5 1 (strEls a) 0]=some (.tup [],[(0,.box 139 [.ptr 0 0,.own 3 (a.size+3+s.size)] false),(3,.row 5 1 (strEls (a++(⟨#[32,45,32]⟩:ByteArray)++s)) 0)]):=by
 have K1:=bws_1 (n:=n) (a:=a) (s:=(⟨#[32,45,32]⟩:ByteArray)) h0
 have K2:=bws_1 (n:=n) (a:=a++(⟨#[32,45,32]⟩:ByteArray)) (s:=s) (by rw [ByteArray.size_append];exact h)
 rw [ByteArray.size_append] at K2
 have e1:((a.size:Int)==0)=false:=by rw [beq_eq_false_iff_ne];omega
 have e2:((a.size:Int) !=0)=true:=by rw [bne_iff_ne];omega
 unfold runL fnL
 simp+decide [Tryz.f101,blen_1,K1,K2,e1,e2,ha]
end
section
open Go.RowKit
noncomputable def ftx_C3:Code:=(loopsOf (bodyOf Tryz.f43)).getD 0 .skip
def ftx_h3(a0:Form)(str_3:ByteArray)(i_3:Nat):St:=
 ⟨[(1,.ptr 0 0),(3,.lit (.string str_3)),(4,.lit (.int .i64 (i_3:Int)))],
  [(0,some (.box 79 [.sl 4 (a0.1.map termC),.lit (.bool (rawQ a0.2).s),natA (rawQ a0.2).l1,natA (rawQ a0.2).l2] false))],1⟩
def ftx_o3a(a0:Form)(str_3:ByteArray):St:=
 ⟨[(1,.ptr 0 0),(3,.lit (.string str_3))],
  [(0,some (.box 79 [.sl 4 (a0.1.map termC),.lit (.bool (rawQ a0.2).s),natA (rawQ a0.2).l1,natA (rawQ a0.2).l2] false))],1⟩
section
variable {i_3 : Nat} {r16 : List Nat} {r18 : ByteArray} {str_3 : ByteArray} {n : Nat} {v3 : Int} {q3 : Rat} {cat11 : ByteArray} {cat13 : ByteArray} {a0 : Form} {r17 : ByteArray} {cat12 : ByteArray} {r15 : ByteArray} {r19 : List Nat} {cat15 : ByteArray} {r21 : ByteArray} {cat14 : ByteArray} {r20 : ByteArray} {r23 : ByteArray} {r22 : ByteArray} {r25 : ByteArray} {r24 : ByteArray}
section
variable(C1:(i_3:Int)<(a0.1.length:Int))(E2:a0.1[i_3]?=some (v3,q3))(K3:run (n+5) 95 [ratV q3]=some (.lit (.string r15)))(S4:r15.size+(⟨#[42]⟩:ByteArray).size≤9000000000000000000)(D4:cat11=r15++(⟨#[42]⟩:ByteArray))
include C1 E2 K3 S4 D4
theorem ftx_r3_1(C5:cat11=(⟨#[49,42]⟩:ByteArray))(S6:(⟨#[]⟩:ByteArray).size+(⟨#[120]⟩:ByteArray).size≤9000000000000000000)(D6:cat12=(⟨#[]⟩:ByteArray)++(⟨#[120]⟩:ByteArray))(W7:IntKind.u64.wrap (v3)=v3)(K8:(oU fun k=>natA (lmb k)) [.lit (.int .u64 v3)]=some (natA r16))(K9:run (n+5) 50 [natA r16]=some (.lit (.string r17)))(S10:cat12.size+r17.size≤9000000000000000000)(D10:cat13=cat12++r17)(K11:run (n+5) 96 [.lit (.string str_3),.lit (.bool (rawQ q3).s),.lit (.string cat13)]=some (.lit (.string r18)))(W12:InI ((i_3:Int)+1)):
  Cont 0 (exec Tryz.prog (tab (n+6)) 0 55 (livesOf 43) big ftx_C3) (livesOf 43 3) (ftx_h3 a0 str_3 i_3) (ftx_h3 a0 r18 (i_3+1)):=by
 obtain ⟨ks0,hks0⟩:∃k:ByteArray,(⟨#[42]⟩:ByteArray)=k:=⟨_,rfl⟩
 rw [hks0] at S4 D4
 obtain ⟨ks1,hks1⟩:∃k:ByteArray,(⟨#[120]⟩:ByteArray)=k:=⟨_,rfl⟩
 rw [hks1] at S6 D6
 have C1_:i_3<a0.1.length:=by omega
 obtain ⟨EL2,EG2⟩:=List.getElem?_eq_some_iff.1 E2
 simp only [ratV] at K3
 have S4_r:=cat_r S4 D4
 have S4_q:=cat_q S4 D4
 have C5_:(cat11.toList==(⟨#[49,42]⟩:ByteArray).toList)=true:=by rw [C5];simp
 have C5_n:(cat11.toList !=(⟨#[49,42]⟩:ByteArray).toList)=false:=by rw [bne,C5_];rfl
 have C5_k:(cat11.toList==([49,42]:List UInt8))=true:=by rw [show ([49,42]:List UInt8)=(⟨#[49,42]⟩:ByteArray).toList by rw [ba_toList]];exact C5_
 have S6_r:=cat_r S6 D6
 have S6_q:=cat_q S6 D6
 have S10_r:=cat_r S10 D10
 have S10_q:=cat_q S10 D10
 have W12_:IntKind.i64.wrap ((i_3:Int)+1)=(i_3:Int)+1:=wr64 W12.1 W12.2
 unfold Cont
 simp+decide [ftx_h3,loopsOf, Tryz.f43,ftx_C3,C1,C1_,EL2,EG2,E2,K3,↓S4_r,S4_q,C5_,C5_n,C5_k,↓S6_r,S6_q,W7,K8,K9,↓S10_r,S10_q,K11,W12_,hks0,hks1]
theorem ftx_r3_2(C5:¬cat11=(⟨#[49,42]⟩:ByteArray))(S6:cat11.size+(⟨#[120]⟩:ByteArray).size≤9000000000000000000)(D6:cat14=cat11++(⟨#[120]⟩:ByteArray))(W7:IntKind.u64.wrap (v3)=v3)(K8:(oU fun k=>natA (lmb k)) [.lit (.int .u64 v3)]=some (natA r19))(K9:run (n+5) 50 [natA r19]=some (.lit (.string r20)))(S10:cat14.size+r20.size≤9000000000000000000)(D10:cat15=cat14++r20)(K11:run (n+5) 96 [.lit (.string str_3),.lit (.bool (rawQ q3).s),.lit (.string cat15)]=some (.lit (.string r21)))(W12:InI ((i_3:Int)+1)):
  Cont 0 (exec Tryz.prog (tab (n+6)) 0 55 (livesOf 43) big ftx_C3) (livesOf 43 3) (ftx_h3 a0 str_3 i_3) (ftx_h3 a0 r21 (i_3+1)):=by
 obtain ⟨ks0,hks0⟩:∃k:ByteArray,(⟨#[42]⟩:ByteArray)=k:=⟨_,rfl⟩
 rw [hks0] at S4 D4
 obtain ⟨ks1,hks1⟩:∃k:ByteArray,(⟨#[120]⟩:ByteArray)=k:=⟨_,rfl⟩
 rw [hks1] at S6 D6
 have C1_:i_3<a0.1.length:=by omega
 obtain ⟨EL2,EG2⟩:=List.getElem?_eq_some_iff.1 E2
 simp only [ratV] at K3
 have S4_r:=cat_r S4 D4
 have S4_q:=cat_q S4 D4
 have C5_:(cat11.toList==(⟨#[49,42]⟩:ByteArray).toList)=false:=by rw [beq_eq_false_iff_ne];exact fun h=>C5 (ba_inj h)
 have C5_n:(cat11.toList !=(⟨#[49,42]⟩:ByteArray).toList)=true:=by rw [bne,C5_];rfl
 have C5_k:(cat11.toList==([49,42]:List UInt8))=false:=by rw [show ([49,42]:List UInt8)=(⟨#[49,42]⟩:ByteArray).toList by rw [ba_toList]];exact C5_
 have S6_r:=cat_r S6 D6
 have S6_q:=cat_q S6 D6
 have S10_r:=cat_r S10 D10
 have S10_q:=cat_q S10 D10
 have W12_:IntKind.i64.wrap ((i_3:Int)+1)=(i_3:Int)+1:=wr64 W12.1 W12.2
 unfold Cont
 simp+decide [ftx_h3,loopsOf, Tryz.f43,ftx_C3,C1,C1_,EL2,EG2,E2,K3,↓S4_r,S4_q,C5_,C5_n,C5_k,↓S6_r,S6_q,W7,K8,K9,↓S10_r,S10_q,K11,W12_,hks0,hks1]
end
theorem ftx_x3_1(C1:¬(i_3:Int)<(a0.1.length:Int)):
  Leave 0 (exec Tryz.prog (tab (n+6)) 0 55 (livesOf 43) big ftx_C3) (livesOf 43 (outOf 3)) (ftx_h3 a0 str_3 i_3) (.exit 0) (ftx_o3a a0 str_3):=by
 have C1_:¬i_3<a0.1.length:=by omega
 unfold Leave
 simp+decide [ftx_h3,loopsOf, Tryz.f43,ftx_o3a,ftx_C3,C1,C1_]
section
variable(L1:loopG Tryz.prog (tab (n+6)) 0 55 (livesOf 43) 3 ftx_C3 (ftx_h3 a0 (⟨#[]⟩:ByteArray) 0)=some (.exit 0,ftx_o3a a0 str_3))
include L1
theorem ftx_f1(C2:str_3=(⟨#[]⟩:ByteArray))(K3:run (n+5) 95 [ratV a0.2]=some (.lit (.string r22)))(K4:run (n+5) 96 [.lit (.string str_3),.lit (.bool (rawQ a0.2).s),.lit (.string r22)]=some (.lit (.string r23))):
  run (n+6) 43 [formV a0]=some (.lit (.string r23)):=by
 have C2_:(str_3.toList==(⟨#[]⟩:ByteArray).toList)=true:=by rw [C2];simp
 have C2_n:(str_3.toList !=(⟨#[]⟩:ByteArray).toList)=false:=by rw [bne,C2_];rfl
 have C2_i:str_3.toList.isEmpty=true:=by rw [C2,ba_toList] <;>rfl
 simp only [ratV] at K3
 unfold run fnP
 simp+decide [Tryz.f43,C2_,C2_n,C2_i,K3,K4]
 rw [loopX_G (C':=ftx_C3) (e:=(ftx_h3 a0 (⟨#[]⟩:ByteArray) 0)) ?_ ?_,L1]
 rotate_left
 ·kernel_rfl
 ·simp+decide [ftx_h3,C2_,C2_n,C2_i,K3,K4]
 simp+decide [ftx_o3a,C2_,C2_n,C2_i,K3,K4]
theorem ftx_f2(C2:¬str_3=(⟨#[]⟩:ByteArray))(B3a:H a0.2≤17179869184)(C4:¬sgR a0.2=0)(K5:run (n+5) 95 [ratV a0.2]=some (.lit (.string r24)))(K6:run (n+5) 96 [.lit (.string str_3),.lit (.bool (rawQ a0.2).s),.lit (.string r24)]=some (.lit (.string r25))):
  run (n+6) 43 [formV a0]=some (.lit (.string r25)):=by
 have C2_:(str_3.toList==(⟨#[]⟩:ByteArray).toList)=false:=by rw [beq_eq_false_iff_ne];exact fun h=>C2 (ba_inj h)
 have C2_n:(str_3.toList !=(⟨#[]⟩:ByteArray).toList)=true:=by rw [bne,C2_];rfl
 have C2_i:str_3.toList.isEmpty=false:=by rcases he:str_3.toList.isEmpty with _|_;rfl;exact absurd (ba_inj (by rw [List.isEmpty_iff.1 he,ba_toList] <;>rfl)) C2
 have K3:=r_sign (p:=a0.2) B3a
 have C4_:(sgR a0.2==0)=false:=by simpa using C4
 have C4_n:(sgR a0.2 !=0)=true:=by simpa using C4
 simp only [ratV] at K5
 unfold run fnP
 simp+decide [Tryz.f43,C2_,C2_n,C2_i,K3,C4_,C4_n,K5,K6]
 rw [loopX_G (C':=ftx_C3) (e:=(ftx_h3 a0 (⟨#[]⟩:ByteArray) 0)) ?_ ?_,L1]
 rotate_left
 ·kernel_rfl
 ·simp+decide [ftx_h3,C2_,C2_n,C2_i,K3,C4_,C4_n,K5,K6]
 simp+decide [ftx_o3a,C2_,C2_n,C2_i,K3,C4_,C4_n,K5,K6]
theorem ftx_f3(C2:¬str_3=(⟨#[]⟩:ByteArray))(B3a:H a0.2≤17179869184)(C4:sgR a0.2=0):
  run (n+6) 43 [formV a0]=some (.lit (.string str_3)):=by
 have C2_:(str_3.toList==(⟨#[]⟩:ByteArray).toList)=false:=by rw [beq_eq_false_iff_ne];exact fun h=>C2 (ba_inj h)
 have C2_n:(str_3.toList !=(⟨#[]⟩:ByteArray).toList)=true:=by rw [bne,C2_];rfl
 have C2_i:str_3.toList.isEmpty=false:=by rcases he:str_3.toList.isEmpty with _|_;rfl;exact absurd (ba_inj (by rw [List.isEmpty_iff.1 he,ba_toList] <;>rfl)) C2
 have K3:=r_sign (p:=a0.2) B3a
 have C4_:(sgR a0.2==0)=true:=by rw [C4];simp
 have C4_n:(sgR a0.2 !=0)=false:=by rw [C4];simp
 unfold run fnP
 simp+decide [Tryz.f43,C2_,C2_n,C2_i,K3,C4_,C4_n]
 rw [loopX_G (C':=ftx_C3) (e:=(ftx_h3 a0 (⟨#[]⟩:ByteArray) 0)) ?_ ?_,L1]
 rotate_left
 ·kernel_rfl
 ·simp+decide [ftx_h3,C2_,C2_n,C2_i,K3,C4_,C4_n]
 simp+decide [ftx_o3a,C2_,C2_n,C2_i,K3,C4_,C4_n]
end
end
end
section
open Go.RowKit
open Lib (decDigits)
attribute [local irreducible] run runL loopG exec
def prt(t:Int × Rat):List UInt8:=(if absT t.2=[49] then [] else absT t.2++[42])++120::decDigits t.1.toNat
def ngT(q:Rat):Bool:=(rawQ q).s
def txS(a:List UInt8)(t:Int × Rat):List UInt8:=jn a (ngT t.2) (prt t)
def txL(l:List (Int × Rat)):List UInt8:=l.foldl txS []
def txt(f:Form):List UInt8:=if f.2≠0∨txL f.1=[] then jn (txL f.1) (ngT f.2) (absT f.2) else txL f.1
theorem jn_ne{a p:List UInt8}{neg:Bool}(h:p≠[]):jn a neg p≠[]:=by
 unfold jn
 split
 ·split
  ·simp
  ·exact h
 ·intro e
  have e2:=(List.append_eq_nil_iff.1 e).1
  contradiction
theorem prt_ne(t:Int × Rat):prt t≠[]:=fun e=>by
 have:=(List.append_eq_nil_iff.1 e).2
 cases this
theorem absT_ne(q:Rat):absT q≠[]:=fun e=>dd_ne _ (List.append_eq_nil_iff.1 e).1
theorem txL_snoc(l:List (Int × Rat))(t:Int × Rat):txL (l++[t])=txS (txL l) t:=by
 unfold txL
 rw [List.foldl_append]
 rfl
structure TxB (f:Form):Prop where
 l:f.1.length≤100
 t:∀t∈f.1,H t.2≤100∧0≤t.1∧t.1<9223372036854775808
 k:H f.2≤100
theorem dd_small{K m:Nat}(h:(lmb K).length≤m):(decDigits K).length≤32*m+1:=by
 have hb:K<2 ^ (32*(lmb K).length):=by
  have:=val_lt (lim_lmb K)
  rw [val_lmb] at this
  rwa [Nat.pow_mul]
 have:=dd_bits _ K hb
 omega
theorem absT_len2{q:Rat}(h:H q≤100):(absT q).length≤6500:=by
 have a1:(lmb q.num.natAbs).length≤H q:=Nat.le_max_left _ _
 have a2:(lmb q.den).length≤H q:=Nat.le_max_right _ _
 have h1:=dd_small (K:=q.num.natAbs) (m:=100) (by omega)
 have h2:=dd_small (K:=q.den) (m:=100) (by omega)
 unfold absT
 rw [List.length_append]
 split
 ·simp;omega
 ·simp;omega
theorem prt_len{t:Int × Rat}(h:H t.2≤100)(h0:0≤t.1)(h1:t.1<9223372036854775808):(prt t).length≤6700:=by
 have a1:=absT_len2 h
 have a2:(lmb t.1.toNat).length≤2:=lmb_len_le (by omega)
 have a3:=dd_small a2
 unfold prt
 rw [List.length_append,List.length_cons]
 split
 ·simp;omega
 ·rw [List.length_append];simp;omega
theorem txS_len{a:List UInt8}{t:Int × Rat}(h:H t.2≤100∧0≤t.1∧t.1<9223372036854775808):(txS a t).length≤a.length+6703:=by
 have:=jn_len a (ngT t.2) (prt t)
 have:=prt_len h.1 h.2.1 h.2.2
 unfold txS
 omega
theorem txL_len:∀{l:List (Int × Rat)} {a:List UInt8},(∀t∈l,H t.2≤100∧0≤t.1∧t.1<9223372036854775808)→(l.foldl txS a).length≤a.length+l.length*6703
 | [],a,_=>by simp
 | t::l,a,h=>by
   have h1:=txS_len (a:=a) (h t (by simp))
   have h2:=txL_len (l:=l) (a:=txS a t) (fun u hu=>h u (by simp [hu]))
   rw [List.foldl_cons,List.length_cons,Nat.add_mul]
   omega
theorem jn_e0(p:List UInt8):jn [] false p=p:=by simp [jn]
theorem jn_e1(p:List UInt8):jn [] true p=45::p:=by simp [jn]
theorem jn_n0{a:List UInt8}(h:a≠[])(p:List UInt8):jn a false p=a++[32,43,32]++p:=by simp [jn,h]
theorem jn_n1{a:List UInt8}(h:a≠[])(p:List UInt8):jn a true p=a++[32,45,32]++p:=by simp [jn,h]
section
variable {n : Nat}
theorem partE0{neg:Bool}{p:List UInt8}(hs:neg=false)(hp:p.length≤90000000):runL (n+6) 101 [.lit (.bool neg),.lit (.string (bs p)),.ptr 0 0] [.box 139 [.lit (.pointer none),.nl 1] false]=some (.tup [],[(0,.box 139 [.ptr 0 0,.own 1 (bs (jn [] neg p)).size] false),(1,.row 5 1 (strEls (bs (jn [] neg p))) 0)]):=by
 subst hs
 rw [jn_e0]
 exact bpart_0 (n:=n+4) (roomy_s (by rw [bs_size];omega) (by omega))
theorem partE1{neg:Bool}{p:List UInt8}(hs:neg=true)(hp:p.length≤90000000):runL (n+6) 101 [.lit (.bool neg),.lit (.string (bs p)),.ptr 0 0] [.box 139 [.lit (.pointer none),.nl 1] false]=some (.tup [],[(0,.box 139 [.ptr 0 0,.own 2 (bs (jn [] neg p)).size] false),(2,.row 5 1 (strEls (bs (jn [] neg p))) 0)]):=by
 subst hs
 have h:=bpart_1 (n:=n+4) (s:=bs p) (roomy_s (by omega) (by omega)) (roomy_s (by rw [bs_size];omega) (by omega))
 have h1:(⟨#[45]⟩:ByteArray)++bs p=bs (45::p):=bs_app [45] p
 have h2:1+(bs p).size=(bs (45::p)).size:=by rw [bs_size,bs_size,List.length_cons];omega
 rw [h1,h2] at h
 rw [jn_e1]
 exact h
theorem partN{a p:List UInt8}{neg:Bool}(ha:a≠[])(hp:a.length+p.length≤90000000):runL (n+6) 101 [.lit (.bool neg),.lit (.string (bs p)),.ptr 0 0] [.box 139 [.ptr 0 0,.own 1 (bs a).size] false,.row 5 1 (strEls (bs a)) 0]=some (.tup [],[(0,.box 139 [.ptr 0 0,.own 3 (bs (jn a neg p)).size] false),(3,.row 5 1 (strEls (bs (jn a neg p))) 0)]):=by
 have hs:0<(bs a).size:=by rw [bs_size];exact List.length_pos_iff.2 ha
 have c2:(⟨#[32,45,32]⟩:ByteArray)=bs [32,45,32]:=rfl
 have c3:(⟨#[32,43,32]⟩:ByteArray)=bs [32,43,32]:=rfl
 cases neg with
 | false=>
   have h:=bpart_2 (n:=n+4) (a:=bs a) (s:=bs p) hs (roomy_s (by rw [bs_size];omega) (by omega)) (roomy_s (by rw [bs_size,bs_size];omega) (by omega))
   have h2:(bs a).size+3+(bs p).size=(bs (a++[32,43,32]++p)).size:=by rw [bs_size,bs_size,bs_size,List.length_append,List.length_append];rfl
   rw [c3,bs_app,bs_app,h2] at h
   rw [jn_n0 ha]
   exact h
 | true=>
   have h:=bpart_3 (n:=n+4) (a:=bs a) (s:=bs p) hs (roomy_s (by rw [bs_size];omega) (by omega)) (roomy_s (by rw [bs_size,bs_size];omega) (by omega))
   have h2:(bs a).size+3+(bs p).size=(bs (a++[32,45,32]++p)).size:=by rw [bs_size,bs_size,bs_size,List.length_append,List.length_append];rfl
   rw [c2,bs_app,bs_app,h2] at h
   rw [jn_n1 ha]
   exact h
theorem bstr_c{a:List UInt8}(ha:a≠[])(hl:a.length≤90000000):runL (n+6) 105 [.ptr 0 0] [.box 139 [.ptr 0 0,.own 1 (bs a).size] false,.row 5 1 (strEls (bs a)) 0]=some (.lit (.string (bs a)),[(0,.box 139 [.ptr 0 0,.own 1 (bs a).size] false)]):=
 bstr_1 (n:=n+6) (by rw [bs_size];exact List.length_pos_iff.2 ha) (by rw [bs_size];omega)
theorem k_itoa{v:Int}(h0:0≤v)(h1:v<9223372036854775808):oItoa [.lit (.int .i64 v)]=some (.lit (.string (bs (decDigits v.toNat)))):=by
 simp only [oItoa]
 rw [if_pos ⟨by omega,by omega⟩]
 have e:Lib.itoa v=decDigits v.toNat:=by
  unfold Lib.itoa
  rw [if_neg (by omega)]
 rw [e]
 rfl
theorem prt_bs{t:Int × Rat}:(absT t.2=[49]→bs (prt t)=(⟨#[120]⟩:ByteArray)++bs (decDigits t.1.toNat))∧(absT t.2≠[49]→bs (prt t)=(bs (absT t.2)++(⟨#[42]⟩:ByteArray))++((⟨#[120]⟩:ByteArray)++bs (decDigits t.1.toNat))):=by
 have c1:(⟨#[120]⟩:ByteArray)=bs [120]:=rfl
 have c2:(⟨#[42]⟩:ByteArray)=bs [42]:=rfl
 unfold prt
 refine ⟨fun h=>?_,fun h=>?_⟩
 ·rw [if_pos h,c1,bs_app];rfl
 ·rw [if_neg h,c1,c2,bs_app,bs_app,bs_app];rfl
theorem ltx_c{f:Form}(hf:TxB f):run (n+7) 47 [formV f]=some (.lit (.string (bs (txt f)))):=by
 have hl:=hf.l
 have hT:∀i,i≤f.1.length→(txL (f.1.take i)).length≤i*6703:=fun i hi=>by
  have h:=txL_len (l:=f.1.take i) (a:=[]) (fun t ht=>hf.t t (List.mem_of_mem_take ht))
  rw [List.length_take] at h
  simp only [List.length_nil,Nat.zero_add] at h
  have:min i f.1.length*6703=i*6703:=by rw [Nat.min_eq_left hi]
  unfold txL
  omega
 obtain ⟨b,hL,hI1,hI2⟩:=loopG_R (O:=tab (n+7)) (P:= Tryz.prog) (m:=0) (N:=55) (lives:=livesOf 47) (r:=4) (C:=ltx_C4) (exN:=.exit 0) (M:=f.1.length)
  (enc:=fun i (b:List UInt8)=>if b=[] then ltx_h4 f i else ltx_hN f i (bs b)) (out:=fun b=>if b=[] then ltx_o4a f else ltx_oN f (bs b))
  (fun i b=>b=txL (f.1.take i)∧i≤f.1.length) [] ⟨rfl,Nat.zero_le _⟩ (by omega) (fun h=>by cases h)
  (fun i b hi hI=>by
   obtain ⟨hb,hle⟩:=hI
   have hx:f.1[i]?=some f.1[i]:=List.getElem?_eq_getElem hi
   obtain ⟨t,ht⟩:∃t,f.1[i]=t:=⟨_,rfl⟩
   rw [ht] at hx
   have htk:f.1.take (i+1)=f.1.take i++[t]:=by rw [List.take_add_one,hx];rfl
   obtain ⟨v,q⟩:=t
   obtain ⟨hq,hv0,hv1⟩:=hf.t _ (List.mem_of_getElem? hx)
   dsimp only at hq hv0 hv1
   have hbl:=hT i hle
   rw [←hb] at hbl
   have hi6:i*6703≤100*6703:=Nat.mul_le_mul_right _ (by omega)
   have hpl:=prt_len (t:=(v,q)) hq hv0 hv1
   have hal:=absT_len2 hq
   have hdl:=dd_small (K:=v.toNat) (m:=2) (lmb_len_le (by omega))
   have K3:=k_itoa hv0 hv1
   have K5:=lsz_c (n:=n) (q:=q) (by omega)
   have C1:(i:Int)<(f.1.length:Int):=by omega
   have W:InI ((i:Int)+1):=⟨by omega,by omega⟩
   have e1:(⟨#[120]⟩:ByteArray).size=1:=rfl
   have e2:(⟨#[42]⟩:ByteArray).size=1:=rfl
   have c1:(⟨#[49]⟩:ByteArray)=bs [49]:=rfl
   have S4:(⟨#[120]⟩:ByteArray).size+(bs (decDigits v.toNat)).size≤9000000000000000000:=by rw [e1,bs_size];omega
   have S7:(bs (absT q)).size+(⟨#[42]⟩:ByteArray).size≤9000000000000000000:=by rw [e2,bs_size];omega
   have c4:(⟨#[120]⟩:ByteArray)++bs (decDigits v.toNat)=bs (120::decDigits v.toNat):=bs_app [120] _
   have c5:bs (absT q)++(⟨#[42]⟩:ByteArray)=bs (absT q++[42]):=bs_app _ [42]
   have S8:(bs (absT q)++(⟨#[42]⟩:ByteArray)).size+((⟨#[120]⟩:ByteArray)++bs (decDigits v.toNat)).size≤9000000000000000000:=by
    rw [c4,c5,bs_size,bs_size,List.length_append,List.length_cons];simp;omega
   have hne:jn b (rawQ q).s (prt (v,q))≠[]:=jn_ne (prt_ne _)
   refine ⟨jn b (rawQ q).s (prt (v,q)),?_,by rw [htk,txL_snoc,←hb];rfl,hi⟩
   rw [if_neg hne]
   by_cases h0:b=[]
   ·subst h0
    rw [if_pos rfl]
    rcases (Bool.eq_false_or_eq_true (rawQ q).s).symm with hs|hs
    ·have P0:=partE0 (n:=n) (p:=prt (v,q)) hs (by omega)
     by_cases h1:absT q=[49]
     ·have e:=prt_bs (t:=(v,q)).1 h1
      exact ltE1_2 C1 hx K3 S4 e K5 (by rw [h1];rfl) P0 W
     ·have e:=prt_bs (t:=(v,q)).2 h1
      exact ltE1_1 C1 hx K3 S4 rfl K5 (fun h=>h1 (bs_inj (h.trans c1))) S7 rfl S8 e P0 W
    ·have P0:=partE1 (n:=n) (p:=prt (v,q)) hs (by omega)
     by_cases h1:absT q=[49]
     ·have e:=prt_bs (t:=(v,q)).1 h1
      exact ltE2_2 C1 hx K3 S4 e K5 (by rw [h1];rfl) P0 W
     ·have e:=prt_bs (t:=(v,q)).2 h1
      exact ltE2_1 C1 hx K3 S4 rfl K5 (fun h=>h1 (bs_inj (h.trans c1))) S7 rfl S8 e P0 W
   ·rw [if_neg h0]
    have P0:=partN (n:=n) (a:=b) (p:=prt (v,q)) (neg:=(rawQ q).s) h0 (by omega)
    by_cases h1:absT q=[49]
    ·have e:=prt_bs (t:=(v,q)).1 h1
     exact ltN_2 C1 hx K3 S4 e K5 (by rw [h1];rfl) P0 W
    ·have e:=prt_bs (t:=(v,q)).2 h1
     exact ltN_1 C1 hx K3 S4 rfl K5 (fun h=>h1 (bs_inj (h.trans c1))) S7 rfl S8 e P0 W)
  (fun b hI=>by
   by_cases h0:b=[]
   ·rw [if_pos h0,if_pos h0];exact ltx_x4_1 (by omega)
   ·rw [if_neg h0,if_neg h0];exact ltN_x (by omega))
 rw [List.take_length] at hI1
 rw [if_pos rfl] at hL
 have hbl:=hT f.1.length (Nat.le_refl _)
 rw [List.take_length,←hI1] at hbl
 have hi6:f.1.length*6703≤100*6703:=Nat.mul_le_mul_right _ hl
 have hkl:=absT_len2 hf.k
 have K3:=lsz_c (n:=n) (q:=f.2) (by have:=hf.k;omega)
 have hn0:(0<((rawQ f.2).l1.length:Int))↔f.2≠0:=by
  have h9:(rawQ f.2).l1=lmb f.2.num.natAbs:=rfl
  rw [h9]
  constructor
  ·intro h e
   rw [e] at h
   simp [lmb_zero] at h
  ·intro h
   have:0<f.2.num.natAbs:=by
    rcases Nat.eq_zero_or_pos f.2.num.natAbs with h1|h1
    ·exact absurd (Rat.num_eq_zero.1 (Int.natAbs_eq_zero.1 h1)) h
    ·exact h1
   rw [lmb_pos this]
   simp
 unfold txt ngT
 rw [←hI1]
 have hne:jn b (rawQ f.2).s (absT f.2)≠[]:=jn_ne (absT_ne _)
 have hjl:=jn_len b (rawQ f.2).s (absT f.2)
 have Z:=bstr_c (n:=n) hne (by omega)
 by_cases h0:b=[]
 ·rw [if_pos (.inr h0)]
  subst h0
  rw [if_pos rfl] at hL
  by_cases h2:f.2=0
  ·have hs:(rawQ f.2).s=false:=by rw [h2];decide+kernel
   have P0:=partE0 (n:=n) (p:=absT f.2) hs (by omega)
   exact ltFE3 hL (fun h=>hn0.1 h h2) (blen_0 (n:=n+6)) rfl K3 P0 Z
  ·rcases (Bool.eq_false_or_eq_true (rawQ f.2).s).symm with hs|hs
   ·have P0:=partE0 (n:=n) (p:=absT f.2) hs (by omega)
    exact ltFE1 hL (hn0.2 h2) K3 P0 Z
   ·have P0:=partE1 (n:=n) (p:=absT f.2) hs (by omega)
    exact ltFE2 hL (hn0.2 h2) K3 P0 Z
 ·rw [if_neg h0] at hL
  by_cases h2:f.2=0
  ·rw [if_neg (fun h=>h.elim (fun h=>h h2) h0)]
   have L0:=blen_1 (n:=n+6) (k:=(bs b).size) (es:=strEls (bs b))
   exact ltFN2 hL (fun h=>hn0.1 h h2) L0 (by rw [bs_size];have:=List.length_pos_iff.2 h0;omega) (bstr_c (n:=n) h0 (by omega))
  ·rw [if_pos (.inl h2)]
   exact ltFN1 hL (hn0.2 h2) K3 (partN (n:=n) h0 (by omega)) Z
theorem ftx_c{f:Form}(hf:TxB f):run (n+6) 43 [formV f]=some (.lit (.string (bs (txt f)))):=by
 have hl:=hf.l
 have hT:∀i,i≤f.1.length→(txL (f.1.take i)).length≤i*6703:=fun i hi=>by
  have h:=txL_len (l:=f.1.take i) (a:=[]) (fun t ht=>hf.t t (List.mem_of_mem_take ht))
  rw [List.length_take] at h
  simp only [List.length_nil,Nat.zero_add] at h
  have:min i f.1.length*6703=i*6703:=by rw [Nat.min_eq_left hi]
  unfold txL
  omega
 obtain ⟨b,hL,hI1,hI2⟩:=loopG_R (O:=tab (n+6)) (P:= Tryz.prog) (m:=0) (N:=55) (lives:=livesOf 43) (r:=3) (C:=ftx_C3) (exN:=.exit 0) (M:=f.1.length)
  (enc:=fun i (b:List UInt8)=>ftx_h3 f (bs b) i) (out:=fun b=>ftx_o3a f (bs b))
  (fun i b=>b=txL (f.1.take i)∧i≤f.1.length) [] ⟨rfl,Nat.zero_le _⟩ (by omega) (fun h=>by cases h)
  (fun i b hi hI=>by
   obtain ⟨hb,hle⟩:=hI
   have hx:f.1[i]?=some f.1[i]:=List.getElem?_eq_getElem hi
   obtain ⟨t,ht⟩:∃t,f.1[i]=t:=⟨_,rfl⟩
   rw [ht] at hx
   have htk:f.1.take (i+1)=f.1.take i++[t]:=by rw [List.take_add_one,hx];rfl
   obtain ⟨v,q⟩:=t
   obtain ⟨hq,hv0,hv1⟩:=hf.t _ (List.mem_of_getElem? hx)
   dsimp only at hq hv0 hv1
   have hbl:=hT i hle
   rw [←hb] at hbl
   have hi6:i*6703≤100*6703:=Nat.mul_le_mul_right _ (by omega)
   have hpl:=prt_len (t:=(v,q)) hq hv0 hv1
   have hal:=absT_len2 hq
   have hv2:(lmb v.toNat).length≤2:=lmb_len_le (by omega)
   have hdl:=dd_small (K:=v.toNat) (m:=2) hv2
   have K3:=fab_c (n:=n) (q:=q) (by omega)
   have K8:=k_ofu (z:=v) hv0 (by omega)
   have K9:=fdg_c (n:=n+1) (K:=v.toNat) (by omega)
   have C1:(i:Int)<(f.1.length:Int):=by omega
   have W:InI ((i:Int)+1):=⟨by omega,by omega⟩
   have w7:IntKind.u64.wrap v=v:=by rw [wrapU64];omega
   have e1:(⟨#[120]⟩:ByteArray).size=1:=rfl
   have e2:(⟨#[42]⟩:ByteArray).size=1:=rfl
   have c1:(⟨#[49,42]⟩:ByteArray)=bs [49,42]:=rfl
   have S4:(bs (absT q)).size+(⟨#[42]⟩:ByteArray).size≤9000000000000000000:=by rw [e2,bs_size];omega
   have c5:bs (absT q)++(⟨#[42]⟩:ByteArray)=bs (absT q++[42]):=bs_app _ [42]
   have c6:(⟨#[]⟩:ByteArray)++(⟨#[120]⟩:ByteArray)=bs [120]:=bs_app [] [120]
   have c7:bs (absT q++[42])++(⟨#[120]⟩:ByteArray)=bs (absT q++[42]++[120]):=bs_app _ [120]
   have J:=fjn_c (n:=n+5) (a:=b) (p:=prt (v,q)) (neg:=(rawQ q).s) (by omega)
   refine ⟨jn b (rawQ q).s (prt (v,q)),?_,by rw [htk,txL_snoc,←hb];rfl,hi⟩
   by_cases h1:absT q=[49]
   ·have e:bs (prt (v,q))=bs [120]++bs (decDigits v.toNat):=by
     rw [bs_app];unfold prt;rw [if_pos h1];rfl
    exact ftx_r3_1 C1 hx K3 S4 rfl (by rw [h1];rfl) (by decide) c6.symm w7 K8 K9 (by rw [bs_size,bs_size,List.length_singleton];omega) e J W
   ·have e:bs (prt (v,q))=bs (absT q++[42]++[120])++bs (decDigits v.toNat):=by
     rw [bs_app];unfold prt;rw [if_neg h1];simp
    refine ftx_r3_2 C1 hx K3 S4 c5.symm (fun h=>h1 ?_) (by rw [bs_size,e1,List.length_append];simp;omega) c7.symm w7 K8 K9 (by rw [bs_size,bs_size,List.length_append,List.length_append];simp;omega) e J W
    have h9:=bs_inj (h.trans c1)
    have h8:absT q++[42]=[49]++[42]:=h9
    exact List.append_cancel_right h8)
  (fun b hI=>ftx_x3_1 (by omega))
 rw [List.take_length] at hI1
 have hbl:=hT f.1.length (Nat.le_refl _)
 rw [List.take_length,←hI1] at hbl
 have hi6:f.1.length*6703≤100*6703:=Nat.mul_le_mul_right _ hl
 have hkl:=absT_len2 hf.k
 have hk:=hf.k
 have K3:=fab_c (n:=n) (q:=f.2) (by omega)
 have J:=fjn_c (n:=n+5) (a:=b) (p:=absT f.2) (neg:=(rawQ f.2).s) (by omega)
 unfold txt ngT
 rw [←hI1]
 by_cases h0:b=[]
 ·rw [if_pos (.inr h0)]
  exact ftx_f1 hL (by rw [h0];rfl) K3 J
 ·by_cases h2:f.2=0
  ·rw [if_neg (fun h=>h.elim (fun h=>h h2) h0)]
   exact ftx_f3 hL (bs_ne h0) (by omega) (sgR_eq_zero.2 h2)
  ·rw [if_pos (.inl h2)]
   exact ftx_f2 hL (bs_ne h0) (by omega) (fun h=>h2 (sgR_eq_zero.1 h)) K3 J
end
end
section
open Go.RowKit
def Srt(F:List (Int × Rat)):Prop:=F.Pairwise (fun a b=>a.1<b.1)∧∀t∈F,t.2≠0
def LBd(k:Int)(F:List (Int × Rat)):Prop:=∀t∈F,k<t.1
def cof:List (Int × Rat)→Int→Rat
 | [],_=>0
 | t::l,u=>if t.1=u then t.2 else cof l u
theorem cof_nil(u:Int):cof [] u=0:=rfl
theorem cof_hd{t:Int × Rat}{F:List (Int × Rat)}{u:Int}(h:u=t.1):cof (t::F) u=t.2:=by unfold cof;rw [if_pos h.symm]
theorem cof_tl{t:Int × Rat}{F:List (Int × Rat)}{u:Int}(h:u≠t.1):cof (t::F) u=cof F u:=by rw [cof,if_neg fun e=>h e.symm]
theorem Srt.nil:Srt []:=⟨List.Pairwise.nil,fun t ht=>by cases ht⟩
theorem Srt.tail{t:Int × Rat}{F:List (Int × Rat)}(h:Srt (t::F)):Srt F:=⟨(List.pairwise_cons.1 h.1).2,fun u hu=>h.2 u (by simp [hu])⟩
theorem Srt.head{t:Int × Rat}{F:List (Int × Rat)}(h:Srt (t::F)):LBd t.1 F:=fun u hu=>(List.pairwise_cons.1 h.1).1 u hu
theorem Srt.nz{t:Int × Rat}{F:List (Int × Rat)}(h:Srt (t::F)):t.2≠0:=h.2 t (by simp)
theorem cof_low:∀{F:List (Int × Rat)} {u:Int},(∀t∈F,t.1≠u)→cof F u=0
 | [],_,_=>rfl
 | t::F,u,h=>by rw [cof,if_neg (h t (by simp))];exact cof_low fun x hx=>h x (by simp [hx])
theorem LBd.cof{F:List (Int × Rat)}{k u:Int}(h:LBd k F)(hu:u≤k):cof F u=0:=cof_low fun t ht e=>by have:=h t ht;omega
theorem LBd.mono{F:List (Int × Rat)}{k j:Int}(h:LBd k F)(hj:j≤k):LBd j F:=fun t ht=>by have:=h t ht;omega
theorem put_srt{F:List (Int × Rat)}{v:Int}{q:Rat}(h:Srt F)(hl:LBd v F):Srt (put1 v q++F)∧(∀u,cof (put1 v q++F) u=if u=v then q else cof F u)∧∀k,k<v→LBd k (put1 v q++F):=by
 unfold put1
 split
 ·rename_i h0
  rw [List.nil_append]
  refine ⟨h,fun u=>?_,fun k hk=>hl.mono (by omega)⟩
  split
  ·rename_i e;subst e;rw [hl.cof (Int.le_refl _),h0]
  ·rfl
 ·rename_i h0
  refine ⟨⟨List.pairwise_cons.2 ⟨fun x hx=>hl x hx,h.1⟩,fun t ht=>?_⟩,fun u=>?_,fun k hk t ht=>?_⟩
  ·rcases List.mem_cons.1 ht with rfl|ht
   ·exact h0
   ·exact h.2 t ht
  ·show cof ((v,q)::F) u=_
   rw [cof]
   by_cases e:v=u
   ·rw [if_pos e,if_pos e.symm]
   ·rw [if_neg e,if_neg fun e2=>e e2.symm]
  ·rcases List.mem_cons.1 ht with rfl|ht
   ·exact hk
   ·have:=hl t ht;omega
theorem srt_ext:∀{F G:List (Int × Rat)},Srt F→Srt G→(∀u,cof F u=cof G u)→F=G
 | [],[],_,_,_=>rfl
 | [],t::G,_,hg,h=>by
   have:=h t.1
   rw [cof_nil,cof_hd rfl] at this
   exact absurd this.symm hg.nz
 | t::F,[],hf,_,h=>by
   have:=h t.1
   rw [cof_nil,cof_hd rfl] at this
   exact absurd this hf.nz
 | (v,q)::F,(u,p)::G,hf,hg,h=>by
   have e:v=u:=by
    rcases Int.lt_trichotomy v u with h1|h1|h1
    ·have h2:=h v
     rw [cof_hd rfl,cof_tl (by dsimp only;omega),hg.head.cof (by dsimp only;omega)] at h2
     exact absurd h2 hf.nz
    ·exact h1
    ·have h2:=h u
     rw [cof_tl (by dsimp only;omega),hf.head.cof (by dsimp only;omega),cof_hd rfl] at h2
     exact absurd h2.symm hg.nz
   subst e
   have e2:q=p:=by
    have h2:=h v
    rw [cof_hd rfl,cof_hd rfl] at h2
    exact h2
   subst e2
   rw [srt_ext hf.tail hg.tail fun u=>?_]
   by_cases e:u=v
   ·subst e
    rw [hf.head.cof (Int.le_refl _),hg.head.cof (Int.le_refl _)]
   ·have h2:=h u
    rw [cof_tl e,cof_tl e] at h2
    exact h2
theorem plus_done{F:List (Int × Rat)}{v:Int}{c:Rat}(h:LBd v F)(hz:∀t∈F,t.2≠0):plusV true F v c=F:=by
 induction F with
 | nil=>rfl
 | cons t F ih=>
   have h1:=h t (by simp)
   rw [plusV_lt (by omega) (.inl rfl),ih (fun x hx=>h x (by simp [hx])) fun x hx=>hz x (by simp [hx])]
   unfold put1
   rw [if_neg (hz t (by simp))]
   rfl
theorem put_one{t:Int × Rat}{F:List (Int × Rat)}(h:t.2≠0):put1 t.1 t.2++F=t::F:=by unfold put1;rw [if_neg h];rfl
theorem plus_srt{v:Int}{c:Rat}:∀{F:List (Int × Rat)},Srt F→Srt (plusV false F v c)∧(∀u,cof (plusV false F v c) u=cof F u+if u=v then c else 0)∧∀k,k<v→LBd k F→LBd k (plusV false F v c)
 | [],h=>by
   have e:plusV false [] v c=put1 v c++[]:=by rw [List.append_nil];rfl
   rw [e]
   obtain ⟨h1,h2,h3⟩:=put_srt (v:=v) (q:=c) h (fun t ht=>by cases ht)
   refine ⟨h1,fun u=>?_,fun k hk _=>h3 k hk⟩
   rw [h2,cof_nil]
   split <;>grind
 | t::F,h=>by
   have hd:=h.head
   rcases Int.lt_trichotomy t.1 v with h1|h1|h1
   ·obtain ⟨a1,a2,a3⟩:=plus_srt (v:=v) (c:=c) h.tail
    rw [plusV_lt (by omega) (.inr h1)]
    obtain ⟨b1,b2,b3⟩:=put_srt (v:=t.1) (q:=t.2) a1 (a3 _ h1 hd)
    refine ⟨b1,fun u=>?_,fun k hk hl=>b3 k (hl t (by simp))⟩
    rw [b2,a2]
    by_cases e:u=t.1
    ·rw [if_pos e,cof_hd e,if_neg (by omega)];grind
    ·rw [if_neg e,cof_tl e]
   ·rw [plusV_eq h1,plus_done (by rw [←h1];exact hd) h.tail.2]
    obtain ⟨b1,b2,b3⟩:=put_srt (v:=t.1) (q:=t.2+c) h.tail hd
    refine ⟨b1,fun u=>?_,fun k hk hl=>b3 k (hl t (by simp))⟩
    rw [b2]
    by_cases e:u=t.1
    ·have e5:u=v:=by omega
     rw [if_pos e,if_pos e5,cof_hd e]
    ·have e5:¬u=v:=by omega
     rw [if_neg e,if_neg e5,cof_tl e];grind
   ·rw [plusV_gt h1,plus_done (hd.mono (by omega)) h.tail.2,put_one h.nz]
    obtain ⟨b1,b2,b3⟩:=put_srt (v:=v) (q:=c) h (fun x hx=>by
     rcases List.mem_cons.1 hx with rfl|hx
     ·exact h1
     ·have:=hd x hx;omega)
    refine ⟨b1,fun u=>?_,fun k hk hl=>b3 k hk⟩
    rw [b2]
    by_cases e:u=v
    ·have e3:cof (t::F) u=0:=cof_low fun x hx=>by
      rcases List.mem_cons.1 hx with rfl|hx
      ·omega
      ·have:=hd x hx;omega
     rw [if_pos e,if_pos e,e3]
     grind
    ·rw [if_neg e,if_neg e];grind
theorem add_srt:∀{G F:List (Int × Rat)},Srt F→Srt G→Srt (addV F G)∧∀u,cof (addV F G) u=cof F u+cof G u
 | [],F,hf,_=>⟨hf,fun u=>by rw [cof_nil];show cof F u=_;grind⟩
 | t::G,F,hf,hg=>by
   obtain ⟨a1,a2,_⟩:=plus_srt (v:=t.1) (c:=t.2) hf
   obtain ⟨b1,b2⟩:=add_srt a1 hg.tail
   refine ⟨b1,fun u=>?_⟩
   show cof (addV (plusV false F t.1 t.2) G) u=_
   rw [b2,a2]
   by_cases e:u=t.1
   ·rw [if_pos e,cof_hd e,hg.head.cof (by omega)];grind
   ·rw [if_neg e,cof_tl e];grind
theorem merge_srt{c:Rat}:∀(n:Nat) {F G:List (Int × Rat)},F.length+G.length≤n→Srt F→Srt G→Srt (mergeV F G c)∧(∀u,cof (mergeV F G c) u=cof F u+cof G u*c)∧∀k,LBd k F→LBd k G→LBd k (mergeV F G c)
 | n,[],[],_,hf,hg=>by rw [mergeV_nil];exact ⟨hf,fun u=>by rw [cof_nil];grind,fun k h _=>h⟩
 | 0,a::F,G,hn,_,_=>by simp at hn
 | 0,[],b::G,hn,_,_=>by simp at hn
 | n+1,a::F,[],hn,hf,hg=>by
   obtain ⟨a1,a2,a3⟩:=merge_srt (c:=c) n (F:=F) (G:=[]) (by simp at hn ⊢;omega) hf.tail hg
   rw [mergeV_a]
   obtain ⟨b1,b2,b3⟩:=put_srt (v:=a.1) (q:=a.2) a1 (a3 _ hf.head fun t ht=>by cases ht)
   refine ⟨b1,fun u=>?_,fun k h1 _=>b3 k (h1 a (by simp))⟩
   rw [b2,a2]
   by_cases e:u=a.1
   ·rw [if_pos e,cof_hd e,cof_nil];grind
   ·rw [if_neg e,cof_tl e]
 | n+1,[],b::G,hn,hf,hg=>by
   obtain ⟨a1,a2,a3⟩:=merge_srt (c:=c) n (F:=[]) (G:=G) (by simp at hn ⊢;omega) hf hg.tail
   rw [mergeV_b]
   obtain ⟨b1,b2,b3⟩:=put_srt (v:=b.1) (q:=b.2*c) a1 (a3 _ (fun t ht=>by cases ht) hg.head)
   refine ⟨b1,fun u=>?_,fun k _ h1=>b3 k (h1 b (by simp))⟩
   rw [b2,a2]
   by_cases e:u=b.1
   ·rw [if_pos e,cof_hd e,cof_nil];grind
   ·rw [if_neg e,cof_tl e]
 | n+1,a::F,b::G,hn,hf,hg=>by
   simp only [List.length_cons] at hn
   rcases Int.lt_trichotomy a.1 b.1 with h1|h1|h1
   ·obtain ⟨a1,a2,a3⟩:=merge_srt (c:=c) n (F:=F) (G:=b::G) (by simp;omega) hf.tail hg
    rw [mergeV_lt h1]
    obtain ⟨b1,b2,b3⟩:=put_srt (v:=a.1) (q:=a.2) a1 (a3 _ hf.head fun t ht=>by
     rcases List.mem_cons.1 ht with rfl|ht
     ·exact h1
     ·have:=hg.head t ht;omega)
    refine ⟨b1,fun u=>?_,fun k h2 _=>b3 k (h2 a (by simp))⟩
    rw [b2,a2]
    by_cases e:u=a.1
    ·have e3:cof (b::G) u=0:=cof_low fun x hx=>by
      rcases List.mem_cons.1 hx with rfl|hx
      ·omega
      ·have:=hg.head x hx;omega
     have e4:cof (a::F) u=a.2:=cof_hd e
     rw [if_pos e,e3,e4];grind
    ·have e4:cof (a::F) u=cof F u:=cof_tl e
     rw [if_neg e,e4]
   ·obtain ⟨a1,a2,a3⟩:=merge_srt (c:=c) n (F:=F) (G:=G) (by omega) hf.tail hg.tail
    rw [mergeV_eq h1]
    obtain ⟨b1,b2,b3⟩:=put_srt (v:=a.1) (q:=a.2+b.2*c) a1 (a3 _ hf.head (by rw [h1];exact hg.head))
    refine ⟨b1,fun u=>?_,fun k h2 _=>b3 k (h2 a (by simp))⟩
    rw [b2,a2]
    by_cases e:u=a.1
    ·rw [if_pos e,cof_hd e,cof_hd (u:=u) (by omega)]
    ·have e3:cof (b::G) u=cof G u:=cof_tl (by omega)
     have e4:cof (a::F) u=cof F u:=cof_tl e
     rw [if_neg e,e3,e4]
   ·obtain ⟨a1,a2,a3⟩:=merge_srt (c:=c) n (F:=a::F) (G:=G) (by simp;omega) hf hg.tail
    rw [mergeV_gt h1]
    obtain ⟨b1,b2,b3⟩:=put_srt (v:=b.1) (q:=b.2*c) a1 (a3 _ (fun t ht=>by
     rcases List.mem_cons.1 ht with rfl|ht
     ·exact h1
     ·have:=hf.head t ht;omega) hg.head)
    refine ⟨b1,fun u=>?_,fun k _ h2=>b3 k (h2 b (by simp))⟩
    rw [b2,a2]
    by_cases e:u=b.1
    ·have e3:cof (a::F) u=0:=cof_low fun x hx=>by
      rcases List.mem_cons.1 hx with rfl|hx
      ·omega
      ·have:=hf.head x hx;omega
     have e4:cof (b::G) u=b.2:=cof_hd e
     rw [if_pos e,e3,e4];grind
    ·have e4:cof (b::G) u=cof G u:=cof_tl e
     rw [if_neg e,e4]
theorem merge_scl(c:Rat):∀(F:List (Int × Rat)),mergeV [] F c=sclV F c
 | []=>mergeV_nil c
 | t::F=>by rw [mergeV_b,merge_scl c F];simp [sclV]
theorem scl_srt{F:List (Int × Rat)}{c:Rat}(h:Srt F):Srt (sclV F c)∧∀u,cof (sclV F c) u=cof F u*c:=by
 rw [←merge_scl]
 obtain ⟨a1,a2,_⟩:=merge_srt (c:=c) _ (Nat.le_refl _) Srt.nil h
 exact ⟨a1,fun u=>by rw [a2,cof_nil];grind⟩
theorem merge_add{F G:List (Int × Rat)}{c:Rat}(hf:Srt F)(hg:Srt G):mergeV F G c=addV F (sclV G c):=by
 obtain ⟨a1,a2,_⟩:=merge_srt (c:=c) _ (Nat.le_refl _) hf hg
 obtain ⟨b1,b2⟩:=scl_srt (c:=c) hg
 obtain ⟨d1,d2⟩:=add_srt hf b1
 exact srt_ext a1 d1 fun u=>by rw [a2,d2,b2]
theorem OkFm.srt{f:Form}{vars:Int}(h:OkFm f vars):Srt f.1∧∀t∈f.1,0≤t.1∧t.1<vars:=by
 have key:∀(i:Nat) (hi:i<f.1.length),0≤(f.1[i]).1∧(f.1[i]).1<vars∧(f.1[i]).2≠0∧∀(h0:0<i),(f.1[i-1]'(by omega)).1<(f.1[i]).1:=fun i hi=>by
  obtain ⟨a1,a2,a3,a4⟩:=h i hi (f.1[i]).1 (f.1[i]).2 (List.getElem?_eq_getElem hi)
  exact ⟨a1,a2,a3,fun h0=>a4 _ (f.1[i-1]'(by omega)).2 h0 (List.getElem?_eq_getElem _)⟩
 have ord:∀(j i:Nat) (hj:j<f.1.length) (hij:i<j),(f.1[i]'(by omega)).1<(f.1[j]).1:=fun j=>by
  induction j with
  | zero=>intro i hj hij;omega
  | succ j ih=>
    intro i hj hij
    have h1:=(key (j+1) hj).2.2.2 (by omega)
    have h2:(f.1[j+1-1]'(by omega))=f.1[j]'(by omega):=rfl
    rw [h2] at h1
    by_cases e:i=j
    ·subst e;exact h1
    ·have:=ih i (by omega) (by omega);omega
 refine ⟨⟨List.pairwise_iff_getElem.2 fun i j hi hj hij=>ord j i hj hij,fun t ht=>?_⟩,fun t ht=>?_⟩
 ·obtain ⟨i,hi,rfl⟩:=List.getElem_of_mem ht
  exact (key i hi).2.2.1
 ·obtain ⟨i,hi,rfl⟩:=List.getElem_of_mem ht
  exact ⟨(key i hi).1,(key i hi).2.1⟩
end
end Go.Proofs.YtnegdhjdienjlaaGreatDoor
