import Derived.Test.YtnegdhjdienjlaaGreatDoorGP23
import Derived.Test.YtnegdhjdienjlaaGreatDoorGP21
import Derived.Test.YtnegdhjdienjlaaGreatDoorGP20
import Derived.Test.YtnegdhjdienjlaaGreatDoorGP22
set_option linter.all false
set_option maxHeartbeats 6400000
set_option maxRecDepth 100000
namespace Go.Proofs.YtnegdhjdienjlaaGreatDoor
section
open Go.RowKit
open Lib (decDigits)
attribute [local irreducible] run runL loopG exec
theorem isD_num(c:UInt8):isD c=true↔48≤c.toNat∧c.toNat≤57:=by unfold isD;exact decide_eq_true_iff
theorem wrU{z:Int}(h0:0≤z)(h1:z<18446744073709551616):IntKind.u64.wrap z=z:=by
 have:IntKind.u64.wrap z=z % 18446744073709551616:=rfl
 rw [this];omega
theorem wrB{z:Int}(h0:0≤z)(h1:z≤255):IntKind.u8.wrap z=z:=by
 have:IntKind.u8.wrap z=z % 256:=rfl
 rw [this];omega
theorem kq{b:Bool}{a d:Nat}(ha:(lmb a).length≤1000000)(hd:(lmb d).length≤1000000)(h0:0<d):oQt [.lit (.bool b),natA (lmb a),natA (lmb d)]=some (ratV (qv b a d)):=by
 have h9:Nat.blt 0 d=true:=Nat.ble_eq_true_of_le h0
 simp only [oQt,decN_nat (lim_lmb _),val_lmb]
 rw [if_pos (by rw [few_lmb ha,few_lmb hd,h9];rfl)]
 rfl
theorem kmul{a b:Nat}(ha:(lmb a).length≤1000000)(hb:(lmb b).length≤1000000):(oN2 fun x y=>natA (lmb (val x*val y))) [natA (lmb a),natA (lmb b)]=some (natA (lmb (a*b))):=by
 rw [oN2_raw (lim_lmb a) (lim_lmb b) (few_lmb ha) (few_lmb hb),val_lmb,val_lmb]
theorem kadd{a b:Nat}(ha:(lmb a).length≤1000000)(hb:(lmb b).length≤1000000):(oN2 fun x y=>natA (lmb (val x+val y))) [natA (lmb a),natA (lmb b)]=some (natA (lmb (a+b))):=by
 rw [oN2_raw (lim_lmb a) (lim_lmb b) (few_lmb ha) (few_lmb hb),val_lmb,val_lmb]
theorem lmb0{k:Nat}:(lmb k).length=0↔k=0:=by rw [List.length_eq_zero_iff];exact lmb_eq_nil
theorem imk_c{n k:Nat}{s:Bool}(hk:(lmb k).length≤1000000):run (n+2) 152 [.lit (.bool s),natA (lmb k)]=some (.agg [.lit (.bool (s && decide (0<k))),natA (lmb k)]):=by
 have K:=k_make hk
 cases s with
 | false=>exact imk_f2 K rfl
 | true=>
   have R:=imk_f1 (n:=n) (a0:=true) K rfl
   have e:decide (0<((lmb k).length:Int))=(true && decide (0<k)):=by
    rw [Bool.true_and]
    apply decide_eq_decide.2
    have:=@lmb0 k
    omega
   rw [e] at R
   exact R
theorem qv_s(s:Bool)(a d:Nat):qv (s && decide (0<a)) a d=qv s a d:=by
 unfold qv
 cases s with
 | false=>rfl
 | true=>
   by_cases h:0<a
   ·rw [decide_eq_true h];rfl
   ·have:a=0:=by omega
    subst this
    rfl
theorem rmk_c{n a d:Nat}{s:Bool}(ha:(lmb a).length≤1000000)(hd:(lmb d).length≤1000000):
  run (n+6) 151 [.agg [.lit (.bool (s && decide (0<a))),natA (lmb a)],.agg [.lit (.bool (false && decide (0<d))),natA (lmb d)]]=some (if d=0 then .tup [ratV 0,.lit (.int .i64 3)] else .tup [ratV (qv s a d),.lit (.int .i64 0)]):=by
 have K:fISgn [.agg [.lit (.bool (false && decide (0<d))),natA (lmb d)]]=some (.lit (.int .i64 (iv (false && decide (0<d)) (lmb d)).sign)):=oI1_raw (lim_lmb _) (few_lmb hd)
 have e:iv (false && decide (0<d)) (lmb d)=(d:Int):=by
  show (if false=true then _ else _)=_
  rw [if_neg (by simp),val_lmb]
 rw [e] at K
 by_cases h:d=0
 ·rw [if_pos h]
  have R:=rmk_f1 (n:=n) (a0:=⟨s && decide (0<a),lmb a⟩) (a1:=⟨false && decide (0<d),lmb d⟩) K (by rw [h];rfl)
  rw [R]
  simp
 ·rw [if_neg h]
  have hs:(d:Int).sign=1:=Int.sign_eq_one_of_pos (by omega)
  have Q:=kq (b:=!((s && decide (0<a))==(false && decide (0<d)))) ha hd (Nat.pos_of_ne_zero h)
  have e2:(!((s && decide (0<a))==(false && decide (0<d))))=(s && decide (0<a)):=by
   rw [Bool.false_and];cases (s && decide (0<a)) <;>rfl
  have R:=rmk_f2 (n:=n) (a0:=⟨s && decide (0<a),lmb a⟩) (a1:=⟨false && decide (0<d),lmb d⟩) K (by rw [hs];decide) Q
  rw [R,e2,qv_s]
theorem dgV_app(A B:List UInt8)(n:Nat):dgV (A++B) n=dgV B (dgV A n):=List.foldl_append ..
theorem dgV_lin:∀(B:List UInt8) (n:Nat),dgV B n=n*10 ^ B.length+dgV B 0
 | [],n=>by simp [dgV]
 | c::B,n=>by
   have e1:∀m,dgV (c::B) m=dgV B (m*10+(c.toNat-48)):=fun m=>rfl
   rw [e1,e1,dgV_lin B (n*10+_),dgV_lin B (0*10+_),List.length_cons,Nat.pow_succ,Nat.zero_mul,Nat.zero_add,Nat.add_mul,Nat.mul_assoc,Nat.mul_comm 10,Nat.add_assoc]
theorem byL_len(C:List UInt8):(byL (bs C)).length=C.length:=by unfold byL;rw [bs_data,List.length_map]
theorem byL_at{C:List UInt8}{i:Nat}{c:UInt8}(h:C[i]?=some c):(byL (bs C))[i]?=some (c.toNat:Int):=by unfold byL;rw [bs_data,List.getElem?_map,h];rfl
section
variable {n : Nat}
theorem dva_in{str:ByteArray}{nat:List Nat}{C:List UInt8}(hC:∀c∈C,isD c=true)(hl:C.length≤9):
  loopG Tryz.prog (tab (n+2)) 0 44 (livesOf 149) 6 dva_C6 (dva_h6 str nat 0 1 (bs C) 0)=some (.exit 2,dva_o6a str nat (dgV C 0:Nat) ((10 ^ C.length:Nat):Int)):=by
 obtain ⟨b,L,hb,_⟩:=loopG_R (β:=Int × Int) (O:=tab (n+2)) (P:= Tryz.prog) (m:=0) (N:=44) (lives:=livesOf 149) (r:=6) (C:=dva_C6) (M:=C.length) (enc:=fun i b=>dva_h6 str nat b.1 b.2 (bs C) i) (exN:=.exit 2) (out:=fun b=>dva_o6a str nat b.1 b.2)
  (fun i b=>b=(((dgV (C.take i) 0:Nat):Int),((10 ^ i:Nat):Int))∧i≤C.length) (0,1) ⟨rfl,by omega⟩ (by omega) (fun h=>by cases h)
  (fun i b hi hI=>by
   obtain ⟨rfl,_⟩:=hI
   have hx:C[i]?=some C[i]:=List.getElem?_eq_getElem hi
   have ht:C.take (i+1)=C.take i++[C[i]]:=List.take_succ_eq_append_getElem hi
   have hm:C[i]∈C:=List.getElem_mem hi
   generalize C[i]=x at hx ht hm
   have hd:=(isD_num x).1 (hC x hm)
   have hb:=dgV_lt0 (C.take i) 0 0 (fun c hc=>hC c (List.mem_of_mem_take hc)) (by decide)
   have hb2:10 ^ (0+(C.take i).length)≤10 ^ 9:=Nat.pow_le_pow_right (by decide) (by rw [List.length_take];omega)
   have hb3:(10:Nat) ^ 9=1000000000:=by decide
   have hp:10 ^ i≤10 ^ 9:=Nat.pow_le_pow_right (by decide) (by omega)
   have e:dgV (C.take (i+1)) 0=dgV (C.take i) 0*10+(x.toNat-48):=by rw [ht,dgV_app];rfl
   have e2:10 ^ (i+1)=10 ^ i*10:=Nat.pow_succ ..
   have R:=dva_r6_1 (n:=n) (str_2:=str) (nat_2:=nat) (i_6:=((dgV (C.take i) 0:Nat):Int)) (i2_6:=((10 ^ i:Nat):Int)) (x9:=(x.toNat:Int)) (by rw [byL_len];omega) (byL_at hx) (wrU (by omega) (by omega)) (wrB (by omega) (by omega)) (wrU (by omega) (by omega)) (wrU (by omega) (by omega)) (wrU (by omega) (by omega)) ⟨by omega,by omega⟩
   refine ⟨(_,_),R,?_,by omega⟩
   rw [e,e2]
   congr 1
   omega)
  (fun b hI=>dva_x6_1 (by rw [byL_len];omega))
 rw [hb,List.take_length] at L
 exact L
theorem dva_c{D:List UInt8}(hD:∀c∈D,isD c=true)(hl:D.length≤1000):run (n+2) 149 [.lit (.string (bs D))]=some (natA (lmb (dgV D 0))):=by
 have h0:lmb (dgV (D.take (9*0)) 0)=[]:=by
  show lmb (dgV ([]:List UInt8) 0)=[]
  exact lmb_eq_nil.2 rfl
 obtain ⟨b,L,hb,_⟩:=loopG_R (β:=List Nat) (O:=tab (n+2)) (P:= Tryz.prog) (m:=0) (N:=44) (lives:=livesOf 149) (r:=2) (C:=dva_C2) (M:=(D.length+8) / 9) (enc:=fun i b=>dva_h2 (bs (D.drop (9*i))) b) (exN:=.exit 0) (out:=fun b=>dva_o2a b)
  (fun i b=>b=lmb (dgV (D.take (9*i)) 0)∧i≤(D.length+8) / 9) [] ⟨h0.symm,by omega⟩ (by omega) (fun h=>by cases h)
  (fun i b hi hI=>by
   obtain ⟨rfl,_⟩:=hI
   have hlt:9*i<D.length:=by omega
   have ht:D.take (9*(i+1))=D.take (9*i)++(D.drop (9*i)).take 9:=by rw [Nat.mul_add,Nat.mul_one,List.take_add]
   have hr:D.drop (9*(i+1))=(D.drop (9*i)).drop 9:=by rw [List.drop_drop];congr 1
   have hS:∀c∈D.drop (9*i),isD c=true:=fun c hc=>hD c (List.mem_of_mem_drop hc)
   have hsl:(D.drop (9*i)).length=D.length-9*i:=List.length_drop ..
   have hTd:∀c∈D.take (9*i),isD c=true:=fun c hc=>hD c (List.mem_of_mem_take hc)
   have hlT:=lmb_dg hTd (m:=1000) (by rw [List.length_take];omega)
   generalize D.drop (9*i)=S at ht hr hS hsl
   have hs:(bs S).size=S.length:=bs_size _
   have hm:(if 9<((bs S).size:Int) then 9 else ((bs S).size:Int))=((min S.length 9:Nat):Int):=by rw [hs];split <;>omega
   have e9:S.take 9=S.take (min S.length 9):=by
    by_cases h:S.length≤9
    ·rw [Nat.min_eq_left h,List.take_length,List.take_of_length_le h]
    ·rw [Nat.min_eq_right (by omega)]
   have d9:S.drop 9=S.drop (min S.length 9):=by
    by_cases h:S.length≤9
    ·rw [Nat.min_eq_left h,List.drop_length,List.drop_of_length_le h]
    ·rw [Nat.min_eq_right (by omega)]
   have hC:∀c∈S.take (min S.length 9),isD c=true:=fun c hc=>hS c (List.mem_of_mem_take hc)
   have hCl:(S.take (min S.length 9)).length=min S.length 9:=by rw [List.length_take];omega
   have L4:=dva_in (n:=n) (str:=bs S) (nat:=lmb (dgV (D.take (9*i)) 0)) hC (by omega)
   have hb:=dgV_lt0 (S.take (min S.length 9)) 0 0 hC (by decide)
   rw [hCl] at hb L4
   have hp:10 ^ (min S.length 9)≤10 ^ 9:=Nat.pow_le_pow_right (by decide) (by omega)
   have hb3:(10:Nat) ^ 9=1000000000:=by decide
   rw [Nat.zero_add] at hb
   have K5:=k_ofu (z:=((10 ^ (min S.length 9):Nat):Int)) (by omega) (by omega)
   have K7:=k_ofu (z:=((dgV (S.take (min S.length 9)) 0:Nat):Int)) (by omega) (by omega)
   rw [Int.toNat_natCast] at K5 K7
   have l1:(lmb (10 ^ (min S.length 9))).length≤1:=lmb_len_le (by omega)
   have l2:(lmb (dgV (S.take (min S.length 9)) 0)).length≤1:=lmb_len_le (by omega)
   have K6:=kmul (a:=dgV (D.take (9*i)) 0) (b:=10 ^ (min S.length 9)) (by omega) (by omega)
   have l3:=lmb_len_mul (dgV (D.take (9*i)) 0) (10 ^ (min S.length 9))
   have K8:=kadd (a:=dgV (D.take (9*i)) 0*10 ^ (min S.length 9)) (b:=dgV (S.take (min S.length 9)) 0) (by omega) (by omega)
   have e:dgV (D.take (9*(i+1))) 0=dgV (D.take (9*i)) 0*10 ^ (min S.length 9)+dgV (S.take (min S.length 9)) 0:=by
    rw [ht,dgV_app,dgV_lin,e9,hCl]
   have D2:bs (S.take (min S.length 9))=(bs S).extract 0 ((if 9<((bs S).size:Int) then 9 else ((bs S).size:Int)).toNat):=by rw [hm,Int.toNat_natCast];exact (bs_to S _).symm
   have D9:bs (S.drop (min S.length 9))=(bs S).extract ((if 9<((bs S).size:Int) then 9 else ((bs S).size:Int)).toNat) (bs S).size:=by rw [hm,Int.toNat_natCast];exact (bs_from S _).symm
   refine ⟨_,?_,rfl,by omega⟩
   rw [e,hr,d9]
   exact dva_r2_1 (by omega) ⟨by omega,by rw [hm];omega,by rw [hm];omega⟩ D2 L4 K5 K6 K7 K8 ⟨by rw [hm];omega,by rw [hm];omega,by omega⟩ D9)
  (fun b hI=>dva_x2_1 (by rw [bs_size,List.length_drop];omega))
 rw [hb] at L
 have e:D.take (9*((D.length+8) / 9))=D:=List.take_of_length_le (by omega)
 rw [e] at L
 exact dva_f1 L
def pB4(L:List UInt8)(i k:Nat):AB:=.box 120 [.lit (.string (bs L)),.lit (.int .i64 (i:Int)),.lit (.int .i64 (k:Int))] false
theorem dis_c{L:List UInt8}{i k:Nat}(c:UInt8)(hL:L.length≤100000)(hi:i≤L.length):runL n 147 [.ptr 0 0,.lit (.int .u8 (c.toNat:Int))] [pB4 L i k]=some (.lit (.bool (decide (L[i]?=some c))),[(0,pB4 L (if L[i]?=some c then i+1 else i) k)]):=by
 have hs:(bs L).size=L.length:=bs_size _
 by_cases h:i<L.length
 ·obtain ⟨b,hb⟩:∃b,L[i]?=some b:=⟨_,List.getElem?_eq_getElem h⟩
  have E:(bs L)[((i:Int)).toNat]?=some b:=by rw [Int.toNat_natCast,bs_at];exact hb
  by_cases hc:b=c
  ·subst hc
   rw [decide_eq_true hb,if_pos hb]
   have R:=dis_f1 (n:=n) (a0:=⟨bs L,i,k⟩) (a1:=(b.toNat:Int)) (b:=b) (by show (i:Int)<((bs L).size:Int);omega) E (by show (0:Int)≤i;omega) rfl ⟨by show _≤(i:Int)+1;omega,by show (i:Int)+1≤_;omega⟩
   unfold pB4
   rw [show ((i+1:Nat):Int)=(i:Int)+1 by omega]
   exact R
  ·have hn:¬L[i]?=some c:=fun h9=>by rw [hb] at h9;exact hc (Option.some.inj h9)
   rw [decide_eq_false hn,if_neg hn]
   exact dis_f2 (n:=n) (a0:=⟨bs L,i,k⟩) (a1:=(c.toNat:Int)) (b:=b) (by show (i:Int)<((bs L).size:Int);omega) E (by show (0:Int)≤i;omega) (fun h9=>hc (UInt8.toNat_inj.1 (by omega)))
 ·have hn:¬L[i]?=some c:=by rw [List.getElem?_eq_none (by omega)];simp
  rw [decide_eq_false hn,if_neg hn]
  exact dis_f3 (n:=n) (a0:=⟨bs L,i,k⟩) (a1:=(c.toNat:Int)) (by show ¬(i:Int)<((bs L).size:Int);omega)
theorem tw_at:∀(M:List UInt8),(∀j,j<(M.takeWhile isD).length→∃b,M[j]?=some b∧isD b=true)∧∀b,M[(M.takeWhile isD).length]?=some b→isD b=false
 | []=>⟨fun j hj=>by simp at hj,fun b hb=>by simp at hb⟩
 | c::M=>by
   obtain ⟨h1,h2⟩:=tw_at M
   cases hc:isD c with
   | false=>
     rw [List.takeWhile_cons,hc]
     exact ⟨fun j hj=>by simp at hj,fun b hb=>by cases hb;exact hc⟩
   | true=>
     rw [List.takeWhile_cons,hc]
     refine ⟨fun j hj=>?_,fun b hb=>h2 b (by simpa using hb)⟩
     cases j with
     | zero=>exact ⟨c,rfl,hc⟩
     | succ j=>exact h1 j (by simpa using hj)
def dgF(L:List UInt8)(i:Nat):List UInt8:=(L.drop i).takeWhile isD
theorem dgF_len(L:List UInt8)(i:Nat)(hi:i≤L.length):i+(dgF L i).length≤L.length:=by
 have h:=(List.takeWhile_sublist (p:=isD) (l:=L.drop i)).length_le
 rw [List.length_drop] at h
 unfold dgF
 omega
theorem dgF_take(L:List UInt8)(i:Nat):(L.drop i).take (dgF L i).length=dgF L i:=by
 have h:L.drop i=dgF L i++(L.drop i).dropWhile isD:=(List.takeWhile_append_dropWhile).symm
 conv=>lhs;rw [h]
 exact List.take_left' rfl
theorem dgF_rest(L:List UInt8)(i:Nat):L.drop (i+(dgF L i).length)=(L.drop i).dropWhile isD:=by
 have h:L.drop i=dgF L i++(L.drop i).dropWhile isD:=(List.takeWhile_append_dropWhile).symm
 rw [←List.drop_drop]
 conv=>lhs;rw [h]
 exact List.drop_left' rfl
theorem ddg_c{L:List UInt8}{i k:Nat}(hL:L.length+k≤3000)(hi:i≤L.length):runL n 148 [.ptr 0 0] [pB4 L i k]=
  some (.tup [.lit (.string (bs (dgF L i))),.lit (.int .i64 (if dgF L i=[] then 4 else 0))],[(0,pB4 L (i+(dgF L i).length) (k+(dgF L i).length))]):=by
 have hs:(bs L).size=L.length:=bs_size _
 obtain ⟨t1,t2⟩:=tw_at (L.drop i)
 have hle:=dgF_len L i hi
 have htk:=dgF_take L i
 have hD:(L.drop i).takeWhile isD=dgF L i:=rfl
 rw [hD] at t1 t2
 generalize dgF L i=D at t1 t2 hle htk
 have at_:∀j,(bs L)[(((i+j:Nat):Int)).toNat]?=(L.drop i)[j]?:=fun j=>by rw [Int.toNat_natCast,bs_at,List.getElem?_drop]
 obtain ⟨b,L1,_⟩:=loopG_R (β:=Unit) (O:=tab n) (P:= Tryz.prog) (m:=1) (N:=78) (lives:=livesOf 148) (r:=2) (C:=ddg_C2) (M:=D.length) (enc:=fun j _=>ddg_h2 ⟨bs L,(i:Int),(k:Int)⟩ ((i+j:Nat):Int) ((k+j:Nat):Int)) (exN:=.exit 0) (out:=fun _=>ddg_o2b ⟨bs L,(i:Int),(k:Int)⟩ ((i+D.length:Nat):Int) ((k+D.length:Nat):Int))
  (fun i b=>True) () trivial (by omega) (fun h=>by cases h)
  (fun j b hj hI=>by
   obtain ⟨x,h1,h2⟩:=t1 j hj
   have hd:=(isD_num x).1 h2
   have R:=ddg_r2_1 (n:=n) (a0:=⟨bs L,(i:Int),(k:Int)⟩) (i_2:=((i+j:Nat):Int)) (i2_2:=((k+j:Nat):Int)) (b3:=x) (by show _<((bs L).size:Int);omega) (by show (bs L)[_]?=_;rw [at_];exact h1) (by omega) (by omega) (by omega) (by omega) ⟨by omega,by omega⟩ ⟨by omega,by omega⟩
   exact ⟨(),R,trivial⟩)
  (fun b hI=>by
   by_cases hlt:i+D.length<L.length
   ·obtain ⟨x,hx⟩:∃x,(L.drop i)[D.length]?=some x:=⟨_,List.getElem?_eq_getElem (by rw [List.length_drop];omega)⟩
    have hd:=t2 x hx
    have hnd:¬(48≤x.toNat∧x.toNat≤57):=fun h=>by rw [(isD_num x).2 h] at hd;cases hd
    by_cases h48:48≤x.toNat
    ·exact ddg_x2_2 (n:=n) (a0:=⟨bs L,(i:Int),(k:Int)⟩) (b3:=x) (by show _<((bs L).size:Int);omega) (by show (bs L)[_]?=_;rw [at_];exact hx) (by omega) (by omega) (by omega)
    ·exact ddg_x2_3 (n:=n) (a0:=⟨bs L,(i:Int),(k:Int)⟩) (b3:=x) (by show _<((bs L).size:Int);omega) (by show (bs L)[_]?=_;rw [at_];exact hx) (by omega) (by omega)
   ·exact ddg_x2_4 (n:=n) (a0:=⟨bs L,(i:Int),(k:Int)⟩) (by show ¬_<((bs L).size:Int);omega))
 by_cases h0:D=[]
 ·subst h0
  exact ddg_f2 (n:=n) (a0:=⟨bs L,(i:Int),(k:Int)⟩) L1 rfl
 ·have hp:0<D.length:=List.length_pos_iff.2 h0
  rw [if_neg h0]
  refine ddg_f3 (n:=n) (a0:=⟨bs L,(i:Int),(k:Int)⟩) L1 (by show ¬_=(i:Int);omega) ⟨by show (0:Int)≤i;omega,by show (i:Int)≤_;omega,by show _≤((bs L).size:Int);omega⟩ ?_
  show bs D=(bs L).extract ((i:Int)).toNat _
  rw [Int.toNat_natCast,Int.toNat_natCast,bs_cut,show i+D.length-i=D.length by omega,htk]
end
end
section
open Go.RowKit
end
section
open Go.RowKit
noncomputable def f4D_C2:Code:=(loopsOf (bodyOf Tryz.f80)).getD 0 .skip
def f4D_h2(nat_2:List Nat)(str_2:ByteArray):St:=
 ⟨[(0,natA nat_2),(3,.lit (.string str_2))],
  [],0⟩
def f4D_o2a(str_2:ByteArray):St:=
 ⟨[(3,.lit (.string str_2))],
  [],0⟩
section
variable {n : Nat} {r18 : Bool} {str_2 : ByteArray} {cat3 : ByteArray} {nat_2 : List Nat} {sub3 : ByteArray} {r17 : Int} {r13 : List Nat} {r16 : Int} {r15 : List Nat} {r14 : List Nat} {a0 : List Nat}
theorem f4D_r2_1(C1:0<(nat_2.length:Int))(K2:(oU fun k=>natA (lmb k)) [.lit (.int .u64 10)]=some (natA r13))(K3:(oND fun x y=>.tup [natA (lmb (val x / val y)),natA (lmb (val x % val y)),.lit (.int .i64 0)]) [natA nat_2,natA r13]=some (.tup [natA r14,natA r15,.lit (.int .i64 r16)]))(K4:(oN1 u64N fun x=>.tup [.lit (.int .u64 (val x:Nat)),.lit (.bool true)]) [natA r15]=some (.tup [.lit (.int .u64 r17),.lit (.bool r18)]))(W5:IntKind.u64.wrap (r17+1)=r17+1)(U6:0≤r17∧r17≤r17+1∧r17+1≤((⟨#[48,49,50,51,52,53,54,55,56,57]⟩:ByteArray).size:Int))(D6:sub3=(⟨#[48,49,50,51,52,53,54,55,56,57]⟩:ByteArray).extract r17.toNat ((r17+1).toNat))(S7:sub3.size+str_2.size≤9000000000000000000)(D7:cat3=sub3++str_2):
  Cont 0 (exec Tryz.prog (tab (n+4)) 0 34 (livesOf 80) big f4D_C2) (livesOf 80 2) (f4D_h2 nat_2 str_2) (f4D_h2 r14 cat3):=by
 have C1_:0<nat_2.length:=by omega
 have C1_z:(nat_2.length:Int)≠0:=by omega
 have C1_e:((nat_2.length:Int)==0)=false:=by simpa using C1_z
 have C1_g:((nat_2.length:Int) !=0)=true:=by simpa using C1_z
 have D6_:=D6.symm
 have S7_r:=cat_r S7 D7
 have S7_q:=cat_q S7 D7
 unfold Cont
 simp+decide [f4D_h2,loopsOf, Tryz.f80,f4D_C2,C1,C1_,C1_e,C1_g,K2,K3,K4,W5,U6,D6_,↓S7_r,S7_q]
theorem f4D_x2_1(C1:¬0<(nat_2.length:Int)):
  Leave 0 (exec Tryz.prog (tab (n+4)) 0 34 (livesOf 80) big f4D_C2) (livesOf 80 (outOf 2)) (f4D_h2 nat_2 str_2) (.exit 0) (f4D_o2a str_2):=by
 have C1_:¬0<nat_2.length:=by omega
 have C1_z:(nat_2.length:Int)=0:=by omega
 have C1_e:((nat_2.length:Int)==0)=true:=by rw [C1_z];simp
 have C1_g:((nat_2.length:Int) !=0)=false:=by rw [C1_z];simp
 unfold Leave
 simp+decide [f4D_h2,loopsOf, Tryz.f80,f4D_o2a,f4D_C2,C1,C1_,C1_e,C1_g]
section
variable(L1:loopG Tryz.prog (tab (n+4)) 0 34 (livesOf 80) 2 f4D_C2 (f4D_h2 a0 (⟨#[]⟩:ByteArray))=some (.exit 0,f4D_o2a str_2))
include L1
theorem f4D_f1(C2:str_2=(⟨#[]⟩:ByteArray)):
  run (n+4) 80 [natA a0]=some (.lit (.string (⟨#[48]⟩:ByteArray))):=by
 have C2_:(str_2.toList==(⟨#[]⟩:ByteArray).toList)=true:=by rw [C2];simp
 have C2_n:(str_2.toList !=(⟨#[]⟩:ByteArray).toList)=false:=by rw [bne,C2_];rfl
 have C2_i:str_2.toList.isEmpty=true:=by rw [C2,ba_toList] <;>rfl
 unfold run fnP
 simp+decide [Tryz.f80,C2_,C2_n,C2_i]
 rw [loopX_G (C':=f4D_C2) (e:=(f4D_h2 a0 (⟨#[]⟩:ByteArray))) ?_ ?_,L1]
 rotate_left
 ·kernel_rfl
 ·simp+decide [f4D_h2,C2_,C2_n,C2_i]
 simp+decide [f4D_o2a,C2_,C2_n,C2_i]
theorem f4D_f2(C2:¬str_2=(⟨#[]⟩:ByteArray)):
  run (n+4) 80 [natA a0]=some (.lit (.string str_2)):=by
 have C2_:(str_2.toList==(⟨#[]⟩:ByteArray).toList)=false:=by rw [beq_eq_false_iff_ne];exact fun h=>C2 (ba_inj h)
 have C2_n:(str_2.toList !=(⟨#[]⟩:ByteArray).toList)=true:=by rw [bne,C2_];rfl
 have C2_i:str_2.toList.isEmpty=false:=by rcases he:str_2.toList.isEmpty with _|_;rfl;exact absurd (ba_inj (by rw [List.isEmpty_iff.1 he,ba_toList] <;>rfl)) C2
 unfold run fnP
 simp+decide [Tryz.f80,C2_,C2_n,C2_i]
 rw [loopX_G (C':=f4D_C2) (e:=(f4D_h2 a0 (⟨#[]⟩:ByteArray))) ?_ ?_,L1]
 rotate_left
 ·kernel_rfl
 ·simp+decide [f4D_h2,C2_,C2_n,C2_i]
 simp+decide [f4D_o2a,C2_,C2_n,C2_i]
end
end
section
variable {cat2 : ByteArray} {n : Nat} {cat3 : ByteArray} {cat : ByteArray} {r2 : ByteArray} {a0 : Rat} {r : ByteArray} {r3 : ByteArray} {cat4 : ByteArray} {cat5 : ByteArray}
section
variable(K1:run (n+4) 80 [natA (rawQ a0).l1]=some (.lit (.string r)))
include K1
section
variable(C2:(rawQ a0).s=true)(S3:(⟨#[45]⟩:ByteArray).size+r.size≤9000000000000000000)(D3:cat=(⟨#[45]⟩:ByteArray)++r)
include C2 S3 D3
theorem f4T_f1(C4:0<((rawQ a0).l2.length:Int))(K5:run (n+4) 80 [natA (rawQ a0).l2]=some (.lit (.string r2)))(S6:(⟨#[47]⟩:ByteArray).size+r2.size≤9000000000000000000)(D6:cat2=(⟨#[47]⟩:ByteArray)++r2)(S7:cat.size+cat2.size≤9000000000000000000)(D7:cat3=cat++cat2):
  run (n+5) 33 [ratV a0]=some (.lit (.string cat3)):=by
 have S3_r:=cat_r S3 D3
 have S3_q:=cat_q S3 D3
 have C4_:0<(rawQ a0).l2.length:=by omega
 have C4_z:((rawQ a0).l2.length:Int)≠0:=by omega
 have C4_e:(((rawQ a0).l2.length:Int)==0)=false:=by simpa using C4_z
 have C4_g:(((rawQ a0).l2.length:Int) !=0)=true:=by simpa using C4_z
 have S6_r:=cat_r S6 D6
 have S6_q:=cat_q S6 D6
 have S7_r:=cat_r S7 D7
 have S7_q:=cat_q S7 D7
 unfold run fnP
 simp+decide [Tryz.f33,K1,C2,↓S3_r,S3_q,C4,C4_,C4_e,C4_g,K5,↓S6_r,S6_q,↓S7_r,S7_q]
theorem f4T_f2(C4:¬0<((rawQ a0).l2.length:Int)):
  run (n+5) 33 [ratV a0]=some (.lit (.string cat)):=by
 have S3_r:=cat_r S3 D3
 have S3_q:=cat_q S3 D3
 have C4_:¬0<(rawQ a0).l2.length:=by omega
 have C4_z:((rawQ a0).l2.length:Int)=0:=by omega
 have C4_e:(((rawQ a0).l2.length:Int)==0)=true:=by rw [C4_z];simp
 have C4_g:(((rawQ a0).l2.length:Int) !=0)=false:=by rw [C4_z];simp
 unfold run fnP
 simp+decide [Tryz.f33,K1,C2,↓S3_r,S3_q,C4,C4_,C4_e,C4_g]
end
theorem f4T_f3(C2:(rawQ a0).s=false)(C3:0<((rawQ a0).l2.length:Int))(K4:run (n+4) 80 [natA (rawQ a0).l2]=some (.lit (.string r3)))(S5:(⟨#[47]⟩:ByteArray).size+r3.size≤9000000000000000000)(D5:cat4=(⟨#[47]⟩:ByteArray)++r3)(S6:r.size+cat4.size≤9000000000000000000)(D6:cat5=r++cat4):
  run (n+5) 33 [ratV a0]=some (.lit (.string cat5)):=by
 have C3_:0<(rawQ a0).l2.length:=by omega
 have C3_z:((rawQ a0).l2.length:Int)≠0:=by omega
 have C3_e:(((rawQ a0).l2.length:Int)==0)=false:=by simpa using C3_z
 have C3_g:(((rawQ a0).l2.length:Int) !=0)=true:=by simpa using C3_z
 have S5_r:=cat_r S5 D5
 have S5_q:=cat_q S5 D5
 have S6_r:=cat_r S6 D6
 have S6_q:=cat_q S6 D6
 unfold run fnP
 simp+decide [Tryz.f33,K1,C2,C3,C3_,C3_e,C3_g,K4,↓S5_r,S5_q,↓S6_r,S6_q]
theorem f4T_f4(C2:(rawQ a0).s=false)(C3:¬0<((rawQ a0).l2.length:Int)):
  run (n+5) 33 [ratV a0]=some (.lit (.string r)):=by
 have C3_:¬0<(rawQ a0).l2.length:=by omega
 have C3_z:((rawQ a0).l2.length:Int)=0:=by omega
 have C3_e:(((rawQ a0).l2.length:Int)==0)=true:=by rw [C3_z];simp
 have C3_g:(((rawQ a0).l2.length:Int) !=0)=false:=by rw [C3_z];simp
 unfold run fnP
 simp+decide [Tryz.f33,K1,C2,C3,C3_,C3_e,C3_g]
end
end
end
section
open Go.RowKit
end
section
open Go.RowKit
open Lib (decDigits)
attribute [local irreducible] run runL loopG exec
theorem rat0:ratV 0=.agg [.lit (.bool false),.sl 1 [],.sl 1 []]:=by simp
theorem nat1:natA (lmb 1)=.sl 1 [[.lit (.int .u32 1)]]:=by
 have e:lmb 1=[1]:=by decide+kernel
 rw [e];rfl
theorem krep{k:Nat}(h:k≤1000):oRepeat [.lit (.string (⟨#[48]⟩:ByteArray)),.lit (.int .i64 (k:Int))]=some (.lit (.string (bs (List.replicate k 48)))):=by
 have e2:(⟨#[48]⟩:ByteArray).size=1:=rfl
 unfold oRepeat
 dsimp only
 rw [if_pos ⟨by omega,by omega,by rw [Int.toNat_natCast,e2];omega⟩,Int.toNat_natCast]
 rw [repL]
 rfl
theorem dgV_ten:∀(k n:Nat),dgV (List.replicate k 48) n=n*10 ^ k
 | 0,n=>by simp [dgV]
 | k+1,n=>by
   have e:dgV (List.replicate (k+1) 48) n=dgV (List.replicate k 48) (n*10+0):=rfl
   rw [e,dgV_ten k,Nat.pow_succ,Nat.add_zero,Nat.mul_assoc,Nat.mul_comm 10]
theorem dpF_eq(L:List UInt8):dpF L=
  if dgF L (if L[0]?=some 45 then 1 else 0)=[] then none else
  match L.drop ((if L[0]?=some 45 then 1 else 0)+(dgF L (if L[0]?=some 45 then 1 else 0)).length) with
  | []=>some (qv (decide (L[0]?=some 45)) (dgV (dgF L (if L[0]?=some 45 then 1 else 0)) 0) 1)
  | c::R=>if c=47 then (if R.takeWhile isD=[]∨R.dropWhile isD≠[]∨dgV (R.takeWhile isD) 0=0 then none else some (qv (decide (L[0]?=some 45)) (dgV (dgF L (if L[0]?=some 45 then 1 else 0)) 0) (dgV (R.takeWhile isD) 0)))
    else if c=46 then (if R.takeWhile isD=[]∨R.dropWhile isD≠[] then none else some (qv (decide (L[0]?=some 45)) (dgV (dgF L (if L[0]?=some 45 then 1 else 0)++R.takeWhile isD) 0) (10 ^ (R.takeWhile isD).length)))
    else none:=by
 have hh:L.head?=L[0]?:=List.head?_eq_getElem? ..
 have hM:(if decide (L[0]?=some 45)=true then L.drop 1 else L)=L.drop (if L[0]?=some 45 then 1 else 0):=by
  by_cases h:L[0]?=some 45
  ·rw [decide_eq_true h,if_pos rfl,if_pos h]
  ·rw [decide_eq_false h,if_neg (by simp),if_neg h,List.drop_zero]
 unfold dpF
 rw [hh]
 dsimp only
 rw [hM,dgF_rest]
 rfl
section
variable {n : Nat} {L : List UInt8}
theorem dnm_c(hL:L.length≤400):∃(e z z2:Int),runL (n+7) 84 [.ptr 0 0] [pB4 L 0 0]=some (.tup [ratV ((dpF L).getD 0),.lit (.int .i64 e)],[(0,.box 120 [.lit (.string (bs L)),.lit (.int .i64 z),.lit (.int .i64 z2)] false)])∧(e=0↔(dpF L).isSome=true):=by
 have hs:(bs L).size=L.length:=bs_size _
 have K1:=dis_c (n:=n+6) (k:=0) 45 (show L.length≤100000 by omega) (Nat.zero_le L.length)
 rw [dpF_eq]
 have hi0:(if L[0]?=some 45 then 1 else 0)≤L.length:=by
  split
  ·rename_i h
   have:=(List.getElem?_eq_some_iff.1 h).1
   omega
  ·omega
 generalize hneg:decide (L[0]?=some 45)=neg at K1
 generalize hii:(if L[0]?=some 45 then (1:Nat) else 0)=i0 at hi0
 have K1':runL (n+6) 147 [.ptr 0 0,.lit (.int .u8 45)] [pB4 L 0 0]=some (.lit (.bool neg),[(0,pB4 L i0 0)]):=by
  have e:(if L[0]?=some 45 then 0+1 else 0)=i0:=hii
  rw [e] at K1
  exact K1
 clear K1
 have K2:=ddg_c (n:=n+6) (k:=0) (i:=i0) (show L.length+0≤3000 by omega) hi0
 have hDl:=dgF_len L i0 hi0
 have hDd:∀c∈dgF L i0,isD c=true:=tw_all _
 generalize dgF L i0=D at K2 hDl hDd
 rw [Nat.zero_add] at K2
 by_cases h0:D=[]
 ·rw [if_pos h0] at K2 ⊢
  have R:=dnm_f1 (n:=n) (a0:=⟨bs L,0,0⟩) K1' K2 (by decide)
  rw [Option.getD_none,rat0]
  exact ⟨4,_,_,R,by simp⟩
 rw [if_neg h0] at K2 ⊢
 have hget:∀i,L[i]?=(L.drop i).head?:=fun i=>by rw [List.head?_eq_getElem?,List.getElem?_drop];rfl
 have K4:=dis_c (n:=n+6) (k:=D.length) (i:=i0+D.length) 47 (show L.length≤100000 by omega) hDl
 have K6:=dis_c (n:=n+6) (k:=D.length) (i:=i0+D.length) 46 (show L.length≤100000 by omega) hDl
 have V:=dva_c (n:=n+4) hDd (by omega)
 have lD:=lmb_dg hDd (m:=400) (by omega)
 have M:=imk_c (n:=n+4) (k:=dgV D 0) (s:=neg) (by omega)
 rw [hget] at K4 K6
 cases hR:L.drop (i0+D.length) with
 | nil=>
   rw [hR] at K4 K6
   have hlen:¬i0+D.length<L.length:=fun h=>by
    have:=congrArg List.length hR
    rw [List.length_drop,List.length_nil] at this
    omega
   rw [if_neg (by simp),decide_eq_false (by simp)] at K4 K6
   have M1:=imk_c (n:=n+4) (k:=1) (s:=false) (by decide+kernel)
   have Q:=rmk_c (n:=n) (a:=dgV D 0) (d:=1) (s:=neg) (by omega) (by decide+kernel)
   rw [if_neg (by decide)] at Q
   have M1':=M1
   rw [nat1] at M1'
   have M1'':run (n+6) 152 [.lit (.bool false),.sl 1 [[.lit (.int .u32 1)]]]=some (.agg [.lit (.bool (false && decide (0<1))),natA (lmb 1)]):=by rw [←nat1];exact M1
   have R:=dnm_f12 (n:=n) (a0:=⟨bs L,0,0⟩) (r24:=⟨neg && decide (0<dgV D 0),lmb (dgV D 0)⟩) (r25:=⟨false && decide (0<1),lmb 1⟩) K1' K2 rfl K4 rfl K6 rfl (by show ¬_<((bs L).size:Int);omega) V M M1'' Q rfl
   exact ⟨0,_,_,R,by simp⟩
 | cons c R1=>
   rw [hR] at K4 K6
   rw [List.head?_cons] at K4 K6
   have hlt:i0+D.length<L.length:=by
    have:=congrArg List.length hR
    rw [List.length_drop,List.length_cons] at this
    omega
   have hR1:L.drop (i0+D.length+1)=R1:=by rw [←List.drop_drop,hR];rfl
   have hE:dgF L (i0+D.length+1)=R1.takeWhile isD:=by unfold dgF;rw [hR1]
   have hEl:=dgF_len L (i0+D.length+1) (by omega)
   have hErest:=dgF_rest L (i0+D.length+1)
   have hEd:∀c∈dgF L (i0+D.length+1),isD c=true:=tw_all _
   have K7:=ddg_c (n:=n+6) (k:=D.length) (i:=i0+D.length+1) (show L.length+D.length≤3000 by omega) (by omega)
   rw [hR1] at hErest
   dsimp only
   rw [←hE]
   generalize dgF L (i0+D.length+1)=E at hE hEl hErest hEd K7
   have hrest:R1.dropWhile isD≠[]↔i0+D.length+1+E.length<L.length:=by
    rw [←hErest]
    constructor
    ·intro h
     false_or_by_contra
     exact h (List.drop_of_length_le (by omega))
    ·intro h e
     have:=congrArg List.length e
     rw [List.length_drop,List.length_nil] at this
     omega
   have lE:=lmb_dg hEd (m:=400) (by omega)
   by_cases c47:c=47
   ·subst c47
    rw [if_pos rfl]
    rw [if_pos rfl,decide_eq_true rfl] at K4
    by_cases hE0:E=[]
    ·rw [if_pos hE0] at K7
     rw [if_pos (.inl hE0)]
     have R:=dnm_f2 (n:=n) (a0:=⟨bs L,0,0⟩) K1' K2 rfl K4 rfl K7 (by decide)
     rw [Option.getD_none,rat0]
     exact ⟨4,_,_,R,by simp⟩
    rw [if_neg hE0] at K7
    have V2:=dva_c (n:=n+4) hEd (by omega)
    by_cases hr:i0+D.length+1+E.length<L.length
    ·rw [if_pos (.inr (.inl (hrest.2 hr)))]
     have R:=dnm_f3 (n:=n) (a0:=⟨bs L,0,0⟩) K1' K2 rfl K4 rfl K7 rfl V2 (by show _<((bs L).size:Int);omega)
     rw [Option.getD_none,rat0]
     exact ⟨4,_,_,R,by simp⟩
    have M2:=imk_c (n:=n+4) (k:=dgV E 0) (s:=false) (by omega)
    have Q:=rmk_c (n:=n) (a:=dgV D 0) (d:=dgV E 0) (s:=neg) (by omega) (by omega)
    by_cases hz:dgV E 0=0
    ·rw [if_pos (.inr (.inr hz))]
     rw [if_pos hz] at Q
     have R:=dnm_f4 (n:=n) (a0:=⟨bs L,0,0⟩) (r14:=⟨neg && decide (0<dgV D 0),lmb (dgV D 0)⟩) (r15:=⟨false && decide (0<dgV E 0),lmb (dgV E 0)⟩) K1' K2 rfl K4 rfl K7 rfl V2 (by show ¬_<((bs L).size:Int);omega) V M M2 Q (by decide)
     exact ⟨3,_,_,R,by simp⟩
    ·rw [if_neg (fun h=>by rcases h with h|h|h;exact hE0 h;exact hr (hrest.1 h);exact hz h)]
     rw [if_neg hz] at Q
     have R:=dnm_f5 (n:=n) (a0:=⟨bs L,0,0⟩) (r14:=⟨neg && decide (0<dgV D 0),lmb (dgV D 0)⟩) (r15:=⟨false && decide (0<dgV E 0),lmb (dgV E 0)⟩) K1' K2 rfl K4 rfl K7 rfl V2 (by show ¬_<((bs L).size:Int);omega) V M M2 Q rfl
     exact ⟨0,_,_,R,by simp⟩
   rw [if_neg c47]
   rw [if_neg (fun h=>c47 (Option.some.inj h)),decide_eq_false (fun h=>c47 (Option.some.inj h))] at K4
   by_cases c46:c=46
   ·subst c46
    rw [if_pos rfl]
    rw [if_pos rfl,decide_eq_true rfl] at K6
    by_cases hE0:E=[]
    ·rw [if_pos hE0] at K7
     rw [if_pos (.inl hE0)]
     have R:=dnm_f6 (n:=n) (a0:=⟨bs L,0,0⟩) K1' K2 rfl K4 rfl K6 rfl K7 (by decide)
     rw [Option.getD_none,rat0]
     exact ⟨4,_,_,R,by simp⟩
    rw [if_neg hE0] at K7
    have hDE:∀x∈D++E,isD x=true:=fun x hx=>by
     rcases List.mem_append.1 hx with h|h
     ·exact hDd x h
     ·exact hEd x h
    have hTd:∀x∈(49:UInt8)::List.replicate E.length 48,isD x=true:=fun x hx=>by
     rcases List.mem_cons.1 hx with rfl|h
     ·decide
     ·rw [List.eq_of_mem_replicate h];decide
    have hT:dgV ((49:UInt8)::List.replicate E.length 48) 0=10 ^ E.length:=by
     have e:dgV ((49:UInt8)::List.replicate E.length 48) 0=dgV (List.replicate E.length 48) 1:=rfl
     rw [e,dgV_ten,Nat.one_mul]
    have V3:=dva_c (n:=n+4) hTd (by rw [List.length_cons,List.length_replicate];omega)
    have lT:=lmb_dg hTd (m:=500) (by rw [List.length_cons,List.length_replicate];omega)
    rw [hT] at V3 lT
    have rep:=krep (k:=E.length) (by omega)
    rw [←bs_size E] at rep
    have s1:(⟨#[49]⟩:ByteArray).size=1:=rfl
    have D12:bs ((49:UInt8)::List.replicate E.length 48)=(⟨#[49]⟩:ByteArray)++bs (List.replicate E.length 48):=(bs_app [49] _).symm
    have S10:(bs D).size+(bs E).size≤9000000000000000000:=by rw [bs_size,bs_size];omega
    have S12:(⟨#[49]⟩:ByteArray).size+(bs (List.replicate E.length 48)).size≤9000000000000000000:=by rw [s1,bs_size,List.length_replicate];omega
    by_cases hr:i0+D.length+1+E.length<L.length
    ·rw [if_pos (.inr (hrest.2 hr))]
     have R:=dnm_f7 (n:=n) (a0:=⟨bs L,0,0⟩) K1' K2 rfl K4 rfl K6 rfl K7 rfl S10 (bs_app D E).symm rep S12 D12 V3 (by show _<((bs L).size:Int);omega)
     rw [Option.getD_none,rat0]
     exact ⟨4,_,_,R,by simp⟩
    rw [if_neg (fun h=>by rcases h with h|h;exact hE0 h;exact hr (hrest.1 h))]
    have V4:=dva_c (n:=n+4) hDE (by rw [List.length_append];omega)
    have lDE:=lmb_dg hDE (m:=900) (by rw [List.length_append];omega)
    have M3:=imk_c (n:=n+4) (k:=dgV (D++E) 0) (s:=neg) (by omega)
    have M4:=imk_c (n:=n+4) (k:=10 ^ E.length) (s:=false) (by omega)
    have Q:=rmk_c (n:=n) (a:=dgV (D++E) 0) (d:=10 ^ E.length) (s:=neg) (by omega) (by omega)
    rw [if_neg (Nat.pos_iff_ne_zero.1 (Nat.pow_pos (by decide)))] at Q
    have R:=dnm_f9 (n:=n) (a0:=⟨bs L,0,0⟩) (r19:=⟨neg && decide (0<dgV (D++E) 0),lmb (dgV (D++E) 0)⟩) (r20:=⟨false && decide (0<10 ^ E.length),lmb (10 ^ E.length)⟩) K1' K2 rfl K4 rfl K6 rfl K7 rfl S10 (bs_app D E).symm rep S12 D12 V3 (by show ¬_<((bs L).size:Int);omega) V4 M3 M4 Q rfl
    exact ⟨0,_,_,R,by simp⟩
   ·rw [if_neg c46]
    rw [if_neg (fun h=>c46 (Option.some.inj h)),decide_eq_false (fun h=>c46 (Option.some.inj h))] at K6
    have R:=dnm_f10 (n:=n) (a0:=⟨bs L,0,0⟩) K1' K2 rfl K4 rfl K6 rfl (by show _<((bs L).size:Int);omega)
    rw [Option.getD_none,rat0]
    exact ⟨4,_,_,R,by simp⟩
theorem dpr_c(hL:L.length≤400):∃(a e:Int),run (n+8) 36 [.lit (.string (bs L))]=some (.tup [ratV ((dpF L).getD 0),.lit (.int .i64 a),.lit (.int .i64 e)])∧(e=0↔(dpF L).isSome=true):=by
 obtain ⟨e,z,z2,K,h⟩:=dnm_c (n:=n) hL
 by_cases he:e=0
 ·exact ⟨0,0,dpr_f2 K he,by rw [←h];exact ⟨fun _=>he,fun _=>rfl⟩⟩
 ·have R:=dpr_f1 K he
  have hn:dpF L=none:=by
   cases hd:dpF L with
   | none=>rfl
   | some q=>exact absurd (h.2 (by rw [hd];rfl)) he
  refine ⟨z,e,?_,h⟩
  rw [hn,Option.getD_none,rat0]
  exact R
end
end
section
open Go.RowKit
open Lib (decDigits)
theorem dd_ten:∀(m k:Nat),k<10 ^ (m+1)→(decDigits k).length≤m+1
 | 0,k,h=>by rw [dd_lt (by simpa using h)];simp
 | m+1,k,h=>by
   by_cases h10:k<10
   ·rw [dd_lt h10];simp
   ·rw [dd_ge h10,List.length_append,List.length_singleton]
    have h2:k / 10<10 ^ (m+1):=Nat.div_lt_of_lt_mul (by rw [Nat.pow_succ] at h;omega)
    have:=dd_ten m _ h2
    omega
theorem dd_lm{k m:Nat}(hm:1≤m)(h:(lmb k).length≤m):(decDigits k).length≤10*m:=by
 have h1:=val_lt (lim_lmb k)
 rw [val_lmb] at h1
 have h2:4294967296 ^ (lmb k).length≤4294967296 ^ m:=Nat.pow_le_pow_right (by decide) h
 have h3:4294967296 ^ m≤(10 ^ 10) ^ m:=Nat.pow_le_pow_left (by decide) m
 rw [←Nat.pow_mul] at h3
 have e:10*m=(10*m-1)+1:=by omega
 rw [e] at h3 ⊢
 exact dd_ten _ k (Nat.lt_of_lt_of_le h1 (Nat.le_trans h2 h3))
theorem abs_lm{q:Rat}{m:Nat}(hm:1≤m)(h:H q≤m):(absT q).length≤20*m+1∧(decDigits q.num.natAbs).length≤10*m∧(decDigits q.den).length≤10*m:=by
 have a1:(lmb q.num.natAbs).length≤H q:=Nat.le_max_left _ _
 have a2:(lmb q.den).length≤H q:=Nat.le_max_right _ _
 have h1:=dd_lm (k:=q.num.natAbs) hm (by omega)
 have h2:=dd_lm (k:=q.den) hm (by omega)
 refine ⟨?_,h1,h2⟩
 unfold absT
 rw [List.length_append]
 split
 ·simp;omega
 ·simp;omega
end
end Go.Proofs.YtnegdhjdienjlaaGreatDoor
