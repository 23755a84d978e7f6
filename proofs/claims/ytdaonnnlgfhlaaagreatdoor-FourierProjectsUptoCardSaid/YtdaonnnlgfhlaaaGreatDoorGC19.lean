import Derived.Test.YtdaonnnlgfhlaaaGreatDoorGC18
import Derived.Lib.ItoaNum
import Derived.Lib.Repeat
import Derived.Lib.Join
import Derived.Test.YtdaonnnlgfhlaaaGreatDoorGC16
import Derived.Test.YtdaonnnlgfhlaaaGreatDoorGC17
set_option linter.all false
set_option maxHeartbeats 6400000
set_option maxRecDepth 100000
namespace Go.Proofs.YtdaonnnlgfhlaaaGreatDoor
section
open Go.RowKit
open Lib (decDigits)
def dig(k:Nat):UInt8:=UInt8.ofNat (48+k)
theorem dd_lt{u:Nat}(h:u<10):decDigits u=[dig u]:=by rw [decDigits,dif_pos h];rfl
theorem dd_ge{u:Nat}(h:¬u<10):decDigits u=decDigits (u / 10)++[dig (u % 10)]:=by rw [decDigits,dif_neg h];rfl
def padL:Nat→Nat→List UInt8
 | 0,_=>[]
 | m+1,r=>padL m (r / 10)++[dig (r % 10)]
theorem padL_zero:∀(m:Nat),padL m 0=List.replicate m 48
 | 0=>rfl
 | m+1=>by rw [padL,Nat.zero_div,padL_zero m,List.replicate_succ'];rfl
theorem dd_split:∀(m q r:Nat),0<q→r<10 ^ m→decDigits (q*10 ^ m+r)=decDigits q++padL m r
 | 0,q,r,hq,hr=>by
   have:r=0:=by simpa using hr
   subst this
   rw [Nat.pow_zero,Nat.mul_one,Nat.add_zero,padL,List.append_nil]
 | m+1,q,r,hq,hr=>by
   rw [Nat.pow_succ] at hr
   have hp:0<10 ^ m:=Nat.pow_pos (by omega)
   have e0:q*10 ^ (m+1)=(q*10 ^ m)*10:=by rw [Nat.pow_succ,Nat.mul_assoc]
   have hge:1≤q*10 ^ m:=Nat.mul_pos hq hp
   have h1:¬q*10 ^ (m+1)+r<10:=by omega
   have e1:(q*10 ^ (m+1)+r) / 10=q*10 ^ m+r / 10:=by omega
   have e2:(q*10 ^ (m+1)+r) % 10=r % 10:=by omega
   rw [dd_ge h1,e1,e2,dd_split m q (r / 10) hq (by omega),padL,List.append_assoc]
theorem dd_pad:∀(m r:Nat),r<10 ^ (m+1)→(decDigits r).length≤m+1∧padL (m+1) r=List.replicate (m+1-(decDigits r).length) 48++decDigits r
 | 0,r,h=>by
   have h1:r<10:=by simpa using h
   rw [dd_lt h1]
   refine ⟨by simp,?_⟩
   rw [padL,padL,Nat.mod_eq_of_lt h1]
   simp
 | m+1,r,h=>by
   by_cases h1:r<10
   ·rw [dd_lt h1]
    refine ⟨by simp,?_⟩
    have e:padL (m+1+1) r=padL (m+1) (r / 10)++[dig (r % 10)]:=rfl
    rw [e,Nat.div_eq_of_lt h1,Nat.mod_eq_of_lt h1,padL_zero]
    simp
   ·rw [Nat.pow_succ] at h
    obtain ⟨i1,i2⟩:=dd_pad m (r / 10) (by omega)
    rw [dd_ge h1,List.length_append,List.length_singleton]
    refine ⟨by omega,?_⟩
    have e:padL (m+1+1) r=padL (m+1) (r / 10)++[dig (r % 10)]:=rfl
    rw [e,i2,←List.append_assoc,show m+1+1-((decDigits (r / 10)).length+1)=m+1-(decDigits (r / 10)).length by omega]
theorem dd_ne(k:Nat):decDigits k≠[]:=by
 by_cases h:k<10
 ·rw [dd_lt h];simp
 ·rw [dd_ge h];simp
theorem repL(c:Nat):Lib.repeatL [48] c=List.replicate c 48:=by
 induction c with
 | zero=>rfl
 | succ c ih=>rw [Lib.repeatL,ih,List.replicate_succ];rfl
theorem joinL(xs:List (List UInt8)):Lib.join xs []=xs.flatten:=by
 unfold Lib.join List.intercalate
 induction xs with
 | nil=>rfl
 | cons x xs ih=>
   cases xs with
   | nil=>simp [List.intersperse]
   | cons y ys=>
     rw [List.intersperse,List.flatten_cons,List.flatten_cons,ih]
     ·simp
     ·intro h
      cases h
def rnd:Nat→Nat→Nat
 | 0,_=>0
 | f+1,k=>if k=0 then 0 else rnd f (k / 1000000000)+1
theorem rnd_le:∀(f k:Nat),rnd f k≤f
 | 0,_=>Nat.le_refl _
 | f+1,k=>by rw [rnd];split;omega;have:=rnd_le f (k / 1000000000);omega
theorem rnd_zero(f:Nat):rnd f 0=0:=by cases f <;>simp [rnd]
theorem rnd_enough:∀(f g k:Nat),k<2 ^ f→k<2 ^ g→rnd f k=rnd g k
 | 0,g,k,h,_=>by
   have:k=0:=by simpa using h
   subst this
   rw [rnd_zero,rnd_zero]
 | f+1,0,k,_,h=>by
   have:k=0:=by simpa using h
   subst this
   rw [rnd_zero,rnd_zero]
 | f+1,g+1,k,h,h2=>by
   rw [Nat.pow_succ] at h h2
   rw [rnd,rnd,rnd_enough f g _ (by omega) (by omega)]
def dd0(k:Nat):List UInt8:=if k=0 then [] else decDigits k
theorem dd0_step{k:Nat}(h:0<k):dd0 k=dd0 (k / 1000000000)++(if 0<k / 1000000000 then List.replicate (9-(decDigits (k % 1000000000)).length) 48++decDigits (k % 1000000000) else decDigits (k % 1000000000))∧(decDigits (k % 1000000000)).length≤9:=by
 have hr:k % 1000000000<10 ^ (8+1):=Nat.mod_lt _ (by decide)
 obtain ⟨p1,p2⟩:=dd_pad 8 _ hr
 refine ⟨?_,p1⟩
 unfold dd0
 rw [if_neg (by omega)]
 by_cases hq:0<k / 1000000000
 ·rw [if_neg (by omega),if_pos hq,←p2]
  have e:=dd_split 9 (k / 1000000000) (k % 1000000000) hq hr
  have e2:k / 1000000000*10 ^ 9+k % 1000000000=k:=by
   have:(10:Nat) ^ 9=1000000000:=by decide
   rw [this];omega
  rw [e2] at e
  exact e
 ·rw [if_pos (by omega),if_neg hq,List.nil_append]
  congr 1
  omega
theorem dd_bits:∀(m k:Nat),k<2 ^ m→(decDigits k).length≤m+1
 | 0,k,h=>by
   have:k=0:=by simpa using h
   subst this
   rw [dd_lt (by omega)];simp
 | m+1,k,h=>by
   by_cases h1:k<10
   ·rw [dd_lt h1];simp
   ·rw [Nat.pow_succ] at h
    rw [dd_ge h1,List.length_append,List.length_singleton]
    have:=dd_bits m (k / 10) (by omega)
    omega
end
section
open Go.RowKit
noncomputable def ldc_C5:Code:=(loopsOf (bodyOf Tryz.f141)).getD 0 .skip
def ldc_h5(nat_5:List Nat)(r:List Nat)(out_5:List ByteArray):St:=
 ⟨[(0,natA nat_5),(3,natA r),(4,.own 0 out_5.length)],
  [(0,some (.row 9 1 (out_5.map strC) 0))],1⟩
def ldc_o5a(out_5:List ByteArray):St:=
 ⟨[(4,.own 0 out_5.length)],
  [(0,some (.row 9 1 (out_5.map strC) 0))],1⟩
section
variable {r18 : Int} {r17 : List Nat} {r16 : List Nat} {cat3 : ByteArray} {r20 : Bool} {r21 : ByteArray} {r19 : Int} {out_5 : List ByteArray} {r : List Nat} {n : Nat} {nat_5 : List Nat} {r22 : ByteArray} {a0 : List Nat} {R : List ByteArray} {r23 : ByteArray}
section
variable(C1:0<(nat_5.length:Int))(K2:(oND fun x y=>.tup [natA (lmb (val x / val y)),natA (lmb (val x % val y)),.lit (.int .i64 0)]) [natA nat_5,natA r]=some (.tup [natA r16,natA r17,.lit (.int .i64 r18)]))(K3:(oN1 u64N fun x=>.tup [.lit (.int .u64 (val x:Nat)),.lit (.bool true)]) [natA r17]=some (.tup [.lit (.int .u64 r19),.lit (.bool r20)]))(K4:(oFU) [.lit (.int .u64 r19),.lit (.int .i64 10)]=some (.lit (.string r21)))
include C1 K2 K3 K4
theorem ldc_r5_1(C5:0<(r16.length:Int))(W6:InI (9-(r21.size:Int)))(K7:(oRepeat) [.lit (.string (⟨#[48]⟩:ByteArray)),.lit (.int .i64 (9-(r21.size:Int)))]=some (.lit (.string r22)))(S8:r22.size+r21.size≤9000000000000000000)(D8:cat3=r22++r21)(M9:out_5.length+1≤100000000):
  Cont 0 (exec Tryz.prog (tab (n+5)) 0 50 (livesOf 141) big ldc_C5) (livesOf 141 5) (ldc_h5 nat_5 r out_5) (ldc_h5 r16 r (out_5++[cat3])):=by
 have C1_:0<nat_5.length:=by omega
 have C1_z:(nat_5.length:Int)≠0:=by omega
 have C1_e:((nat_5.length:Int)==0)=false:=by simpa using C1_z
 have C1_g:((nat_5.length:Int) !=0)=true:=by simpa using C1_z
 have C5_:0<r16.length:=by omega
 have C5_z:(r16.length:Int)≠0:=by omega
 have C5_e:((r16.length:Int)==0)=false:=by simpa using C5_z
 have C5_g:((r16.length:Int) !=0)=true:=by simpa using C5_z
 have W6_:IntKind.i64.wrap (9-(r21.size:Int))=9-(r21.size:Int):=wr64 W6.1 W6.2
 have S8_r:=cat_r S8 D8
 have S8_q:=cat_q S8 D8
 have M9_:∀b,b≤10000→roomy (out_5.length+1) b=true:=fun b hb=>roomy_s M9 hb
 unfold Cont
 simp+decide [ldc_h5,loopsOf, Tryz.f141,ldc_C5,C1,C1_,C1_e,C1_g,K2,K3,K4,C5,C5_,C5_e,C5_g,W6_,K7,↓S8_r,S8_q,M9_]
theorem ldc_r5_2(C5:¬0<(r16.length:Int))(M6:out_5.length+1≤100000000):
  Cont 0 (exec Tryz.prog (tab (n+5)) 0 50 (livesOf 141) big ldc_C5) (livesOf 141 5) (ldc_h5 nat_5 r out_5) (ldc_h5 r16 r (out_5++[r21])):=by
 have C1_:0<nat_5.length:=by omega
 have C1_z:(nat_5.length:Int)≠0:=by omega
 have C1_e:((nat_5.length:Int)==0)=false:=by simpa using C1_z
 have C1_g:((nat_5.length:Int) !=0)=true:=by simpa using C1_z
 have C5_:¬0<r16.length:=by omega
 have C5_z:(r16.length:Int)=0:=by omega
 have C5_e:((r16.length:Int)==0)=true:=by rw [C5_z];simp
 have C5_g:((r16.length:Int) !=0)=false:=by rw [C5_z];simp
 have M6_:∀b,b≤10000→roomy (out_5.length+1) b=true:=fun b hb=>roomy_s M6 hb
 unfold Cont
 simp+decide [ldc_h5,loopsOf, Tryz.f141,ldc_C5,C1,C1_,C1_e,C1_g,K2,K3,K4,C5,C5_,C5_e,C5_g,M6_]
end
theorem ldc_x5_1(C1:¬0<(nat_5.length:Int)):
  Leave 0 (exec Tryz.prog (tab (n+5)) 0 50 (livesOf 141) big ldc_C5) (livesOf 141 (outOf 5)) (ldc_h5 nat_5 r out_5) (.exit 0) (ldc_o5a out_5):=by
 have C1_:¬0<nat_5.length:=by omega
 have C1_z:(nat_5.length:Int)=0:=by omega
 have C1_e:((nat_5.length:Int)==0)=true:=by rw [C1_z];simp
 have C1_g:((nat_5.length:Int) !=0)=false:=by rw [C1_z];simp
 unfold Leave
 simp+decide [ldc_h5,loopsOf, Tryz.f141,ldc_o5a,ldc_C5,C1,C1_,C1_e,C1_g]
theorem ldc_f1(C1:(a0.length:Int)=0):
  run (n+5) 141 [natA a0]=some (.lit (.string (⟨#[48]⟩:ByteArray))):=by
 have C1_:((a0.length:Int)==0)=true:=by rw [C1];simp
 have C1_n:((a0.length:Int) !=0)=false:=by rw [C1];simp
 have C1_l:¬0<(a0.length:Int):=by omega
 unfold run fnP
 simp+decide [Tryz.f141,C1_,C1_n,C1_l]
theorem ldc_f2(HR:R.length=out_5.length)(C1:¬(a0.length:Int)=0)(K2:(oU fun k=>natA (lmb k)) [.lit (.int .u64 1000000000)]=some (natA r))(L3:loopG Tryz.prog (tab (n+5)) 0 50 (livesOf 141) 5 ldc_C5 (ldc_h5 a0 r [])=some (.exit 0,ldc_o5a out_5))(K4:runL (n+4) 148 [.own 0 out_5.length] [.row 9 1 (out_5.map strC) 0]=some (.tup [],[(0,.row 9 1 (R.map strC) 0)]))(K5:(oJoin) [.sl 1 (R.map strC),.lit (.string (⟨#[]⟩:ByteArray))]=some (.lit (.string r23))):
  run (n+5) 141 [natA a0]=some (.lit (.string r23)):=by
 have C1_:((a0.length:Int)==0)=false:=by simpa using C1
 have C1_n:((a0.length:Int) !=0)=true:=by simpa using C1
 have C1_l:0<(a0.length:Int):=by omega
 unfold run fnP
 simp+decide [Tryz.f141,C1_,C1_n,C1_l,HR,K2,K4,K5]
 rw [loopX_G (C':=ldc_C5) (e:=(ldc_h5 a0 r [])) ?_ ?_,L3]
 rotate_left
 ·kernel_rfl
 ·simp+decide [ldc_h5,C1_,C1_n,C1_l,HR,K2,K4,K5]
 simp+decide [ldc_o5a,C1_,C1_n,C1_l,HR,K2,K4,K5]
end
end
section
open Go.RowKit
noncomputable def srv_C1:Code:=(loopsOf (bodyOf Tryz.f148)).getD 0 .skip
def srv_h1(out_1:List ByteArray)(i_1:Nat)(i2_1:Int):St:=
 ⟨[(0,.own 0 out_1.length),(2,.lit (.int .i64 (i_1:Int))),(3,.lit (.int .i64 i2_1))],
  [(0,some (.row 9 1 (out_1.map strC) 0))],1⟩
def srv_o1a(out_1:List ByteArray):St:=
 ⟨[],
  [(0,some (.row 9 1 (out_1.map strC) 0))],1⟩
section
variable {i2_1 : Int} {x5 : ByteArray} {n : Nat} {i_1 : Nat} {x6 : ByteArray} {out_1 : List ByteArray} {a0 : List ByteArray}
theorem srv_r1_1(C1:(i_1:Int)<i2_1)(G2:i2_1.toNat<out_1.length)(Z2:0≤i2_1)(E3:out_1[i2_1.toNat]?=some x5)(Z3:0≤i2_1)(G4:i_1<out_1.length)(E5:out_1[i_1]?=some x6)(W10:InI ((i_1:Int)+1))(W11:InI (i2_1-1)):
  Cont 1 (exec Tryz.prog (tab n) 1 28 (livesOf 148) big srv_C1) (livesOf 148 1) (srv_h1 out_1 i_1 i2_1) (srv_h1 ((out_1.set i_1 x5).set i2_1.toNat x6) (i_1+1) (i2_1-1)):=by
 obtain ⟨EL3,EG3⟩:=List.getElem?_eq_some_iff.1 E3
 obtain ⟨EL5,EG5⟩:=List.getElem?_eq_some_iff.1 E5
 have W10_:IntKind.i64.wrap ((i_1:Int)+1)=(i_1:Int)+1:=wr64 W10.1 W10.2
 have W11_:IntKind.i64.wrap (i2_1-1)=i2_1-1:=wr64 W11.1 W11.2
 unfold Cont
 simp+decide [srv_h1,loopsOf, Tryz.f148,srv_C1,C1,G2,Z2,EL3,EG3,E3,Z3,G4,EL5,EG5,E5,set_strC,-List.map_set,W10_,W11_]
theorem srv_x1_1(C1:¬(i_1:Int)<i2_1):
  Leave 1 (exec Tryz.prog (tab n) 1 28 (livesOf 148) big srv_C1) (livesOf 148 (outOf 1)) (srv_h1 out_1 i_1 i2_1) (.exit 0) (srv_o1a out_1):=by
 unfold Leave
 simp+decide [srv_h1,loopsOf, Tryz.f148,srv_o1a,srv_C1,C1]
theorem srv_f1(W1:InI ((a0.length:Int)-1))(L2:loopG Tryz.prog (tab n) 1 28 (livesOf 148) 1 srv_C1 (srv_h1 a0 0 ((a0.length:Int)-1))=some (.exit 0,srv_o1a out_1)):
  runL n 148 [.own 0 a0.length] [.row 9 1 (a0.map strC) 0]=some (.tup [],[(0,.row 9 1 (out_1.map strC) 0)]):=by
 have W1_:IntKind.i64.wrap ((a0.length:Int)-1)=(a0.length:Int)-1:=wr64 W1.1 W1.2
 unfold runL fnL
 simp+decide [Tryz.f148,W1_]
 rw [loopX_G (C':=srv_C1) (e:=(srv_h1 a0 0 ((a0.length:Int)-1))) ?_ ?_,L2]
 rotate_left
 ·kernel_rfl
 ·simp+decide [srv_h1,W1_]
 simp+decide [srv_o1a,W1_]
end
end
section
open Go.RowKit
open Lib (decDigits)
attribute [local irreducible] run runL loopG exec
theorem few_lmb{k:Nat}(h:(lmb k).length≤1000000):fewN (lmb k)=true:=Nat.ble_eq_true_of_le (by omega)
theorem k_div{k m:Nat}(hk:(lmb k).length≤1000000)(hm:(lmb m).length≤1000000)(h0:0<m):(oND fun x y=>.tup [natA (lmb (val x / val y)),natA (lmb (val x % val y)),.lit (.int .i64 0)]) [natA (lmb k),natA (lmb m)]=some (.tup [natA (lmb (k / m)),natA (lmb (k % m)),.lit (.int .i64 0)]):=by
 have hb:Nat.blt 0 m=true:=Nat.ble_eq_true_of_le h0
 simp only [oND,decN_nat (lim_lmb _),few_lmb hk,few_lmb hm,val_lmb,hb,Bool.and_self,if_true]
theorem k_uint{k:Nat}(h:k<18446744073709551616):(oN1 u64N fun x=>.tup [.lit (.int .u64 (val x:Nat)),.lit (.bool true)]) [natA (lmb k)]=some (.tup [.lit (.int .u64 (k:Int)),.lit (.bool true)]):=by
 have hl:(lmb k).length≤2:=lmb_len_le (by simpa using h)
 have h64:u64N (lmb k)=true:=by
  unfold u64N
  rw [val_lmb]
  exact Nat.ble_eq_true_of_le h
 simp only [oN1,decN_nat (lim_lmb _),few_lmb (show (lmb k).length≤1000000 by omega),h64,Bool.and_self,if_true,val_lmb]
theorem k_ofu{z:Int}(h0:0≤z)(h1:z<18446744073709551616):(oU fun k=>natA (lmb k)) [.lit (.int .u64 z)]=some (natA (lmb z.toNat)):=if_pos ⟨h0,h1⟩
theorem k_fu{d:Nat}(h:d<18446744073709551616):oFU [.lit (.int .u64 (d:Int)),.lit (.int .i64 10)]=some (.lit (.string (bs (decDigits d)))):=by
 have h1:(0:Int)≤(d:Int)∧(d:Int)<18446744073709551616:=⟨by omega,by omega⟩
 simp only [oFU]
 rw [if_pos h1,Int.toNat_natCast]
 rfl
theorem k_rep{l:List UInt8}(h:l.length≤9):oRepeat [.lit (.string (⟨#[48]⟩:ByteArray)),.lit (.int .i64 (9-((bs l).size:Int)))]=some (.lit (.string (bs (List.replicate (9-l.length) 48)))):=by
 have e:(9-((bs l).size:Int)).toNat=9-l.length:=by rw [bs_size];omega
 have e2:(⟨#[48]⟩:ByteArray).size=1:=rfl
 unfold oRepeat
 dsimp only
 rw [if_pos ⟨by rw [bs_size];omega,by rw [bs_size];omega,by rw [e,e2];omega⟩,e]
 rw [repL]
 rfl
theorem strsL_map(l:List ByteArray):strsL (l.map strC)=some l:=by
 induction l with
 | nil=>rfl
 | cons a l ih=>simp [strsL,ih]
theorem k_join{P:List (List UInt8)}(h1:P.length≤100000000)(h2:P.flatten.length≤100000000):oJoin [.sl 1 ((P.map bs).map strC),.lit (.string (⟨#[]⟩:ByteArray))]=some (.lit (.string (bs P.flatten))):=by
 have e:(P.map bs).map (fun (a:ByteArray)=>a.data.toList)=P:=by
  rw [List.map_map]
  conv=>rhs;rw [←List.map_id P]
  apply List.map_congr_left
  intro x _
  exact bs_data x
 have e2:(⟨#[]⟩:ByteArray).data.toList=[]:=rfl
 simp only [oJoin,strsL_map,e2,e,joinL]
 rw [if_pos ⟨by rw [List.length_map];omega,by omega⟩]
 rfl
def rv(L:List ByteArray)(i:Nat):List ByteArray:=(List.range L.length).map fun t=>if t<i∨L.length≤t+i then L.getD (L.length-1-t) ByteArray.empty else L.getD t ByteArray.empty
theorem rv_len(L:List ByteArray)(i:Nat):(rv L i).length=L.length:=by
 unfold rv
 rw [List.length_map,List.length_range]
theorem rv_get{L:List ByteArray}{i t:Nat}(ht:t<L.length):(rv L i)[t]?=some (if t<i∨L.length≤t+i then L.getD (L.length-1-t) ByteArray.empty else L.getD t ByteArray.empty):=by
 unfold rv
 rw [List.getElem?_map,List.getElem?_range ht]
 rfl
theorem rv_zero(L:List ByteArray):rv L 0=L:=by
 apply List.ext_getElem?
 intro t
 rcases Nat.lt_or_ge t L.length with ht|ht
 ·rw [rv_get ht,if_neg (by omega),List.getD_eq_getElem?_getD,List.getElem?_eq_getElem ht];rfl
 ·rw [List.getElem?_eq_none (by rw [rv_len];exact ht),List.getElem?_eq_none ht]
theorem rv_full{L:List ByteArray}{i:Nat}(h:L.length≤2*i+1):rv L i=L.reverse:=by
 apply List.ext_getElem?
 intro t
 rcases Nat.lt_or_ge t L.length with ht|ht
 ·have e:L.reverse[t]?=some (L.getD (L.length-1-t) ByteArray.empty):=by
   rw [List.getElem?_reverse ht,List.getD_eq_getElem?_getD,List.getElem?_eq_getElem (show L.length-1-t<L.length by omega)];rfl
  rw [rv_get ht,e]
  split
  ·rfl
  ·rename_i h1
   have:L.length-1-t=t:=by omega
   rw [this]
 ·rw [List.getElem?_eq_none (by rw [rv_len];exact ht),List.getElem?_eq_none (by rw [List.length_reverse];exact ht)]
theorem rv_step{L:List ByteArray}{i:Nat}(h:i+i+1<L.length):((rv L i).set i (L.getD (L.length-1-i) ByteArray.empty)).set (L.length-1-i) (L.getD i ByteArray.empty)=rv L (i+1):=by
 apply List.ext_getElem?
 intro t
 rcases Nat.lt_or_ge t L.length with ht|ht
 ·rw [rv_get ht]
  by_cases h1:t=L.length-1-i
  ·subst h1
   rw [List.getElem?_set_self (by rw [List.length_set,rv_len];exact ht),if_pos (.inr (by omega))]
   congr 2
   omega
  ·rw [List.getElem?_set_ne (fun e=>h1 e.symm)]
   by_cases h2:t=i
   ·subst h2
    rw [List.getElem?_set_self (by rw [rv_len];exact ht),if_pos (.inl (by omega))]
   ·rw [List.getElem?_set_ne (fun e=>h2 e.symm),rv_get ht]
    by_cases h3:t<i∨L.length≤t+i
    ·rw [if_pos h3,if_pos (by omega)]
    ·rw [if_neg h3,if_neg (by omega)]
 ·rw [List.getElem?_eq_none (by rw [List.length_set,List.length_set,rv_len];exact ht),List.getElem?_eq_none (by rw [rv_len];exact ht)]
theorem srv_c{n:Nat}{L:List ByteArray}(hl:L.length≤100000000):runL n 148 [.own 0 L.length] [.row 9 1 (L.map strC) 0]=some (.tup [],[(0,.row 9 1 (L.reverse.map strC) 0)]):=by
 obtain ⟨b,hL,hI⟩:=loopG_R (O:=tab n) (P:= Tryz.prog) (m:=1) (N:=28) (lives:=livesOf 148) (r:=1) (C:=srv_C1) (exN:=.exit 0) (M:=L.length / 2) (enc:=fun i (_:Unit)=>srv_h1 (rv L i) i ((L.length:Int)-1-(i:Int))) (out:=fun _=>srv_o1a L.reverse)
  (fun i _=>i≤L.length / 2) () (by omega) (by omega) (fun h=>by cases h)
  (fun i _ hi hI=>by
   have e:((L.length:Int)-1-(i:Int)).toNat=L.length-1-i:=by omega
   have h1:(rv L i)[((L.length:Int)-1-(i:Int)).toNat]?=some (L.getD (L.length-1-i) ByteArray.empty):=by
    rw [e,rv_get (by omega),if_neg (by omega)]
   have h2:(rv L i)[i]?=some (L.getD i ByteArray.empty):=by rw [rv_get (by omega),if_neg (by omega)]
   have R:=srv_r1_1 (n:=n) (i_1:=i) (i2_1:=(L.length:Int)-1-(i:Int)) (out_1:=rv L i) (by omega) (by rw [rv_len];omega) (by omega) h1 (by omega) (by rw [rv_len];omega) h2 ⟨by omega,by omega⟩ ⟨by omega,by omega⟩
   rw [e,rv_step (by omega)] at R
   have e2:(L.length:Int)-1-(i:Int)-1=(L.length:Int)-1-((i+1:Nat):Int):=by omega
   rw [e2] at R
   exact ⟨(),R,by omega⟩)
  (fun _ _=>by
   have R:=srv_x1_1 (n:=n) (i_1:=L.length / 2) (i2_1:=(L.length:Int)-1-((L.length / 2:Nat):Int)) (out_1:=rv L (L.length / 2)) (by omega)
   have e:srv_o1a (rv L (L.length / 2))=srv_o1a L.reverse:=by rw [rv_full (by omega)]
   rw [e] at R
   exact R)
 rw [rv_zero] at hL
 have e:(L.length:Int)-1-((0:Nat):Int)=(L.length:Int)-1:=by omega
 rw [e] at hL
 exact srv_f1 ⟨by omega,by omega⟩ hL
theorem ldc_c{n K:Nat}(hK:(lmb K).length≤100000):run (n+5) 141 [natA (lmb K)]=some (.lit (.string (bs (decDigits K)))):=by
 by_cases h0:K=0
 ·subst h0
  have e:bs (decDigits 0)=(⟨#[48]⟩:ByteArray):=by rw [dd_lt (by omega)];rfl
  rw [e]
  exact ldc_f1 (by rw [lmb_zero];rfl)
 have h9:(lmb 1000000000).length≤1000000:=by decide+kernel
 have hbits:K<2 ^ (32*(lmb K).length):=by
  have:=val_lt (lim_lmb K)
  rw [val_lmb] at this
  rwa [Nat.pow_mul]
 have hM:=rnd_le (32*(lmb K).length) K
 have hdd:=dd_bits _ K hbits
 obtain ⟨s,hL,hI⟩:=loopG_R (O:=tab (n+5)) (P:= Tryz.prog) (m:=0) (N:=50) (lives:=livesOf 141) (r:=5) (C:=ldc_C5) (exN:=.exit 0) (M:=rnd (32*(lmb K).length) K) (enc:=fun i (s:Nat × List (List UInt8))=>ldc_h5 (lmb s.1) (lmb 1000000000) (s.2.map bs)) (out:=fun s=>ldc_o5a (s.2.map bs))
  (fun i s=>s.1≤K∧rnd (32*(lmb K).length) s.1+i=rnd (32*(lmb K).length) K∧s.2.length=i∧dd0 s.1++s.2.reverse.flatten=dd0 K) (K,[]) ⟨Nat.le_refl _,rfl,rfl,by simp⟩ (by omega) (fun h=>by cases h)
  (fun i s hi hI=>by
   obtain ⟨k,parts⟩:=s
   obtain ⟨i1,i2,i3,i4⟩:=hI
   dsimp only at i1 i2 i3 i4 ⊢
   have hk0:0<k:=by
    rcases Nat.eq_zero_or_pos k with h|h
    ·subst h;rw [rnd_zero] at i2;omega
    ·exact h
   have hkl:(lmb k).length≤(lmb K).length:=lmb_len_mono i1
   have hp:0<(lmb k).length:=by rw [lmb_pos hk0];simp
   have hlim:k<2 ^ (32*(lmb K).length):=Nat.lt_of_le_of_lt i1 hbits
   have hr:rnd (32*(lmb K).length) k=rnd (32*(lmb K).length) (k / 1000000000)+1:=by
    obtain ⟨f,hf⟩:∃f,32*(lmb K).length=f+1:=⟨32*(lmb K).length-1,by omega⟩
    rw [hf] at hlim ⊢
    rw [rnd,if_neg (by omega)]
    congr 1
    rw [Nat.pow_succ] at hlim
    exact rnd_enough f (f+1) _ (by omega) (by rw [Nat.pow_succ];omega)
   obtain ⟨d1,d2⟩:=dd0_step hk0
   have K2:=k_div (k:=k) (m:=1000000000) (by omega) h9 (by omega)
   have hrm:k % 1000000000<18446744073709551616:=by omega
   have K3:=k_uint hrm
   have K4:=k_fu hrm
   by_cases hq:0<k / 1000000000
   ·rw [if_pos hq] at d1
    have hql:0<(lmb (k / 1000000000)).length:=by rw [lmb_pos hq];simp
    refine ⟨(k / 1000000000,parts++[List.replicate (9-(decDigits (k % 1000000000)).length) 48++decDigits (k % 1000000000)]),?_,Nat.le_trans (Nat.div_le_self _ _) i1,by dsimp only;omega,by simp [i3],?_⟩
    ·have R:=ldc_r5_1 (n:=n) (out_5:=parts.map bs) (by omega) K2 K3 K4 (by omega) ⟨by rw [bs_size];omega,by rw [bs_size];omega⟩ (k_rep d2) (by rw [bs_size,bs_size,List.length_replicate];omega) (bs_app _ _).symm (by rw [List.length_map];omega)
     have e:parts.map bs++[bs (List.replicate (9-(decDigits (k % 1000000000)).length) 48++decDigits (k % 1000000000))]=(parts++[List.replicate (9-(decDigits (k % 1000000000)).length) 48++decDigits (k % 1000000000)]).map bs:=by simp
     rw [e] at R
     exact R
    ·dsimp only
     rw [List.reverse_append,List.reverse_singleton,List.singleton_append,List.flatten_cons,←List.append_assoc,←d1]
     exact i4
   ·rw [if_neg hq] at d1
    have hq0:k / 1000000000=0:=by omega
    refine ⟨(k / 1000000000,parts++[decDigits (k % 1000000000)]),?_,Nat.le_trans (Nat.div_le_self _ _) i1,by dsimp only;omega,by simp [i3],?_⟩
    ·have R:=ldc_r5_2 (n:=n) (out_5:=parts.map bs) (by omega) K2 K3 K4 (by rw [hq0,lmb_zero];simp) (by rw [List.length_map];omega)
     have e:parts.map bs++[bs (decDigits (k % 1000000000))]=(parts++[decDigits (k % 1000000000)]).map bs:=by simp
     rw [e] at R
     exact R
    ·dsimp only
     rw [List.reverse_append,List.reverse_singleton,List.singleton_append,List.flatten_cons,←List.append_assoc,←d1]
     exact i4)
  (fun s hI=>by
   obtain ⟨k,parts⟩:=s
   obtain ⟨i1,i2,i3,i4⟩:=hI
   dsimp only at i1 i2 i3 i4 ⊢
   have hk0:k=0:=by
    rcases Nat.eq_zero_or_pos k with h|h
    ·exact h
    ·exfalso
     have hp:0<32*(lmb K).length:=by
      have hkl:(lmb k).length≤(lmb K).length:=lmb_len_mono i1
      have:0<(lmb k).length:=by rw [lmb_pos h];simp
      omega
     obtain ⟨f,hf⟩:∃f,32*(lmb K).length=f+1:=⟨32*(lmb K).length-1,by omega⟩
     rw [hf,rnd,if_neg (by omega)] at i2
     omega
   subst hk0
   exact ldc_x5_1 (by rw [lmb_zero];simp))
 obtain ⟨k,parts⟩:=s
 obtain ⟨i1,i2,i3,i4⟩:=hI
 dsimp only at i1 i2 i3 i4 hL
 have hk0:k=0:=by
  rcases Nat.eq_zero_or_pos k with h|h
  ·exact h
  ·exfalso
   have hp:0<32*(lmb K).length:=by
    have hkl:(lmb k).length≤(lmb K).length:=lmb_len_mono i1
    have:0<(lmb k).length:=by rw [lmb_pos h];simp
    omega
   obtain ⟨f,hf⟩:∃f,32*(lmb K).length=f+1:=⟨32*(lmb K).length-1,by omega⟩
   rw [hf] at i2
   have e:rnd (f+1) k=rnd f (k / 1000000000)+1:=by rw [rnd,if_neg (by omega)]
   omega
 subst hk0
 have e0:dd0 0=[]:=rfl
 have e1:dd0 K=decDigits K:=if_neg h0
 rw [e0,List.nil_append,e1] at i4
 have V:=srv_c (n:=n+4) (L:=parts.map bs) (by rw [List.length_map];omega)
 have J:=k_join (P:=parts.reverse) (by rw [List.length_reverse];omega) (by rw [i4];omega)
 rw [i4,List.map_reverse] at J
 exact ldc_f2 (by have:0<(lmb K).length:=by rw [lmb_pos (by omega)];simp
                  omega) (HR:=by rw [List.length_reverse]) (k_ofu (z:=1000000000) (by omega) (by omega)) hL V J
end
section
open Go.RowKit
section
variable {cat2 : ByteArray} {a0 : Rat} {cat : ByteArray} {r2 : ByteArray} {r : ByteArray} {n : Nat}
theorem lsz_f1(K1:run (n+5) 141 [natA (rawQ a0).l1]=some (.lit (.string r)))(C2:0<((rawQ a0).l2.length:Int))(K3:run (n+5) 141 [natA (rawQ a0).l2]=some (.lit (.string r2)))(S4:(⟨#[47]⟩:ByteArray).size+r2.size≤9000000000000000000)(D4:cat=(⟨#[47]⟩:ByteArray)++r2)(S5:r.size+cat.size≤9000000000000000000)(D5:cat2=r++cat):
  run (n+6) 119 [ratV a0]=some (.lit (.string cat2)):=by
 have C2_:0<(rawQ a0).l2.length:=by omega
 have C2_z:((rawQ a0).l2.length:Int)≠0:=by omega
 have C2_e:(((rawQ a0).l2.length:Int)==0)=false:=by simpa using C2_z
 have C2_g:(((rawQ a0).l2.length:Int) !=0)=true:=by simpa using C2_z
 have S4_r:=cat_r S4 D4
 have S4_q:=cat_q S4 D4
 have S5_r:=cat_r S5 D5
 have S5_q:=cat_q S5 D5
 unfold run fnP
 simp+decide [Tryz.f119,K1,C2,C2_,C2_e,C2_g,K3,↓S4_r,S4_q,↓S5_r,S5_q]
theorem lsz_f2(K1:run (n+5) 141 [natA (rawQ a0).l1]=some (.lit (.string r)))(C2:¬0<((rawQ a0).l2.length:Int)):
  run (n+6) 119 [ratV a0]=some (.lit (.string r)):=by
 have C2_:¬0<(rawQ a0).l2.length:=by omega
 have C2_z:((rawQ a0).l2.length:Int)=0:=by omega
 have C2_e:(((rawQ a0).l2.length:Int)==0)=true:=by rw [C2_z];simp
 have C2_g:(((rawQ a0).l2.length:Int) !=0)=false:=by rw [C2_z];simp
 unfold run fnP
 simp+decide [Tryz.f119,K1,C2,C2_,C2_e,C2_g]
end
end
section
open Go.RowKit
end
section
open Go.RowKit
end
section
open Go.RowKit
end
section
open Go.RowKit
open Lib (decDigits)
attribute [local irreducible] run runL loopG exec
def absT(q:Rat):List UInt8:=decDigits q.num.natAbs++if q.den=1 then [] else 47::decDigits q.den
theorem absT_len{q:Rat}(h:H q≤100000):(absT q).length≤7000000:=by
 have bits:∀K:Nat,K<2 ^ (32*(lmb K).length):=fun K=>by
  have:=val_lt (lim_lmb K)
  rw [val_lmb] at this
  rwa [Nat.pow_mul]
 have h1:=dd_bits _ _ (bits q.num.natAbs)
 have h2:=dd_bits _ _ (bits q.den)
 have a1:(lmb q.num.natAbs).length≤H q:=Nat.le_max_left _ _
 have a2:(lmb q.den).length≤H q:=Nat.le_max_right _ _
 unfold absT
 rw [List.length_append]
 split
 ·simp;omega
 ·simp;omega
theorem rawQ_parts(q:Rat):(rawQ q).l1=lmb q.num.natAbs∧(rawQ q).l2=(if q.den=1 then [] else lmb q.den)∧(rawQ q).s=decide (q.num<0):=⟨rfl,rfl,rfl⟩
theorem den_pos(q:Rat):0<(lmb q.den).length:=by rw [lmb_pos q.den_pos];simp
theorem lsz_c{n:Nat}{q:Rat}(hq:H q≤100000):run (n+6) 119 [ratV q]=some (.lit (.string (bs (absT q)))):=by
 have a1:(lmb q.num.natAbs).length≤H q:=Nat.le_max_left _ _
 have a2:(lmb q.den).length≤H q:=Nat.le_max_right _ _
 have ht:=absT_len hq
 have K1:=ldc_c (n:=n) (K:=q.num.natAbs) (by omega)
 by_cases h:q.den=1
 ·have e:absT q=decDigits q.num.natAbs:=by unfold absT;rw [if_pos h,List.append_nil]
  rw [e]
  exact lsz_f2 K1 (by rw [(rawQ_parts q).2.1,if_pos h];simp)
 ·have e:bs (absT q)=bs (decDigits q.num.natAbs)++((⟨#[47]⟩:ByteArray)++bs (decDigits q.den)):=by
   unfold absT
   rw [if_neg h]
   have e2:(⟨#[47]⟩:ByteArray)=bs [47]:=rfl
   rw [e2,bs_app,bs_app];rfl
  have el:(rawQ q).l2=lmb q.den:=by rw [(rawQ_parts q).2.1,if_neg h]
  have K3:=ldc_c (n:=n) (K:=q.den) (by omega)
  rw [←el] at K3
  have hd:=den_pos q
  unfold absT at ht
  rw [if_neg h,List.length_append,List.length_cons] at ht
  have s1:(⟨#[47]⟩:ByteArray).size+(bs (decDigits q.den)).size≤9000000000000000000:=by rw [bs_size];show 1+_≤_;omega
  have s2:(bs (decDigits q.num.natAbs)).size+((⟨#[47]⟩:ByteArray)++bs (decDigits q.den)).size≤9000000000000000000:=by
   have e2:(⟨#[47]⟩:ByteArray)=bs [47]:=rfl
   rw [e2,bs_app,bs_size,bs_size];simp;omega
  exact lsz_f1 K1 (by rw [el];omega) K3 s1 rfl s2 e
def jn(a:List UInt8)(neg:Bool)(p:List UInt8):List UInt8:=if a=[] then (if neg=true then 45::p else p) else a++((if neg=true then [32,45,32] else [32,43,32])++p)
theorem jn_len(a:List UInt8)(neg:Bool)(p:List UInt8):(jn a neg p).length≤a.length+p.length+3:=by
 unfold jn
 split
 ·split
  ·rw [List.length_cons];omega
  ·omega
 ·rw [List.length_append,List.length_append]
  split <;>simp <;>omega
end
section
open Go.RowKit
noncomputable def ltx_C4:Code:=(loopsOf (bodyOf Tryz.f84)).getD 0 .skip
def ltx_h4(a0:Form)(i_4:Nat):St:=
 ⟨[(1,.ptr 0 0),(3,.ptr 1 0),(4,.clo 115 [.ptr 1 0]),(11,.sl 4 (a0.1.map termC)),(12,.lit (.int .i64 (a0.1.length:Int))),(13,.lit (.int .i64 (i_4:Int)))],
  [(0,some (.box 28 [.sl 4 (a0.1.map termC),.lit (.bool (rawQ a0.2).s),natA (rawQ a0.2).l1,natA (rawQ a0.2).l2] false)),
   (1,some (.box 137 [(.lit (.pointer none)),.nl 1] false))],2⟩
def ltx_o4a(a0:Form):St:=
 ⟨[(1,.ptr 0 0),(3,.ptr 1 0),(4,.clo 115 [.ptr 1 0])],
  [(0,some (.box 28 [.sl 4 (a0.1.map termC),.lit (.bool (rawQ a0.2).s),natA (rawQ a0.2).l1,natA (rawQ a0.2).l2] false)),
   (1,some (.box 137 [(.lit (.pointer none)),.nl 1] false))],2⟩
theorem ltx_x4_1{n:Nat}{a0:Form}{i_4:Nat}(C1:¬(i_4:Int)<(a0.1.length:Int)):
  Leave 0 (exec Tryz.prog (tab (n+7)) 0 55 (livesOf 84) big ltx_C4) (livesOf 84 (outOf 4)) (ltx_h4 a0 i_4) (.exit 0) (ltx_o4a a0):=by
 have C1_:¬i_4<a0.1.length:=by omega
 unfold Leave
 simp+decide [ltx_h4,loopsOf, Tryz.f84,ltx_o4a,ltx_C4,C1,C1_]
end
section
open Go.RowKit
def ltx_hN(a0:Form)(i_4:Nat)(ab:ByteArray):St:=
 ⟨[(1,.ptr 0 0),(3,.ptr 1 0),(4,.clo 115 [.ptr 1 0]),(11,.sl 4 (a0.1.map termC)),(12,.lit (.int .i64 (a0.1.length:Int))),(13,.lit (.int .i64 (i_4:Int)))],
  [(0,some (.box 28 [.sl 4 (a0.1.map termC),.lit (.bool (rawQ a0.2).s),natA (rawQ a0.2).l1,natA (rawQ a0.2).l2] false)),
   (1,some (.box 137 [.ptr 1 0,.own 2 ab.size] false)),
   (2,some (.row 5 1 (strEls ab) 0))],3⟩
def ltx_oN(a0:Form)(ab:ByteArray):St:=
 ⟨[(1,.ptr 0 0),(3,.ptr 1 0),(4,.clo 115 [.ptr 1 0])],
  [(0,some (.box 28 [.sl 4 (a0.1.map termC),.lit (.bool (rawQ a0.2).s),natA (rawQ a0.2).l1,natA (rawQ a0.2).l2] false)),
   (1,some (.box 137 [.ptr 1 0,.own 2 ab.size] false)),
   (2,some (.row 5 1 (strEls ab) 0))],3⟩
theorem ltE1_1{n:Nat}{rb:ByteArray}{a0:Form}{i_4:Nat}{v3:Int}{q3:Rat}{r5:ByteArray}{cat7:ByteArray}{r6:ByteArray}{cat8:ByteArray}{cat9:ByteArray}(C1:(i_4:Int)<(a0.1.length:Int))(E2:a0.1[i_4]?=some (v3,q3))(K3:(oItoa) [.lit (.int .i64 v3)]=some (.lit (.string r5)))(S4:(⟨#[120]⟩:ByteArray).size+r5.size≤9000000000000000000)(D4:cat7=(⟨#[120]⟩:ByteArray)++r5)(K5:run (n+6) 119 [ratV q3]=some (.lit (.string r6)))(C6:¬r6=(⟨#[49]⟩:ByteArray))(S7:r6.size+(⟨#[42]⟩:ByteArray).size≤9000000000000000000)(D7:cat8=r6++(⟨#[42]⟩:ByteArray))(S8:cat8.size+cat7.size≤9000000000000000000)(D8:cat9=cat8++cat7)(K9:runL (n+6) 115 [.lit (.bool (rawQ q3).s),.lit (.string cat9),.ptr 0 0] [.box 137 [(.lit (.pointer none)),.nl 1] false]=some (.tup [],[(0,.box 137 [.ptr 0 0,.own 1 rb.size] false),(1,.row 5 1 (strEls rb) 0)]))(W10:InI ((i_4:Int)+1)):
  Cont 0 (exec Tryz.prog (tab (n+7)) 0 55 (livesOf 84) big ltx_C4) (livesOf 84 4) (ltx_h4 a0 i_4) (ltx_hN a0 (i_4+1) rb):=by
 obtain ⟨ks0,hks0⟩:∃k:ByteArray,(⟨#[42]⟩:ByteArray)=k:=⟨_,rfl⟩
 rw [hks0] at S7 D7
 have C1_:i_4<a0.1.length:=by omega
 obtain ⟨EL2,EG2⟩:=List.getElem?_eq_some_iff.1 E2
 have S4_r:=cat_r S4 D4
 have S4_q:=cat_q S4 D4
 simp only [ratV] at K5
 have C6_:(r6.toList==(⟨#[49]⟩:ByteArray).toList)=false:=by rw [beq_eq_false_iff_ne];exact fun h=>C6 (ba_inj h)
 have C6_n:(r6.toList !=(⟨#[49]⟩:ByteArray).toList)=true:=by rw [bne,C6_];rfl
 have C6_k:(r6.toList==([49]:List UInt8))=false:=by rw [show ([49]:List UInt8)=(⟨#[49]⟩:ByteArray).toList by rw [ba_toList]];exact C6_
 have S7_r:=cat_r S7 D7
 have S7_q:=cat_q S7 D7
 have S8_r:=cat_r S8 D8
 have S8_q:=cat_q S8 D8
 have W10_:IntKind.i64.wrap ((i_4:Int)+1)=(i_4:Int)+1:=wr64 W10.1 W10.2
 unfold Cont
 simp+decide [ltx_h4,ltx_hN,loopsOf, Tryz.f84,ltx_C4,C1,C1_,EL2,EG2,E2,K3,↓S4_r,S4_q,K5,C6_,C6_n,C6_k,↓S7_r,S7_q,↓S8_r,S8_q,K9,W10_,hks0]
theorem ltE2_1{n:Nat}{rb:ByteArray}{a0:Form}{i_4:Nat}{v3:Int}{q3:Rat}{r5:ByteArray}{cat7:ByteArray}{r6:ByteArray}{cat8:ByteArray}{cat9:ByteArray}(C1:(i_4:Int)<(a0.1.length:Int))(E2:a0.1[i_4]?=some (v3,q3))(K3:(oItoa) [.lit (.int .i64 v3)]=some (.lit (.string r5)))(S4:(⟨#[120]⟩:ByteArray).size+r5.size≤9000000000000000000)(D4:cat7=(⟨#[120]⟩:ByteArray)++r5)(K5:run (n+6) 119 [ratV q3]=some (.lit (.string r6)))(C6:¬r6=(⟨#[49]⟩:ByteArray))(S7:r6.size+(⟨#[42]⟩:ByteArray).size≤9000000000000000000)(D7:cat8=r6++(⟨#[42]⟩:ByteArray))(S8:cat8.size+cat7.size≤9000000000000000000)(D8:cat9=cat8++cat7)(K9:runL (n+6) 115 [.lit (.bool (rawQ q3).s),.lit (.string cat9),.ptr 0 0] [.box 137 [(.lit (.pointer none)),.nl 1] false]=some (.tup [],[(0,.box 137 [.ptr 0 0,.own 2 rb.size] false),(2,.row 5 1 (strEls rb) 0)]))(W10:InI ((i_4:Int)+1)):
  Cont 0 (exec Tryz.prog (tab (n+7)) 0 55 (livesOf 84) big ltx_C4) (livesOf 84 4) (ltx_h4 a0 i_4) (ltx_hN a0 (i_4+1) rb):=by
 obtain ⟨ks0,hks0⟩:∃k:ByteArray,(⟨#[42]⟩:ByteArray)=k:=⟨_,rfl⟩
 rw [hks0] at S7 D7
 have C1_:i_4<a0.1.length:=by omega
 obtain ⟨EL2,EG2⟩:=List.getElem?_eq_some_iff.1 E2
 have S4_r:=cat_r S4 D4
 have S4_q:=cat_q S4 D4
 simp only [ratV] at K5
 have C6_:(r6.toList==(⟨#[49]⟩:ByteArray).toList)=false:=by rw [beq_eq_false_iff_ne];exact fun h=>C6 (ba_inj h)
 have C6_n:(r6.toList !=(⟨#[49]⟩:ByteArray).toList)=true:=by rw [bne,C6_];rfl
 have C6_k:(r6.toList==([49]:List UInt8))=false:=by rw [show ([49]:List UInt8)=(⟨#[49]⟩:ByteArray).toList by rw [ba_toList]];exact C6_
 have S7_r:=cat_r S7 D7
 have S7_q:=cat_q S7 D7
 have S8_r:=cat_r S8 D8
 have S8_q:=cat_q S8 D8
 have W10_:IntKind.i64.wrap ((i_4:Int)+1)=(i_4:Int)+1:=wr64 W10.1 W10.2
 unfold Cont
 simp+decide [ltx_h4,ltx_hN,loopsOf, Tryz.f84,ltx_C4,C1,C1_,EL2,EG2,E2,K3,↓S4_r,S4_q,K5,C6_,C6_n,C6_k,↓S7_r,S7_q,↓S8_r,S8_q,K9,W10_,hks0]
theorem ltN_1{n:Nat}{ab rb:ByteArray}{a0:Form}{i_4:Nat}{v3:Int}{q3:Rat}{r5:ByteArray}{cat7:ByteArray}{r6:ByteArray}{cat8:ByteArray}{cat9:ByteArray}(C1:(i_4:Int)<(a0.1.length:Int))(E2:a0.1[i_4]?=some (v3,q3))(K3:(oItoa) [.lit (.int .i64 v3)]=some (.lit (.string r5)))(S4:(⟨#[120]⟩:ByteArray).size+r5.size≤9000000000000000000)(D4:cat7=(⟨#[120]⟩:ByteArray)++r5)(K5:run (n+6) 119 [ratV q3]=some (.lit (.string r6)))(C6:¬r6=(⟨#[49]⟩:ByteArray))(S7:r6.size+(⟨#[42]⟩:ByteArray).size≤9000000000000000000)(D7:cat8=r6++(⟨#[42]⟩:ByteArray))(S8:cat8.size+cat7.size≤9000000000000000000)(D8:cat9=cat8++cat7)(K9:runL (n+6) 115 [.lit (.bool (rawQ q3).s),.lit (.string cat9),.ptr 0 0] [.box 137 [.ptr 0 0,.own 1 ab.size] false,.row 5 1 (strEls ab) 0]=some (.tup [],[(0,.box 137 [.ptr 0 0,.own 3 rb.size] false),(3,.row 5 1 (strEls rb) 0)]))(W10:InI ((i_4:Int)+1)):
  Cont 0 (exec Tryz.prog (tab (n+7)) 0 55 (livesOf 84) big ltx_C4) (livesOf 84 4) (ltx_hN a0 i_4 ab) (ltx_hN a0 (i_4+1) rb):=by
 obtain ⟨ks0,hks0⟩:∃k:ByteArray,(⟨#[42]⟩:ByteArray)=k:=⟨_,rfl⟩
 rw [hks0] at S7 D7
 have C1_:i_4<a0.1.length:=by omega
 obtain ⟨EL2,EG2⟩:=List.getElem?_eq_some_iff.1 E2
 have S4_r:=cat_r S4 D4
 have S4_q:=cat_q S4 D4
 simp only [ratV] at K5
 have C6_:(r6.toList==(⟨#[49]⟩:ByteArray).toList)=false:=by rw [beq_eq_false_iff_ne];exact fun h=>C6 (ba_inj h)
 have C6_n:(r6.toList !=(⟨#[49]⟩:ByteArray).toList)=true:=by rw [bne,C6_];rfl
 have C6_k:(r6.toList==([49]:List UInt8))=false:=by rw [show ([49]:List UInt8)=(⟨#[49]⟩:ByteArray).toList by rw [ba_toList]];exact C6_
 have S7_r:=cat_r S7 D7
 have S7_q:=cat_q S7 D7
 have S8_r:=cat_r S8 D8
 have S8_q:=cat_q S8 D8
 have W10_:IntKind.i64.wrap ((i_4:Int)+1)=(i_4:Int)+1:=wr64 W10.1 W10.2
 unfold Cont
 simp+decide [ltx_hN,loopsOf, Tryz.f84,ltx_C4,C1,C1_,EL2,EG2,E2,K3,↓S4_r,S4_q,K5,C6_,C6_n,C6_k,↓S7_r,S7_q,↓S8_r,S8_q,K9,W10_,hks0]
theorem ltE1_2{n:Nat}{rb:ByteArray}{a0:Form}{i_4:Nat}{v3:Int}{q3:Rat}{r5:ByteArray}{cat7:ByteArray}{r6:ByteArray}(C1:(i_4:Int)<(a0.1.length:Int))(E2:a0.1[i_4]?=some (v3,q3))(K3:(oItoa) [.lit (.int .i64 v3)]=some (.lit (.string r5)))(S4:(⟨#[120]⟩:ByteArray).size+r5.size≤9000000000000000000)(D4:cat7=(⟨#[120]⟩:ByteArray)++r5)(K5:run (n+6) 119 [ratV q3]=some (.lit (.string r6)))(C6:r6=(⟨#[49]⟩:ByteArray))(K7:runL (n+6) 115 [.lit (.bool (rawQ q3).s),.lit (.string cat7),.ptr 0 0] [.box 137 [(.lit (.pointer none)),.nl 1] false]=some (.tup [],[(0,.box 137 [.ptr 0 0,.own 1 rb.size] false),(1,.row 5 1 (strEls rb) 0)]))(W8:InI ((i_4:Int)+1)):
  Cont 0 (exec Tryz.prog (tab (n+7)) 0 55 (livesOf 84) big ltx_C4) (livesOf 84 4) (ltx_h4 a0 i_4) (ltx_hN a0 (i_4+1) rb):=by
 have C1_:i_4<a0.1.length:=by omega
 obtain ⟨EL2,EG2⟩:=List.getElem?_eq_some_iff.1 E2
 have S4_r:=cat_r S4 D4
 have S4_q:=cat_q S4 D4
 simp only [ratV] at K5
 have C6_:(r6.toList==(⟨#[49]⟩:ByteArray).toList)=true:=by rw [C6];simp
 have C6_n:(r6.toList !=(⟨#[49]⟩:ByteArray).toList)=false:=by rw [bne,C6_];rfl
 have C6_k:(r6.toList==([49]:List UInt8))=true:=by rw [show ([49]:List UInt8)=(⟨#[49]⟩:ByteArray).toList by rw [ba_toList]];exact C6_
 have W8_:IntKind.i64.wrap ((i_4:Int)+1)=(i_4:Int)+1:=wr64 W8.1 W8.2
 unfold Cont
 simp+decide [ltx_h4,ltx_hN,loopsOf, Tryz.f84,ltx_C4,C1,C1_,EL2,EG2,E2,K3,↓S4_r,S4_q,K5,C6_,C6_n,C6_k,K7,W8_]
theorem ltE2_2{n:Nat}{rb:ByteArray}{a0:Form}{i_4:Nat}{v3:Int}{q3:Rat}{r5:ByteArray}{cat7:ByteArray}{r6:ByteArray}(C1:(i_4:Int)<(a0.1.length:Int))(E2:a0.1[i_4]?=some (v3,q3))(K3:(oItoa) [.lit (.int .i64 v3)]=some (.lit (.string r5)))(S4:(⟨#[120]⟩:ByteArray).size+r5.size≤9000000000000000000)(D4:cat7=(⟨#[120]⟩:ByteArray)++r5)(K5:run (n+6) 119 [ratV q3]=some (.lit (.string r6)))(C6:r6=(⟨#[49]⟩:ByteArray))(K7:runL (n+6) 115 [.lit (.bool (rawQ q3).s),.lit (.string cat7),.ptr 0 0] [.box 137 [(.lit (.pointer none)),.nl 1] false]=some (.tup [],[(0,.box 137 [.ptr 0 0,.own 2 rb.size] false),(2,.row 5 1 (strEls rb) 0)]))(W8:InI ((i_4:Int)+1)):
  Cont 0 (exec Tryz.prog (tab (n+7)) 0 55 (livesOf 84) big ltx_C4) (livesOf 84 4) (ltx_h4 a0 i_4) (ltx_hN a0 (i_4+1) rb):=by
 have C1_:i_4<a0.1.length:=by omega
 obtain ⟨EL2,EG2⟩:=List.getElem?_eq_some_iff.1 E2
 have S4_r:=cat_r S4 D4
 have S4_q:=cat_q S4 D4
 simp only [ratV] at K5
 have C6_:(r6.toList==(⟨#[49]⟩:ByteArray).toList)=true:=by rw [C6];simp
 have C6_n:(r6.toList !=(⟨#[49]⟩:ByteArray).toList)=false:=by rw [bne,C6_];rfl
 have C6_k:(r6.toList==([49]:List UInt8))=true:=by rw [show ([49]:List UInt8)=(⟨#[49]⟩:ByteArray).toList by rw [ba_toList]];exact C6_
 have W8_:IntKind.i64.wrap ((i_4:Int)+1)=(i_4:Int)+1:=wr64 W8.1 W8.2
 unfold Cont
 simp+decide [ltx_h4,ltx_hN,loopsOf, Tryz.f84,ltx_C4,C1,C1_,EL2,EG2,E2,K3,↓S4_r,S4_q,K5,C6_,C6_n,C6_k,K7,W8_]
theorem ltN_2{n:Nat}{ab rb:ByteArray}{a0:Form}{i_4:Nat}{v3:Int}{q3:Rat}{r5:ByteArray}{cat7:ByteArray}{r6:ByteArray}(C1:(i_4:Int)<(a0.1.length:Int))(E2:a0.1[i_4]?=some (v3,q3))(K3:(oItoa) [.lit (.int .i64 v3)]=some (.lit (.string r5)))(S4:(⟨#[120]⟩:ByteArray).size+r5.size≤9000000000000000000)(D4:cat7=(⟨#[120]⟩:ByteArray)++r5)(K5:run (n+6) 119 [ratV q3]=some (.lit (.string r6)))(C6:r6=(⟨#[49]⟩:ByteArray))(K7:runL (n+6) 115 [.lit (.bool (rawQ q3).s),.lit (.string cat7),.ptr 0 0] [.box 137 [.ptr 0 0,.own 1 ab.size] false,.row 5 1 (strEls ab) 0]=some (.tup [],[(0,.box 137 [.ptr 0 0,.own 3 rb.size] false),(3,.row 5 1 (strEls rb) 0)]))(W8:InI ((i_4:Int)+1)):
  Cont 0 (exec Tryz.prog (tab (n+7)) 0 55 (livesOf 84) big ltx_C4) (livesOf 84 4) (ltx_hN a0 i_4 ab) (ltx_hN a0 (i_4+1) rb):=by
 have C1_:i_4<a0.1.length:=by omega
 obtain ⟨EL2,EG2⟩:=List.getElem?_eq_some_iff.1 E2
 have S4_r:=cat_r S4 D4
 have S4_q:=cat_q S4 D4
 simp only [ratV] at K5
 have C6_:(r6.toList==(⟨#[49]⟩:ByteArray).toList)=true:=by rw [C6];simp
 have C6_n:(r6.toList !=(⟨#[49]⟩:ByteArray).toList)=false:=by rw [bne,C6_];rfl
 have C6_k:(r6.toList==([49]:List UInt8))=true:=by rw [show ([49]:List UInt8)=(⟨#[49]⟩:ByteArray).toList by rw [ba_toList]];exact C6_
 have W8_:IntKind.i64.wrap ((i_4:Int)+1)=(i_4:Int)+1:=wr64 W8.1 W8.2
 unfold Cont
 simp+decide [ltx_hN,loopsOf, Tryz.f84,ltx_C4,C1,C1_,EL2,EG2,E2,K3,↓S4_r,S4_q,K5,C6_,C6_n,C6_k,K7,W8_]
theorem ltN_x{n:Nat}{ab:ByteArray}{a0:Form}{i_4:Nat}(C1:¬(i_4:Int)<(a0.1.length:Int)):
  Leave 0 (exec Tryz.prog (tab (n+7)) 0 55 (livesOf 84) big ltx_C4) (livesOf 84 (outOf 4)) (ltx_hN a0 i_4 ab) (.exit 0) (ltx_oN a0 ab):=by
 have C1_:¬i_4<a0.1.length:=by omega
 unfold Leave
 simp+decide [ltx_hN,loopsOf, Tryz.f84,ltx_oN,ltx_C4,C1,C1_]
theorem ltFE1{n:Nat}{rb:ByteArray}{a0:Form}{r8:ByteArray}{r10:ByteArray}(L1:loopG Tryz.prog (tab (n+7)) 0 55 (livesOf 84) 4 ltx_C4 (ltx_h4 a0 0)=some (.exit 0,ltx_o4a a0))(C2:0<((rawQ a0.2).l1.length:Int))(K3:run (n+6) 119 [ratV a0.2]=some (.lit (.string r8)))(K4:runL (n+6) 115 [.lit (.bool (rawQ a0.2).s),.lit (.string r8),.ptr 0 0] [.box 137 [(.lit (.pointer none)),.nl 1] false]=some (.tup [],[(0,.box 137 [.ptr 0 0,.own 1 rb.size] false),(1,.row 5 1 (strEls rb) 0)]))(K5:runL (n+6) 120 [.ptr 0 0] [.box 137 [.ptr 0 0,.own 1 rb.size] false,.row 5 1 (strEls rb) 0]=some (.lit (.string r10),[(0,.box 137 [.ptr 0 0,.own 1 rb.size] false)])):
  run (n+7) 84 [formV a0]=some (.lit (.string r10)):=by
 have C2_:0<(rawQ a0.2).l1.length:=by omega
 have C2_z:((rawQ a0.2).l1.length:Int)≠0:=by omega
 have C2_e:(((rawQ a0.2).l1.length:Int)==0)=false:=by simpa using C2_z
 have C2_g:(((rawQ a0.2).l1.length:Int) !=0)=true:=by simpa using C2_z
 simp only [ratV] at K3
 unfold run fnP
 simp+decide [Tryz.f84,C2,C2_,C2_e,C2_g,K3,K4,K5]
 rw [loopX_G (C':=ltx_C4) (e:=(ltx_h4 a0 0)) ?_ ?_,L1]
 rotate_left
 ·kernel_rfl
 ·simp+decide [ltx_h4,C2,C2_,C2_e,C2_g,K3,K4,K5]
 simp+decide [ltx_o4a,C2,C2_,C2_e,C2_g,K3,K4,K5]
theorem ltFE2{n:Nat}{rb:ByteArray}{a0:Form}{r8:ByteArray}{r10:ByteArray}(L1:loopG Tryz.prog (tab (n+7)) 0 55 (livesOf 84) 4 ltx_C4 (ltx_h4 a0 0)=some (.exit 0,ltx_o4a a0))(C2:0<((rawQ a0.2).l1.length:Int))(K3:run (n+6) 119 [ratV a0.2]=some (.lit (.string r8)))(K4:runL (n+6) 115 [.lit (.bool (rawQ a0.2).s),.lit (.string r8),.ptr 0 0] [.box 137 [(.lit (.pointer none)),.nl 1] false]=some (.tup [],[(0,.box 137 [.ptr 0 0,.own 2 rb.size] false),(2,.row 5 1 (strEls rb) 0)]))(K5:runL (n+6) 120 [.ptr 0 0] [.box 137 [.ptr 0 0,.own 1 rb.size] false,.row 5 1 (strEls rb) 0]=some (.lit (.string r10),[(0,.box 137 [.ptr 0 0,.own 1 rb.size] false)])):
  run (n+7) 84 [formV a0]=some (.lit (.string r10)):=by
 have C2_:0<(rawQ a0.2).l1.length:=by omega
 have C2_z:((rawQ a0.2).l1.length:Int)≠0:=by omega
 have C2_e:(((rawQ a0.2).l1.length:Int)==0)=false:=by simpa using C2_z
 have C2_g:(((rawQ a0.2).l1.length:Int) !=0)=true:=by simpa using C2_z
 simp only [ratV] at K3
 unfold run fnP
 simp+decide [Tryz.f84,C2,C2_,C2_e,C2_g,K3,K4,K5]
 rw [loopX_G (C':=ltx_C4) (e:=(ltx_h4 a0 0)) ?_ ?_,L1]
 rotate_left
 ·kernel_rfl
 ·simp+decide [ltx_h4,C2,C2_,C2_e,C2_g,K3,K4,K5]
 simp+decide [ltx_o4a,C2,C2_,C2_e,C2_g,K3,K4,K5]
theorem ltFE3{n:Nat}{rb:ByteArray}{a0:Form}{r7:Int}{r9:ByteArray}{r11:ByteArray}(L1:loopG Tryz.prog (tab (n+7)) 0 55 (livesOf 84) 4 ltx_C4 (ltx_h4 a0 0)=some (.exit 0,ltx_o4a a0))(C2:¬0<((rawQ a0.2).l1.length:Int))(K3:runL (n+6) 116 [.ptr 0 0] [.box 137 [(.lit (.pointer none)),.nl 1] false]=some (.lit (.int .i64 r7),[(0,.box 137 [(.lit (.pointer none)),.nl 1] false)]))(C4:r7=0)(K5:run (n+6) 119 [ratV a0.2]=some (.lit (.string r9)))(K6:runL (n+6) 115 [.lit (.bool (rawQ a0.2).s),.lit (.string r9),.ptr 0 0] [.box 137 [(.lit (.pointer none)),.nl 1] false]=some (.tup [],[(0,.box 137 [.ptr 0 0,.own 1 rb.size] false),(1,.row 5 1 (strEls rb) 0)]))(K7:runL (n+6) 120 [.ptr 0 0] [.box 137 [.ptr 0 0,.own 1 rb.size] false,.row 5 1 (strEls rb) 0]=some (.lit (.string r11),[(0,.box 137 [.ptr 0 0,.own 1 rb.size] false)])):
  run (n+7) 84 [formV a0]=some (.lit (.string r11)):=by
 have C2_:¬0<(rawQ a0.2).l1.length:=by omega
 have C2_z:((rawQ a0.2).l1.length:Int)=0:=by omega
 have C2_e:(((rawQ a0.2).l1.length:Int)==0)=true:=by rw [C2_z];simp
 have C2_g:(((rawQ a0.2).l1.length:Int) !=0)=false:=by rw [C2_z];simp
 have C4_:(r7==0)=true:=by rw [C4];simp
 have C4_n:(r7 !=0)=false:=by rw [C4];simp
 simp only [ratV] at K5
 unfold run fnP
 simp+decide [Tryz.f84,C2,C2_,C2_e,C2_g,K3,C4_,C4_n,K5,K6,K7]
 rw [loopX_G (C':=ltx_C4) (e:=(ltx_h4 a0 0)) ?_ ?_,L1]
 rotate_left
 ·kernel_rfl
 ·simp+decide [ltx_h4,C2,C2_,C2_e,C2_g,K3,C4_,C4_n,K5,K6,K7]
 simp+decide [ltx_o4a,C2,C2_,C2_e,C2_g,K3,C4_,C4_n,K5,K6,K7]
theorem ltFN1{n:Nat}{ab rb:ByteArray}{a0:Form}{r8:ByteArray}{r10:ByteArray}(L1:loopG Tryz.prog (tab (n+7)) 0 55 (livesOf 84) 4 ltx_C4 (ltx_h4 a0 0)=some (.exit 0,ltx_oN a0 ab))(C2:0<((rawQ a0.2).l1.length:Int))(K3:run (n+6) 119 [ratV a0.2]=some (.lit (.string r8)))(K4:runL (n+6) 115 [.lit (.bool (rawQ a0.2).s),.lit (.string r8),.ptr 0 0] [.box 137 [.ptr 0 0,.own 1 ab.size] false,.row 5 1 (strEls ab) 0]=some (.tup [],[(0,.box 137 [.ptr 0 0,.own 3 rb.size] false),(3,.row 5 1 (strEls rb) 0)]))(K5:runL (n+6) 120 [.ptr 0 0] [.box 137 [.ptr 0 0,.own 1 rb.size] false,.row 5 1 (strEls rb) 0]=some (.lit (.string r10),[(0,.box 137 [.ptr 0 0,.own 1 rb.size] false)])):
  run (n+7) 84 [formV a0]=some (.lit (.string r10)):=by
 have C2_:0<(rawQ a0.2).l1.length:=by omega
 have C2_z:((rawQ a0.2).l1.length:Int)≠0:=by omega
 have C2_e:(((rawQ a0.2).l1.length:Int)==0)=false:=by simpa using C2_z
 have C2_g:(((rawQ a0.2).l1.length:Int) !=0)=true:=by simpa using C2_z
 simp only [ratV] at K3
 unfold run fnP
 simp+decide [Tryz.f84,C2,C2_,C2_e,C2_g,K3,K4,K5]
 rw [loopX_G (C':=ltx_C4) (e:=(ltx_h4 a0 0)) ?_ ?_,L1]
 rotate_left
 ·kernel_rfl
 ·simp+decide [ltx_h4,C2,C2_,C2_e,C2_g,K3,K4,K5]
 simp+decide [ltx_oN,C2,C2_,C2_e,C2_g,K3,K4,K5]
theorem ltFN2{n:Nat}{ab:ByteArray}{a0:Form}{r7:Int}{r12:ByteArray}(L1:loopG Tryz.prog (tab (n+7)) 0 55 (livesOf 84) 4 ltx_C4 (ltx_h4 a0 0)=some (.exit 0,ltx_oN a0 ab))(C2:¬0<((rawQ a0.2).l1.length:Int))(K3:runL (n+6) 116 [.ptr 0 0] [.box 137 [.ptr 0 0,.own 1 ab.size] false,.row 5 1 (strEls ab) 0]=some (.lit (.int .i64 r7),[(0,.box 137 [.ptr 0 0,.own 1 ab.size] false),(1,.row 5 1 (strEls ab) 0)]))(C4:¬r7=0)(K5:runL (n+6) 120 [.ptr 0 0] [.box 137 [.ptr 0 0,.own 1 ab.size] false,.row 5 1 (strEls ab) 0]=some (.lit (.string r12),[(0,.box 137 [.ptr 0 0,.own 1 ab.size] false)])):
  run (n+7) 84 [formV a0]=some (.lit (.string r12)):=by
 have C2_:¬0<(rawQ a0.2).l1.length:=by omega
 have C2_z:((rawQ a0.2).l1.length:Int)=0:=by omega
 have C2_e:(((rawQ a0.2).l1.length:Int)==0)=true:=by rw [C2_z];simp
 have C2_g:(((rawQ a0.2).l1.length:Int) !=0)=false:=by rw [C2_z];simp
 have C4_:(r7==0)=false:=by simpa using C4
 have C4_n:(r7 !=0)=true:=by simpa using C4
 unfold run fnP
 simp+decide [Tryz.f84,C2,C2_,C2_e,C2_g,K3,C4_,C4_n,K5]
 rw [loopX_G (C':=ltx_C4) (e:=(ltx_h4 a0 0)) ?_ ?_,L1]
 rotate_left
 ·kernel_rfl
 ·simp+decide [ltx_h4,C2,C2_,C2_e,C2_g,K3,C4_,C4_n,K5]
 simp+decide [ltx_oN,C2,C2_,C2_e,C2_g,K3,C4_,C4_n,K5]
end
section
open Go.RowKit
theorem blen_0{n:Nat}:runL n 116 [.ptr 0 0] [.box 137 [.lit (.pointer none),.nl 1] false]=some (.lit (.int .i64 0),[(0,.box 137 [.lit (.pointer none),.nl 1] false)]):=by
 unfold runL fnL
 simp+decide [Tryz.f116]
theorem blen_1{n:Nat}{k:Nat}{es:List (List AV)}:runL n 116 [.ptr 0 0] [.box 137 [.ptr 0 0,.own 1 k] false,.row 5 1 es 0]=some (.lit (.int .i64 k),[(0,.box 137 [.ptr 0 0,.own 1 k] false),(1,.row 5 1 es 0)]):=by
 unfold runL fnL
 simp+decide [Tryz.f116]
theorem bws_0{n:Nat}{s:ByteArray}(h:roomy s.size 1=true):runL (n+1) 117 [.ptr 0 0,.lit (.string s)] [.box 137 [.lit (.pointer none),.nl 1] false]=some (.tup [.lit (.int .i64 s.size),.lit .nilIface],[(0,.box 137 [.ptr 0 0,.own 1 s.size] false),(1,.row 5 1 (strEls s) 0)]):=by
 unfold runL fnL
 simp+decide [Tryz.f117,ccG,isSelf,enumB,apS,isNil,h]
theorem bws_1{n:Nat}{a s:ByteArray}(h:roomy (a.size+s.size) 1=true):runL (n+1) 117 [.ptr 0 0,.lit (.string s)] [.box 137 [.ptr 0 0,.own 1 a.size] false,.row 5 1 (strEls a) 0]=some (.tup [.lit (.int .i64 s.size),.lit .nilIface],[(0,.box 137 [.ptr 0 0,.own 2 (a.size+s.size)] false),(2,.row 5 1 (strEls (a++s)) 0)]):=by
 unfold runL fnL
 simp+decide [Tryz.f117,ccG,isSelf,enumB,apS,isNil,h]
theorem bstr_1{n:Nat}{a:ByteArray}(h0:0<a.size)(h:(a.size:Int)≤9223372036854775807):runL n 120 [.ptr 0 0] [.box 137 [.ptr 0 0,.own 1 a.size] false,.row 5 1 (strEls a) 0]=some (.lit (.string a),[(0,.box 137 [.ptr 0 0,.own 1 a.size] false)]):=by
 unfold runL fnL
 simp+decide [Tryz.f120,usdT,usT,h0,h]
theorem bpart_0{n:Nat}{s:ByteArray}(h:roomy s.size 1=true):runL (n+2) 115 [.lit (.bool false),.lit (.string s),.ptr 0 0] [.box 137 [.lit (.pointer none),.nl 1] false]=some (.tup [],[(0,.box 137 [.ptr 0 0,.own 1 s.size] false),(1,.row 5 1 (strEls s) 0)]):=by
 have K:=bws_0 (n:=n) h
 unfold runL fnL
 simp+decide [Tryz.f115,blen_0,K]
end
section
open Go.RowKit
theorem bpart_1{n:Nat}{s:ByteArray}(h0:roomy 1 1=true)(h:roomy (1+s.size) 1=true):runL (n+2) 115 [.lit (.bool true),.lit (.string s),.ptr 0 0] [.box 137 [.lit (.pointer none),.nl 1] false]=some (.tup [],[(0,.box 137 [.ptr 0 0,.own 2 (1+s.size)] false),(2,.row 5 1 (strEls ((⟨#[45]⟩:ByteArray)++s)) 0)]):=by
 have K1:=bws_0 (n:=n) (s:=(⟨#[45]⟩:ByteArray)) h0
 have K2:=bws_1 (n:=n) (a:=(⟨#[45]⟩:ByteArray)) (s:=s) h
 unfold runL fnL
 simp+decide [Tryz.f115,blen_0,K1,K2]
theorem bpart_2{n:Nat}{a s:ByteArray}(ha:0<a.size)(h0:roomy (a.size+3) 1=true)(h:roomy (a.size+3+s.size) 1=true):runL (n+2) 115 [.lit (.bool false),.lit (.string s),.ptr 0 0] [.box 137 [.ptr 0 0,.own 1 a.size] false,.row 5 1 (strEls a) 0]=some (.tup [],[(0,.box 137 [.ptr 0 0,.own 3 (a.size+3+s.size)] false),(3,.row 5 1 (strEls (a++(⟨#[32,43,32]⟩:ByteArray)++s)) 0)]):=by
 have K1:=bws_1 (n:=n) (a:=a) (s:=(⟨#[32,43,32]⟩:ByteArray)) h0
 have K2:=bws_1 (n:=n) (a:=a++(⟨#[32,43,32]⟩:ByteArray)) (s:=s) (by rw [ByteArray.size_append];exact h)
 rw [ByteArray.size_append] at K2
 have e1:((a.size:Int)==0)=false:=by rw [beq_eq_false_iff_ne];omega
 have e2:((a.size:Int) !=0)=true:=by rw [bne_iff_ne];omega
 unfold runL fnL
 simp+decide [Tryz.f115,blen_1,K1,K2,e1,e2,ha]
theorem bpart_3{n:Nat}{a s:ByteArray}(ha:0<a.size)(h0:roomy (a.size+3) 1=true)(h:roomy (a.size+3+s.size) 1=true):runL (n+2) 115 [.lit (.bool true),.lit (.string s),.ptr 0 0] [.box 137 [.ptr 0 0,.own 1 a.size] false,.row 5 1 (strEls a) 0]=some (.tup [],[(0,.box 137 [.ptr 0 0,.own 3 (a.size+3+s.size)] false),(3,.row 5 1 (strEls (a++(⟨#[32,45,32]⟩:ByteArray)++s)) 0)]):=by
 have K1:=bws_1 (n:=n) (a:=a) (s:=(⟨#[32,45,32]⟩:ByteArray)) h0
 have K2:=bws_1 (n:=n) (a:=a++(⟨#[32,45,32]⟩:ByteArray)) (s:=s) (by rw [ByteArray.size_append];exact h)
 rw [ByteArray.size_append] at K2
 have e1:((a.size:Int)==0)=false:=by rw [beq_eq_false_iff_ne];omega
 have e2:((a.size:Int) !=0)=true:=by rw [bne_iff_ne];omega
 unfold runL fnL
 simp+decide [Tryz.f115,blen_1,K1,K2,e1,e2,ha]
end
end Go.Proofs.YtdaonnnlgfhlaaaGreatDoor
