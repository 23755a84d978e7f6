import Derived.Test.YtnegdhjdienjlaaGreatDoorGB16
import Derived.Lib.ItoaNum
import Derived.Lib.Repeat
import Derived.Lib.Join
set_option linter.all false
set_option maxHeartbeats 6400000
set_option maxRecDepth 100000
namespace Go.Proofs.YtnegdhjdienjlaaGreatDoor
section
open Go.RowKit
theorem ba_loop(a:ByteArray):∀(k i:Nat) (r:List UInt8),k+i=a.size→ByteArray.toList.loop a i r=r.reverse++a.data.toList.drop i
 | 0,i,r,h=>by
   rw [ByteArray.toList.loop,if_neg (by omega),List.drop_eq_nil_of_le (by have e:a.data.toList.length=a.size:=Array.length_toList;omega),List.append_nil]
 | k+1,i,r,h=>by
   have hi:i<a.data.toList.length:=by have e:a.data.toList.length=a.size:=Array.length_toList;omega
   rw [ByteArray.toList.loop,if_pos (by omega),ba_loop a k (i+1) _ (by omega),List.drop_eq_getElem_cons hi]
   have e:a.get! i=a.data.toList[i]:=by
    unfold ByteArray.get!
    rw [Array.getElem_toList]
    exact getElem!_pos a.data i (by simpa using hi)
   rw [e]
   simp
theorem ba_toList(a:ByteArray):a.toList=a.data.toList:=by
 unfold ByteArray.toList
 rw [ba_loop a a.size 0 [] (by omega)]
 simp
theorem ba_ext{a b:ByteArray}(h:a.data.toList=b.data.toList):a=b:=by
 obtain ⟨x⟩:=a
 obtain ⟨y⟩:=b
 congr 1
 exact Array.toList_inj.1 h
theorem ba_inj{a b:ByteArray}(h:a.toList=b.toList):a=b:=ba_ext (by rw [←ba_toList,←ba_toList,h])
def oneB(z:Int):ByteArray:=⟨#[UInt8.ofNat z.toNat]⟩
theorem strOf_one{z:Int}(h0:0≤z)(h1:z<256):strOf [[.lit (.int .u8 z)]]=some (oneB z):=by
 unfold strOf
 simp only [bytesL]
 rw [if_pos ⟨h0,h1⟩]
 rfl
theorem cat_r{a b x:ByteArray}(h:a.size+b.size≤9000000000000000000)(d:x=a++b):(if ((a.size+b.size:Nat):Int)≤9223372036854775807 then some (Value.string (a++b)) else none)=some (Value.string x):=by
 rw [if_pos (by omega),d]
theorem cat_q{a b x:ByteArray}(h:a.size+b.size≤9000000000000000000)(d:x=a++b):(if ((a.size:Nat):Int)+((b.size:Nat):Int)≤9223372036854775807 then some (Value.string (a++b)) else none)=some (Value.string x):=by
 rw [if_pos (by omega),d]
theorem set_strC(l:List ByteArray)(i:Nat)(a:ByteArray):(l.map strC).set i [.lit (.string a)]=(l.set i a).map strC:=by
 rw [List.map_set];rfl
def bs(l:List UInt8):ByteArray:=⟨l.toArray⟩
theorem bs_data(l:List UInt8):(bs l).data.toList=l:=by simp [bs]
theorem bs_size(l:List UInt8):(bs l).size=l.length:=by
 show (bs l).data.size=_
 simp [bs]
theorem bs_app(l m:List UInt8):bs l++bs m=bs (l++m):=ba_ext (by simp [bs])
theorem bs_inj{l m:List UInt8}(h:bs l=bs m):l=m:=by
 have:=congrArg (fun a:ByteArray=>a.data.toList) h
 simpa [bs] using this
theorem bs_self(a:ByteArray):bs a.data.toList=a:=ba_ext (bs_data _)
def byL(s:ByteArray):List Int:=s.data.toList.map fun b=>(b.toNat:Int)
theorem strEls_by(s:ByteArray):strEls s=(byL s).map intU8C:=by
 unfold strEls byL
 rw [List.map_map]
 rfl
end
section
open Go.RowKit
open Lib (decDigits)
def dig(k:Nat):UInt8:=UInt8.ofNat (48+k)
theorem dd_lt{u:Nat}(h:u<10):decDigits u=[dig u]:=by rw [decDigits,dif_pos h];rfl
theorem dd_ge{u:Nat}(h:¬u<10):decDigits u=decDigits (u / 10)++[dig (u % 10)]:=by rw [decDigits,dif_neg h];rfl
def padL:Nat→Nat→List UInt8
 | 0,_=>[]
 | m+1,r=>padL m (r / 10)++[dig (r % 10)]
theorem padL_zero:∀(m:Nat),padL m 0=List.replicate m 48
 | 0=>rfl
 | m+1=>by rw [padL,Nat.zero_div,padL_zero m,List.replicate_succ'];rfl
theorem dd_split:∀(m q r:Nat),0<q→r<10 ^ m→decDigits (q*10 ^ m+r)=decDigits q++padL m r
 | 0,q,r,hq,hr=>by
   have:r=0:=by simpa using hr
   subst this
   rw [Nat.pow_zero,Nat.mul_one,Nat.add_zero,padL,List.append_nil]
 | m+1,q,r,hq,hr=>by
   rw [Nat.pow_succ] at hr
   have hp:0<10 ^ m:=Nat.pow_pos (by omega)
   have e0:q*10 ^ (m+1)=(q*10 ^ m)*10:=by rw [Nat.pow_succ,Nat.mul_assoc]
   have hge:1≤q*10 ^ m:=Nat.mul_pos hq hp
   have h1:¬q*10 ^ (m+1)+r<10:=by omega
   have e1:(q*10 ^ (m+1)+r) / 10=q*10 ^ m+r / 10:=by omega
   have e2:(q*10 ^ (m+1)+r) % 10=r % 10:=by omega
   rw [dd_ge h1,e1,e2,dd_split m q (r / 10) hq (by omega),padL,List.append_assoc]
theorem dd_pad:∀(m r:Nat),r<10 ^ (m+1)→(decDigits r).length≤m+1∧padL (m+1) r=List.replicate (m+1-(decDigits r).length) 48++decDigits r
 | 0,r,h=>by
   have h1:r<10:=by simpa using h
   rw [dd_lt h1]
   refine ⟨by simp,?_⟩
   rw [padL,padL,Nat.mod_eq_of_lt h1]
   simp
 | m+1,r,h=>by
   by_cases h1:r<10
   ·rw [dd_lt h1]
    refine ⟨by simp,?_⟩
    have e:padL (m+1+1) r=padL (m+1) (r / 10)++[dig (r % 10)]:=rfl
    rw [e,Nat.div_eq_of_lt h1,Nat.mod_eq_of_lt h1,padL_zero]
    simp
   ·rw [Nat.pow_succ] at h
    obtain ⟨i1,i2⟩:=dd_pad m (r / 10) (by omega)
    rw [dd_ge h1,List.length_append,List.length_singleton]
    refine ⟨by omega,?_⟩
    have e:padL (m+1+1) r=padL (m+1) (r / 10)++[dig (r % 10)]:=rfl
    rw [e,i2,←List.append_assoc,show m+1+1-((decDigits (r / 10)).length+1)=m+1-(decDigits (r / 10)).length by omega]
theorem dd_ne(k:Nat):decDigits k≠[]:=by
 by_cases h:k<10
 ·rw [dd_lt h];simp
 ·rw [dd_ge h];simp
theorem dd_pos(k:Nat):0<(decDigits k).length:=List.length_pos_iff.2 (dd_ne k)
theorem repL(c:Nat):Lib.repeatL [48] c=List.replicate c 48:=by
 induction c with
 | zero=>rfl
 | succ c ih=>rw [Lib.repeatL,ih,List.replicate_succ];rfl
theorem joinL(xs:List (List UInt8)):Lib.join xs []=xs.flatten:=by
 unfold Lib.join List.intercalate
 induction xs with
 | nil=>rfl
 | cons x xs ih=>
   cases xs with
   | nil=>simp [List.intersperse]
   | cons y ys=>
     rw [List.intersperse,List.flatten_cons,List.flatten_cons,ih]
     ·simp
     ·intro h
      cases h
def rnd:Nat→Nat→Nat
 | 0,_=>0
 | f+1,k=>if k=0 then 0 else rnd f (k / 1000000000)+1
theorem rnd_le:∀(f k:Nat),rnd f k≤f
 | 0,_=>Nat.le_refl _
 | f+1,k=>by rw [rnd];split;omega;have:=rnd_le f (k / 1000000000);omega
theorem rnd_zero(f:Nat):rnd f 0=0:=by cases f <;>simp [rnd]
theorem rnd_enough:∀(f g k:Nat),k<2 ^ f→k<2 ^ g→rnd f k=rnd g k
 | 0,g,k,h,_=>by
   have:k=0:=by simpa using h
   subst this
   rw [rnd_zero,rnd_zero]
 | f+1,0,k,_,h=>by
   have:k=0:=by simpa using h
   subst this
   rw [rnd_zero,rnd_zero]
 | f+1,g+1,k,h,h2=>by
   rw [Nat.pow_succ] at h h2
   rw [rnd,rnd,rnd_enough f g _ (by omega) (by omega)]
def dd0(k:Nat):List UInt8:=if k=0 then [] else decDigits k
theorem dd0_step{k:Nat}(h:0<k):dd0 k=dd0 (k / 1000000000)++(if 0<k / 1000000000 then List.replicate (9-(decDigits (k % 1000000000)).length) 48++decDigits (k % 1000000000) else decDigits (k % 1000000000))∧(decDigits (k % 1000000000)).length≤9:=by
 have hr:k % 1000000000<10 ^ (8+1):=Nat.mod_lt _ (by decide)
 obtain ⟨p1,p2⟩:=dd_pad 8 _ hr
 refine ⟨?_,p1⟩
 unfold dd0
 rw [if_neg (by omega)]
 by_cases hq:0<k / 1000000000
 ·rw [if_neg (by omega),if_pos hq,←p2]
  have e:=dd_split 9 (k / 1000000000) (k % 1000000000) hq hr
  have e2:k / 1000000000*10 ^ 9+k % 1000000000=k:=by
   have:(10:Nat) ^ 9=1000000000:=by decide
   rw [this];omega
  rw [e2] at e
  exact e
 ·rw [if_pos (by omega),if_neg hq,List.nil_append]
  congr 1
  omega
theorem dd_bits:∀(m k:Nat),k<2 ^ m→(decDigits k).length≤m+1
 | 0,k,h=>by
   have:k=0:=by simpa using h
   subst this
   rw [dd_lt (by omega)];simp
 | m+1,k,h=>by
   by_cases h1:k<10
   ·rw [dd_lt h1];simp
   ·rw [Nat.pow_succ] at h
    rw [dd_ge h1,List.length_append,List.length_singleton]
    have:=dd_bits m (k / 10) (by omega)
    omega
end
section
open Go.RowKit
end
section
open Go.RowKit
end
section
open Go.RowKit
end
section
open Go.RowKit
end
section
open Go.RowKit
end
section
open Go.RowKit
attribute [local irreducible] run runL loopG exec
theorem sgq_nonneg{q:Rat}:0≤sgR q↔0≤q:=by
 unfold sgR
 rw [←Rat.num_nonneg]
 exact Int.sign_nonneg_iff
noncomputable def tv(p:Prop):Bool:=@decide p (Classical.propDecidable p)
theorem tv_t{p:Prop}(h:p):tv p=true:=@decide_eq_true p (Classical.propDecidable p) h
theorem tv_f{p:Prop}(h:¬p):tv p=false:=@decide_eq_false p (Classical.propDecidable p) h
theorem tv_true{p:Prop}(h:tv p=true):p:=@of_decide_eq_true p (Classical.propDecidable p) h
theorem tv_false{p:Prop}(h:tv p=false):¬p:=@of_decide_eq_false p (Classical.propDecidable p) h
def OkTm(F:List (Int × Rat))(vars:Int)(i:Nat):Prop:=∀v c,F[i]?=some (v,c)→0≤v∧v<vars∧c≠0∧∀v' c',0<i→F[i-1]?=some (v',c')→v'<v
def OkFm(f:Form)(vars:Int):Prop:=∀i,i<f.1.length→OkTm f.1 vars i
structure BdF (b:Nat) (f:Form):Prop where
 l:f.1.length≤100000000
 t:∀t∈f.1,H t.2≤b
 k:H f.2≤b
theorem BdF.mono{b c:Nat}{f:Form}(h:BdF b f)(hb:b≤c):BdF c f:=⟨h.l,fun t ht=>Nat.le_trans (h.t t ht) hb,Nat.le_trans h.k hb⟩
end
section
open Go.RowKit
noncomputable def ldc_C5:Code:=(loopsOf (bodyOf Tryz.f162)).getD 0 .skip
def ldc_h5(nat_5:List Nat)(r:List Nat)(out_5:List ByteArray):St:=
 ⟨[(0,natA nat_5),(3,natA r),(4,.own 0 out_5.length)],
  [(0,some (.row 9 1 (out_5.map strC) 0))],1⟩
def ldc_o5a(out_5:List ByteArray):St:=
 ⟨[(4,.own 0 out_5.length)],
  [(0,some (.row 9 1 (out_5.map strC) 0))],1⟩
section
variable {r18 : Int} {r19 : Int} {out_5 : List ByteArray} {r22 : ByteArray} {n : Nat} {r21 : ByteArray} {cat3 : ByteArray} {nat_5 : List Nat} {r17 : List Nat} {r20 : Bool} {r : List Nat} {r16 : List Nat} {a0 : List Nat} {r23 : ByteArray} {R : List ByteArray}
section
variable(C1:0<(nat_5.length:Int))(K2:(oND fun x y=>.tup [natA (lmb (val x / val y)),natA (lmb (val x % val y)),.lit (.int .i64 0)]) [natA nat_5,natA r]=some (.tup [natA r16,natA r17,.lit (.int .i64 r18)]))(K3:(oN1 u64N fun x=>.tup [.lit (.int .u64 (val x:Nat)),.lit (.bool true)]) [natA r17]=some (.tup [.lit (.int .u64 r19),.lit (.bool r20)]))(K4:(oFU) [.lit (.int .u64 r19),.lit (.int .i64 10)]=some (.lit (.string r21)))
include C1 K2 K3 K4
theorem ldc_r5_1(C5:0<(r16.length:Int))(W6:InI (9-(r21.size:Int)))(K7:(oRepeat) [.lit (.string (⟨#[48]⟩:ByteArray)),.lit (.int .i64 (9-(r21.size:Int)))]=some (.lit (.string r22)))(S8:r22.size+r21.size≤9000000000000000000)(D8:cat3=r22++r21)(M9:out_5.length+1≤100000000):
  Cont 0 (exec Tryz.prog (tab (n+5)) 0 50 (livesOf 162) big ldc_C5) (livesOf 162 5) (ldc_h5 nat_5 r out_5) (ldc_h5 r16 r (out_5++[cat3])):=by
 have C1_:0<nat_5.length:=by omega
 have C1_z:(nat_5.length:Int)≠0:=by omega
 have C1_e:((nat_5.length:Int)==0)=false:=by simpa using C1_z
 have C1_g:((nat_5.length:Int) !=0)=true:=by simpa using C1_z
 have C5_:0<r16.length:=by omega
 have C5_z:(r16.length:Int)≠0:=by omega
 have C5_e:((r16.length:Int)==0)=false:=by simpa using C5_z
 have C5_g:((r16.length:Int) !=0)=true:=by simpa using C5_z
 have W6_:IntKind.i64.wrap (9-(r21.size:Int))=9-(r21.size:Int):=wr64 W6.1 W6.2
 have S8_r:=cat_r S8 D8
 have S8_q:=cat_q S8 D8
 have M9_:∀b,b≤10000→roomy (out_5.length+1) b=true:=fun b hb=>roomy_s M9 hb
 unfold Cont
 simp+decide [ldc_h5,loopsOf, Tryz.f162,ldc_C5,C1,C1_,C1_e,C1_g,K2,K3,K4,C5,C5_,C5_e,C5_g,W6_,K7,↓S8_r,S8_q,M9_]
theorem ldc_r5_2(C5:¬0<(r16.length:Int))(M6:out_5.length+1≤100000000):
  Cont 0 (exec Tryz.prog (tab (n+5)) 0 50 (livesOf 162) big ldc_C5) (livesOf 162 5) (ldc_h5 nat_5 r out_5) (ldc_h5 r16 r (out_5++[r21])):=by
 have C1_:0<nat_5.length:=by omega
 have C1_z:(nat_5.length:Int)≠0:=by omega
 have C1_e:((nat_5.length:Int)==0)=false:=by simpa using C1_z
 have C1_g:((nat_5.length:Int) !=0)=true:=by simpa using C1_z
 have C5_:¬0<r16.length:=by omega
 have C5_z:(r16.length:Int)=0:=by omega
 have C5_e:((r16.length:Int)==0)=true:=by rw [C5_z];simp
 have C5_g:((r16.length:Int) !=0)=false:=by rw [C5_z];simp
 have M6_:∀b,b≤10000→roomy (out_5.length+1) b=true:=fun b hb=>roomy_s M6 hb
 unfold Cont
 simp+decide [ldc_h5,loopsOf, Tryz.f162,ldc_C5,C1,C1_,C1_e,C1_g,K2,K3,K4,C5,C5_,C5_e,C5_g,M6_]
end
theorem ldc_x5_1(C1:¬0<(nat_5.length:Int)):
  Leave 0 (exec Tryz.prog (tab (n+5)) 0 50 (livesOf 162) big ldc_C5) (livesOf 162 (outOf 5)) (ldc_h5 nat_5 r out_5) (.exit 0) (ldc_o5a out_5):=by
 have C1_:¬0<nat_5.length:=by omega
 have C1_z:(nat_5.length:Int)=0:=by omega
 have C1_e:((nat_5.length:Int)==0)=true:=by rw [C1_z];simp
 have C1_g:((nat_5.length:Int) !=0)=false:=by rw [C1_z];simp
 unfold Leave
 simp+decide [ldc_h5,loopsOf, Tryz.f162,ldc_o5a,ldc_C5,C1,C1_,C1_e,C1_g]
theorem ldc_f1(C1:(a0.length:Int)=0):
  run (n+5) 162 [natA a0]=some (.lit (.string (⟨#[48]⟩:ByteArray))):=by
 have C1_:((a0.length:Int)==0)=true:=by rw [C1];simp
 have C1_n:((a0.length:Int) !=0)=false:=by rw [C1];simp
 have C1_l:¬0<(a0.length:Int):=by omega
 unfold run fnP
 simp+decide [Tryz.f162,C1_,C1_n,C1_l]
theorem ldc_f2(HR:R.length=out_5.length)(C1:¬(a0.length:Int)=0)(K2:(oU fun k=>natA (lmb k)) [.lit (.int .u64 1000000000)]=some (natA r))(L3:loopG Tryz.prog (tab (n+5)) 0 50 (livesOf 162) 5 ldc_C5 (ldc_h5 a0 r [])=some (.exit 0,ldc_o5a out_5))(K4:runL (n+4) 216 [.own 0 out_5.length] [.row 9 1 (out_5.map strC) 0]=some (.tup [],[(0,.row 9 1 (R.map strC) 0)]))(K5:(oJoin) [.sl 1 (R.map strC),.lit (.string (⟨#[]⟩:ByteArray))]=some (.lit (.string r23))):
  run (n+5) 162 [natA a0]=some (.lit (.string r23)):=by
 have C1_:((a0.length:Int)==0)=false:=by simpa using C1
 have C1_n:((a0.length:Int) !=0)=true:=by simpa using C1
 have C1_l:0<(a0.length:Int):=by omega
 unfold run fnP
 simp+decide [Tryz.f162,C1_,C1_n,C1_l,HR,K2,K4,K5]
 rw [loopX_G (C':=ldc_C5) (e:=(ldc_h5 a0 r [])) ?_ ?_,L3]
 rotate_left
 ·kernel_rfl
 ·simp+decide [ldc_h5,C1_,C1_n,C1_l,HR,K2,K4,K5]
 simp+decide [ldc_o5a,C1_,C1_n,C1_l,HR,K2,K4,K5]
end
end
section
open Go.RowKit
noncomputable def srv_C1:Code:=(loopsOf (bodyOf Tryz.f216)).getD 0 .skip
def srv_h1(out_1:List ByteArray)(i_1:Nat)(i2_1:Int):St:=
 ⟨[(0,.own 0 out_1.length),(2,.lit (.int .i64 (i_1:Int))),(3,.lit (.int .i64 i2_1))],
  [(0,some (.row 9 1 (out_1.map strC) 0))],1⟩
def srv_o1a(out_1:List ByteArray):St:=
 ⟨[],
  [(0,some (.row 9 1 (out_1.map strC) 0))],1⟩
section
variable {x5 : ByteArray} {n : Nat} {i_1 : Nat} {out_1 : List ByteArray} {i2_1 : Int} {x6 : ByteArray} {a0 : List ByteArray}
theorem srv_r1_1(C1:(i_1:Int)<i2_1)(G2:i2_1.toNat<out_1.length)(Z2:0≤i2_1)(E3:out_1[i2_1.toNat]?=some x5)(Z3:0≤i2_1)(G4:i_1<out_1.length)(E5:out_1[i_1]?=some x6)(W10:InI ((i_1:Int)+1))(W11:InI (i2_1-1)):
  Cont 1 (exec Tryz.prog (tab n) 1 28 (livesOf 216) big srv_C1) (livesOf 216 1) (srv_h1 out_1 i_1 i2_1) (srv_h1 ((out_1.set i_1 x5).set i2_1.toNat x6) (i_1+1) (i2_1-1)):=by
 obtain ⟨EL3,EG3⟩:=List.getElem?_eq_some_iff.1 E3
 obtain ⟨EL5,EG5⟩:=List.getElem?_eq_some_iff.1 E5
 have W10_:IntKind.i64.wrap ((i_1:Int)+1)=(i_1:Int)+1:=wr64 W10.1 W10.2
 have W11_:IntKind.i64.wrap (i2_1-1)=i2_1-1:=wr64 W11.1 W11.2
 unfold Cont
 simp+decide [srv_h1,loopsOf, Tryz.f216,srv_C1,C1,G2,Z2,EL3,EG3,E3,Z3,G4,EL5,EG5,E5,set_strC,-List.map_set,W10_,W11_]
theorem srv_x1_1(C1:¬(i_1:Int)<i2_1):
  Leave 1 (exec Tryz.prog (tab n) 1 28 (livesOf 216) big srv_C1) (livesOf 216 (outOf 1)) (srv_h1 out_1 i_1 i2_1) (.exit 0) (srv_o1a out_1):=by
 unfold Leave
 simp+decide [srv_h1,loopsOf, Tryz.f216,srv_o1a,srv_C1,C1]
theorem srv_f1(W1:InI ((a0.length:Int)-1))(L2:loopG Tryz.prog (tab n) 1 28 (livesOf 216) 1 srv_C1 (srv_h1 a0 0 ((a0.length:Int)-1))=some (.exit 0,srv_o1a out_1)):
  runL n 216 [.own 0 a0.length] [.row 9 1 (a0.map strC) 0]=some (.tup [],[(0,.row 9 1 (out_1.map strC) 0)]):=by
 have W1_:IntKind.i64.wrap ((a0.length:Int)-1)=(a0.length:Int)-1:=wr64 W1.1 W1.2
 unfold runL fnL
 simp+decide [Tryz.f216,W1_]
 rw [loopX_G (C':=srv_C1) (e:=(srv_h1 a0 0 ((a0.length:Int)-1))) ?_ ?_,L2]
 rotate_left
 ·kernel_rfl
 ·simp+decide [srv_h1,W1_]
 simp+decide [srv_o1a,W1_]
end
end
section
open Go.RowKit
open Lib (decDigits)
attribute [local irreducible] run runL loopG exec
theorem few_lmb{k:Nat}(h:(lmb k).length≤1000000):fewN (lmb k)=true:=Nat.ble_eq_true_of_le (by omega)
theorem k_div{k m:Nat}(hk:(lmb k).length≤1000000)(hm:(lmb m).length≤1000000)(h0:0<m):(oND fun x y=>.tup [natA (lmb (val x / val y)),natA (lmb (val x % val y)),.lit (.int .i64 0)]) [natA (lmb k),natA (lmb m)]=some (.tup [natA (lmb (k / m)),natA (lmb (k % m)),.lit (.int .i64 0)]):=by
 have hb:Nat.blt 0 m=true:=Nat.ble_eq_true_of_le h0
 simp only [oND,decN_nat (lim_lmb _),few_lmb hk,few_lmb hm,val_lmb,hb,Bool.and_self,if_true]
theorem k_div10{k:Nat}(hk:(lmb k).length≤1000000):(oND fun x y=>.tup [natA (lmb (val x / val y)),natA (lmb (val x % val y)),.lit (.int .i64 0)]) [natA (lmb k),.sl 1 [[.lit (.int .u32 10)]]]=some (.tup [natA (lmb (k / 10)),natA (lmb (k % 10)),.lit (.int .i64 0)]):=by
 have e:AV.sl 1 [[.lit (.int .u32 10)]]=natA (lmb 10):=by
  have:lmb 10=[10]:=by decide+kernel
  rw [this];rfl
 rw [e]
 exact k_div hk (by decide+kernel) (by omega)
theorem k_uint{k:Nat}(h:k<18446744073709551616):(oN1 u64N fun x=>.tup [.lit (.int .u64 (val x:Nat)),.lit (.bool true)]) [natA (lmb k)]=some (.tup [.lit (.int .u64 (k:Int)),.lit (.bool true)]):=by
 have hl:(lmb k).length≤2:=lmb_len_le (by simpa using h)
 have h64:u64N (lmb k)=true:=by
  unfold u64N
  rw [val_lmb]
  exact Nat.ble_eq_true_of_le h
 simp only [oN1,decN_nat (lim_lmb _),few_lmb (show (lmb k).length≤1000000 by omega),h64,Bool.and_self,if_true,val_lmb]
theorem k_make{k:Nat}(hk:(lmb k).length≤1000000):(oN1 (fun _=>true) fun x=>natA (lmb (val x))) [natA (lmb k)]=some (natA (lmb k)):=by
 simp only [oN1,decN_nat (lim_lmb _),few_lmb hk,Bool.and_self,if_true,val_lmb]
theorem k_ofu{z:Int}(h0:0≤z)(h1:z<18446744073709551616):(oU fun k=>natA (lmb k)) [.lit (.int .u64 z)]=some (natA (lmb z.toNat)):=if_pos ⟨h0,h1⟩
theorem k_fu{d:Nat}(h:d<18446744073709551616):oFU [.lit (.int .u64 (d:Int)),.lit (.int .i64 10)]=some (.lit (.string (bs (decDigits d)))):=by
 have h1:(0:Int)≤(d:Int)∧(d:Int)<18446744073709551616:=⟨by omega,by omega⟩
 simp only [oFU]
 rw [if_pos h1,Int.toNat_natCast]
 rfl
theorem k_rep{l:List UInt8}(h:l.length≤9):oRepeat [.lit (.string (⟨#[48]⟩:ByteArray)),.lit (.int .i64 (9-((bs l).size:Int)))]=some (.lit (.string (bs (List.replicate (9-l.length) 48)))):=by
 have e:(9-((bs l).size:Int)).toNat=9-l.length:=by rw [bs_size];omega
 have e2:(⟨#[48]⟩:ByteArray).size=1:=rfl
 unfold oRepeat
 dsimp only
 rw [if_pos ⟨by rw [bs_size];omega,by rw [bs_size];omega,by rw [e,e2];omega⟩,e]
 rw [repL]
 rfl
theorem strsL_map(l:List ByteArray):strsL (l.map strC)=some l:=by
 induction l with
 | nil=>rfl
 | cons a l ih=>simp [strsL,ih]
theorem k_join{P:List (List UInt8)}(h1:P.length≤100000000)(h2:P.flatten.length≤100000000):oJoin [.sl 1 ((P.map bs).map strC),.lit (.string (⟨#[]⟩:ByteArray))]=some (.lit (.string (bs P.flatten))):=by
 have e:(P.map bs).map (fun (a:ByteArray)=>a.data.toList)=P:=by
  rw [List.map_map]
  conv=>rhs;rw [←List.map_id P]
  apply List.map_congr_left
  intro x _
  exact bs_data x
 have e2:(⟨#[]⟩:ByteArray).data.toList=[]:=rfl
 simp only [oJoin,strsL_map,e2,e,joinL]
 rw [if_pos ⟨by rw [List.length_map];omega,by omega⟩]
 rfl
def rv(L:List ByteArray)(i:Nat):List ByteArray:=(List.range L.length).map fun t=>if t<i∨L.length≤t+i then L.getD (L.length-1-t) ByteArray.empty else L.getD t ByteArray.empty
theorem rv_len(L:List ByteArray)(i:Nat):(rv L i).length=L.length:=by
 unfold rv
 rw [List.length_map,List.length_range]
theorem rv_get{L:List ByteArray}{i t:Nat}(ht:t<L.length):(rv L i)[t]?=some (if t<i∨L.length≤t+i then L.getD (L.length-1-t) ByteArray.empty else L.getD t ByteArray.empty):=by
 unfold rv
 rw [List.getElem?_map,List.getElem?_range ht]
 rfl
theorem rv_zero(L:List ByteArray):rv L 0=L:=by
 apply List.ext_getElem?
 intro t
 rcases Nat.lt_or_ge t L.length with ht|ht
 ·rw [rv_get ht,if_neg (by omega),List.getD_eq_getElem?_getD,List.getElem?_eq_getElem ht];rfl
 ·rw [List.getElem?_eq_none (by rw [rv_len];exact ht),List.getElem?_eq_none ht]
theorem rv_full{L:List ByteArray}{i:Nat}(h:L.length≤2*i+1):rv L i=L.reverse:=by
 apply List.ext_getElem?
 intro t
 rcases Nat.lt_or_ge t L.length with ht|ht
 ·have e:L.reverse[t]?=some (L.getD (L.length-1-t) ByteArray.empty):=by
   rw [List.getElem?_reverse ht,List.getD_eq_getElem?_getD,List.getElem?_eq_getElem (show L.length-1-t<L.length by omega)];rfl
  rw [rv_get ht,e]
  split
  ·rfl
  ·rename_i h1
   have:L.length-1-t=t:=by omega
   rw [this]
 ·rw [List.getElem?_eq_none (by rw [rv_len];exact ht),List.getElem?_eq_none (by rw [List.length_reverse];exact ht)]
theorem rv_step{L:List ByteArray}{i:Nat}(h:i+i+1<L.length):((rv L i).set i (L.getD (L.length-1-i) ByteArray.empty)).set (L.length-1-i) (L.getD i ByteArray.empty)=rv L (i+1):=by
 apply List.ext_getElem?
 intro t
 rcases Nat.lt_or_ge t L.length with ht|ht
 ·rw [rv_get ht]
  by_cases h1:t=L.length-1-i
  ·subst h1
   rw [List.getElem?_set_self (by rw [List.length_set,rv_len];exact ht),if_pos (.inr (by omega))]
   congr 2
   omega
  ·rw [List.getElem?_set_ne (fun e=>h1 e.symm)]
   by_cases h2:t=i
   ·subst h2
    rw [List.getElem?_set_self (by rw [rv_len];exact ht),if_pos (.inl (by omega))]
   ·rw [List.getElem?_set_ne (fun e=>h2 e.symm),rv_get ht]
    by_cases h3:t<i∨L.length≤t+i
    ·rw [if_pos h3,if_pos (by omega)]
    ·rw [if_neg h3,if_neg (by omega)]
 ·rw [List.getElem?_eq_none (by rw [List.length_set,List.length_set,rv_len];exact ht),List.getElem?_eq_none (by rw [rv_len];exact ht)]
theorem srv_c{n:Nat}{L:List ByteArray}(hl:L.length≤100000000):runL n 216 [.own 0 L.length] [.row 9 1 (L.map strC) 0]=some (.tup [],[(0,.row 9 1 (L.reverse.map strC) 0)]):=by
 obtain ⟨b,hL,hI⟩:=loopG_R (O:=tab n) (P:= Tryz.prog) (m:=1) (N:=28) (lives:=livesOf 216) (r:=1) (C:=srv_C1) (exN:=.exit 0) (M:=L.length / 2) (enc:=fun i (_:Unit)=>srv_h1 (rv L i) i ((L.length:Int)-1-(i:Int))) (out:=fun _=>srv_o1a L.reverse)
  (fun i _=>i≤L.length / 2) () (by omega) (by omega) (fun h=>by cases h)
  (fun i _ hi hI=>by
   have e:((L.length:Int)-1-(i:Int)).toNat=L.length-1-i:=by omega
   have h1:(rv L i)[((L.length:Int)-1-(i:Int)).toNat]?=some (L.getD (L.length-1-i) ByteArray.empty):=by
    rw [e,rv_get (by omega),if_neg (by omega)]
   have h2:(rv L i)[i]?=some (L.getD i ByteArray.empty):=by rw [rv_get (by omega),if_neg (by omega)]
   have R:=srv_r1_1 (n:=n) (i_1:=i) (i2_1:=(L.length:Int)-1-(i:Int)) (out_1:=rv L i) (by omega) (by rw [rv_len];omega) (by omega) h1 (by omega) (by rw [rv_len];omega) h2 ⟨by omega,by omega⟩ ⟨by omega,by omega⟩
   rw [e,rv_step (by omega)] at R
   have e2:(L.length:Int)-1-(i:Int)-1=(L.length:Int)-1-((i+1:Nat):Int):=by omega
   rw [e2] at R
   exact ⟨(),R,by omega⟩)
  (fun _ _=>by
   have R:=srv_x1_1 (n:=n) (i_1:=L.length / 2) (i2_1:=(L.length:Int)-1-((L.length / 2:Nat):Int)) (out_1:=rv L (L.length / 2)) (by omega)
   have e:srv_o1a (rv L (L.length / 2))=srv_o1a L.reverse:=by rw [rv_full (by omega)]
   rw [e] at R
   exact R)
 rw [rv_zero] at hL
 have e:(L.length:Int)-1-((0:Nat):Int)=(L.length:Int)-1:=by omega
 rw [e] at hL
 exact srv_f1 ⟨by omega,by omega⟩ hL
theorem ldc_c{n K:Nat}(hK:(lmb K).length≤100000):run (n+5) 162 [natA (lmb K)]=some (.lit (.string (bs (decDigits K)))):=by
 by_cases h0:K=0
 ·subst h0
  have e:bs (decDigits 0)=(⟨#[48]⟩:ByteArray):=by rw [dd_lt (by omega)];rfl
  rw [e]
  exact ldc_f1 (by rw [lmb_zero];rfl)
 have h9:(lmb 1000000000).length≤1000000:=by decide+kernel
 have hbits:K<2 ^ (32*(lmb K).length):=by
  have:=val_lt (lim_lmb K)
  rw [val_lmb] at this
  rwa [Nat.pow_mul]
 have hM:=rnd_le (32*(lmb K).length) K
 have hdd:=dd_bits _ K hbits
 obtain ⟨s,hL,hI⟩:=loopG_R (O:=tab (n+5)) (P:= Tryz.prog) (m:=0) (N:=50) (lives:=livesOf 162) (r:=5) (C:=ldc_C5) (exN:=.exit 0) (M:=rnd (32*(lmb K).length) K) (enc:=fun i (s:Nat × List (List UInt8))=>ldc_h5 (lmb s.1) (lmb 1000000000) (s.2.map bs)) (out:=fun s=>ldc_o5a (s.2.map bs))
  (fun i s=>s.1≤K∧rnd (32*(lmb K).length) s.1+i=rnd (32*(lmb K).length) K∧s.2.length=i∧dd0 s.1++s.2.reverse.flatten=dd0 K) (K,[]) ⟨Nat.le_refl _,rfl,rfl,by simp⟩ (by omega) (fun h=>by cases h)
  (fun i s hi hI=>by
   obtain ⟨k,parts⟩:=s
   obtain ⟨i1,i2,i3,i4⟩:=hI
   dsimp only at i1 i2 i3 i4 ⊢
   have hk0:0<k:=by
    rcases Nat.eq_zero_or_pos k with h|h
    ·subst h;rw [rnd_zero] at i2;omega
    ·exact h
   have hkl:(lmb k).length≤(lmb K).length:=lmb_len_mono i1
   have hp:0<(lmb k).length:=by rw [lmb_pos hk0];simp
   have hlim:k<2 ^ (32*(lmb K).length):=Nat.lt_of_le_of_lt i1 hbits
   have hr:rnd (32*(lmb K).length) k=rnd (32*(lmb K).length) (k / 1000000000)+1:=by
    obtain ⟨f,hf⟩:∃f,32*(lmb K).length=f+1:=⟨32*(lmb K).length-1,by omega⟩
    rw [hf] at hlim ⊢
    rw [rnd,if_neg (by omega)]
    congr 1
    rw [Nat.pow_succ] at hlim
    exact rnd_enough f (f+1) _ (by omega) (by rw [Nat.pow_succ];omega)
   obtain ⟨d1,d2⟩:=dd0_step hk0
   have K2:=k_div (k:=k) (m:=1000000000) (by omega) h9 (by omega)
   have hrm:k % 1000000000<18446744073709551616:=by omega
   have K3:=k_uint hrm
   have K4:=k_fu hrm
   by_cases hq:0<k / 1000000000
   ·rw [if_pos hq] at d1
    have hql:0<(lmb (k / 1000000000)).length:=by rw [lmb_pos hq];simp
    refine ⟨(k / 1000000000,parts++[List.replicate (9-(decDigits (k % 1000000000)).length) 48++decDigits (k % 1000000000)]),?_,Nat.le_trans (Nat.div_le_self _ _) i1,by dsimp only;omega,by simp [i3],?_⟩
    ·have R:=ldc_r5_1 (n:=n) (out_5:=parts.map bs) (by omega) K2 K3 K4 (by omega) ⟨by rw [bs_size];omega,by rw [bs_size];omega⟩ (k_rep d2) (by rw [bs_size,bs_size,List.length_replicate];omega) (bs_app _ _).symm (by rw [List.length_map];omega)
     have e:parts.map bs++[bs (List.replicate (9-(decDigits (k % 1000000000)).length) 48++decDigits (k % 1000000000))]=(parts++[List.replicate (9-(decDigits (k % 1000000000)).length) 48++decDigits (k % 1000000000)]).map bs:=by simp
     rw [e] at R
     exact R
    ·dsimp only
     rw [List.reverse_append,List.reverse_singleton,List.singleton_append,List.flatten_cons,←List.append_assoc,←d1]
     exact i4
   ·rw [if_neg hq] at d1
    have hq0:k / 1000000000=0:=by omega
    refine ⟨(k / 1000000000,parts++[decDigits (k % 1000000000)]),?_,Nat.le_trans (Nat.div_le_self _ _) i1,by dsimp only;omega,by simp [i3],?_⟩
    ·have R:=ldc_r5_2 (n:=n) (out_5:=parts.map bs) (by omega) K2 K3 K4 (by rw [hq0,lmb_zero];simp) (by rw [List.length_map];omega)
     have e:parts.map bs++[bs (decDigits (k % 1000000000))]=(parts++[decDigits (k % 1000000000)]).map bs:=by simp
     rw [e] at R
     exact R
    ·dsimp only
     rw [List.reverse_append,List.reverse_singleton,List.singleton_append,List.flatten_cons,←List.append_assoc,←d1]
     exact i4)
  (fun s hI=>by
   obtain ⟨k,parts⟩:=s
   obtain ⟨i1,i2,i3,i4⟩:=hI
   dsimp only at i1 i2 i3 i4 ⊢
   have hk0:k=0:=by
    rcases Nat.eq_zero_or_pos k with h|h
    ·exact h
    ·exfalso
     have hp:0<32*(lmb K).length:=by
      have hkl:(lmb k).length≤(lmb K).length:=lmb_len_mono i1
      have:0<(lmb k).length:=by rw [lmb_pos h];simp
      omega
     obtain ⟨f,hf⟩:∃f,32*(lmb K).length=f+1:=⟨32*(lmb K).length-1,by omega⟩
     rw [hf,rnd,if_neg (by omega)] at i2
     omega
   subst hk0
   exact ldc_x5_1 (by rw [lmb_zero];simp))
 obtain ⟨k,parts⟩:=s
 obtain ⟨i1,i2,i3,i4⟩:=hI
 dsimp only at i1 i2 i3 i4 hL
 have hk0:k=0:=by
  rcases Nat.eq_zero_or_pos k with h|h
  ·exact h
  ·exfalso
   have hp:0<32*(lmb K).length:=by
    have hkl:(lmb k).length≤(lmb K).length:=lmb_len_mono i1
    have:0<(lmb k).length:=by rw [lmb_pos h];simp
    omega
   obtain ⟨f,hf⟩:∃f,32*(lmb K).length=f+1:=⟨32*(lmb K).length-1,by omega⟩
   rw [hf] at i2
   have e:rnd (f+1) k=rnd f (k / 1000000000)+1:=by rw [rnd,if_neg (by omega)]
   omega
 subst hk0
 have e0:dd0 0=[]:=rfl
 have e1:dd0 K=decDigits K:=if_neg h0
 rw [e0,List.nil_append,e1] at i4
 have V:=srv_c (n:=n+4) (L:=parts.map bs) (by rw [List.length_map];omega)
 have J:=k_join (P:=parts.reverse) (by rw [List.length_reverse];omega) (by rw [i4];omega)
 rw [i4,List.map_reverse] at J
 exact ldc_f2 (by have:0<(lmb K).length:=by rw [lmb_pos (by omega)];simp
                  omega) (HR:=by rw [List.length_reverse]) (k_ofu (z:=1000000000) (by omega) (by omega)) hL V J
end
section
open Go.RowKit
section
variable {cat2 : ByteArray} {n : Nat} {r2 : ByteArray} {cat : ByteArray} {a0 : Rat} {r : ByteArray}
theorem lsz_f1(K1:run (n+5) 162 [natA (rawQ a0).l1]=some (.lit (.string r)))(C2:0<((rawQ a0).l2.length:Int))(K3:run (n+5) 162 [natA (rawQ a0).l2]=some (.lit (.string r2)))(S4:(⟨#[47]⟩:ByteArray).size+r2.size≤9000000000000000000)(D4:cat=(⟨#[47]⟩:ByteArray)++r2)(S5:r.size+cat.size≤9000000000000000000)(D5:cat2=r++cat):
  run (n+6) 104 [ratV a0]=some (.lit (.string cat2)):=by
 have C2_:0<(rawQ a0).l2.length:=by omega
 have C2_z:((rawQ a0).l2.length:Int)≠0:=by omega
 have C2_e:(((rawQ a0).l2.length:Int)==0)=false:=by simpa using C2_z
 have C2_g:(((rawQ a0).l2.length:Int) !=0)=true:=by simpa using C2_z
 have S4_r:=cat_r S4 D4
 have S4_q:=cat_q S4 D4
 have S5_r:=cat_r S5 D5
 have S5_q:=cat_q S5 D5
 unfold run fnP
 simp+decide [Tryz.f104,K1,C2,C2_,C2_e,C2_g,K3,↓S4_r,S4_q,↓S5_r,S5_q]
theorem lsz_f2(K1:run (n+5) 162 [natA (rawQ a0).l1]=some (.lit (.string r)))(C2:¬0<((rawQ a0).l2.length:Int)):
  run (n+6) 104 [ratV a0]=some (.lit (.string r)):=by
 have C2_:¬0<(rawQ a0).l2.length:=by omega
 have C2_z:((rawQ a0).l2.length:Int)=0:=by omega
 have C2_e:(((rawQ a0).l2.length:Int)==0)=true:=by rw [C2_z];simp
 have C2_g:(((rawQ a0).l2.length:Int) !=0)=false:=by rw [C2_z];simp
 unfold run fnP
 simp+decide [Tryz.f104,K1,C2,C2_,C2_e,C2_g]
end
end
section
open Go.RowKit
noncomputable def fdg_C3:Code:=(loopsOf (bodyOf Tryz.f50)).getD 0 .skip
def fdg_h3(nat_3:List Nat)(str_3:ByteArray):St:=
 ⟨[(0,natA nat_3),(3,.lit (.string str_3))],
  [],0⟩
def fdg_o3a(str_3:ByteArray):St:=
 ⟨[(3,.lit (.string str_3))],
  [],0⟩
section
variable {nat_3 : List Nat} {str_3 : ByteArray} {n : Nat} {r25 : Int} {r24 : Int} {r23 : List Nat} {cat5 : ByteArray} {r22 : List Nat} {r26 : Bool} {r30 : Int} {r27 : List Nat} {cat6 : ByteArray} {r29 : Int} {r31 : Bool} {r28 : List Nat} {a0 : List Nat} {r : List Nat}
theorem fdg_r3_1(C1:0<(nat_3.length:Int))(K2:(oND fun x y=>.tup [natA (lmb (val x / val y)),natA (lmb (val x % val y)),.lit (.int .i64 0)]) [natA nat_3,.sl 1 [[.lit (.int .u32 10)]]]=some (.tup [natA r22,natA r23,.lit (.int .i64 r24)]))(K3:(oN1 u64N fun x=>.tup [.lit (.int .u64 (val x:Nat)),.lit (.bool true)]) [natA r23]=some (.tup [.lit (.int .u64 r25),.lit (.bool r26)]))(W4:IntKind.u64.wrap (48+r25)=48+r25)(W5:IntKind.u8.wrap (48+r25)=48+r25)(O6:0≤48+r25∧48+r25<256)(S7:((oneB (48+r25))).size+str_3.size≤9000000000000000000)(D7:cat5=((oneB (48+r25)))++str_3):
  Cont 0 (exec Tryz.prog (tab (n+4)) 0 39 (livesOf 50) big fdg_C3) (livesOf 50 3) (fdg_h3 nat_3 str_3) (fdg_h3 r22 cat5):=by
 have C1_:0<nat_3.length:=by omega
 have C1_z:(nat_3.length:Int)≠0:=by omega
 have C1_e:((nat_3.length:Int)==0)=false:=by simpa using C1_z
 have C1_g:((nat_3.length:Int) !=0)=true:=by simpa using C1_z
 have O6_:=strOf_one O6.1 O6.2
 have S7_r:=cat_r S7 D7
 have S7_q:=cat_q S7 D7
 unfold Cont
 simp+decide [fdg_h3,loopsOf, Tryz.f50,fdg_C3,C1,C1_,C1_e,C1_g,K2,K3,W4,W5,O6_,↓S7_r,S7_q]
theorem fdg_r3_2(C1:¬0<(nat_3.length:Int))(C2:str_3=(⟨#[]⟩:ByteArray))(K3:(oND fun x y=>.tup [natA (lmb (val x / val y)),natA (lmb (val x % val y)),.lit (.int .i64 0)]) [natA nat_3,.sl 1 [[.lit (.int .u32 10)]]]=some (.tup [natA r27,natA r28,.lit (.int .i64 r29)]))(K4:(oN1 u64N fun x=>.tup [.lit (.int .u64 (val x:Nat)),.lit (.bool true)]) [natA r28]=some (.tup [.lit (.int .u64 r30),.lit (.bool r31)]))(W5:IntKind.u64.wrap (48+r30)=48+r30)(W6:IntKind.u8.wrap (48+r30)=48+r30)(O7:0≤48+r30∧48+r30<256)(S8:((oneB (48+r30))).size+str_3.size≤9000000000000000000)(D8:cat6=((oneB (48+r30)))++str_3):
  Cont 0 (exec Tryz.prog (tab (n+4)) 0 39 (livesOf 50) big fdg_C3) (livesOf 50 3) (fdg_h3 nat_3 str_3) (fdg_h3 r27 cat6):=by
 have C1_:¬0<nat_3.length:=by omega
 have C1_z:(nat_3.length:Int)=0:=by omega
 have C1_e:((nat_3.length:Int)==0)=true:=by rw [C1_z];simp
 have C1_g:((nat_3.length:Int) !=0)=false:=by rw [C1_z];simp
 have C2_:(str_3.toList==(⟨#[]⟩:ByteArray).toList)=true:=by rw [C2];simp
 have C2_n:(str_3.toList !=(⟨#[]⟩:ByteArray).toList)=false:=by rw [bne,C2_];rfl
 have C2_i:str_3.toList.isEmpty=true:=by rw [C2,ba_toList] <;>rfl
 have O7_:=strOf_one O7.1 O7.2
 have S8_r:=cat_r S8 D8
 have S8_q:=cat_q S8 D8
 unfold Cont
 simp+decide [fdg_h3,loopsOf, Tryz.f50,fdg_C3,C1,C1_,C1_e,C1_g,C2_,C2_n,C2_i,K3,K4,W5,W6,O7_,↓S8_r,S8_q]
theorem fdg_x3_1(C1:¬0<(nat_3.length:Int))(C2:¬str_3=(⟨#[]⟩:ByteArray)):
  Leave 0 (exec Tryz.prog (tab (n+4)) 0 39 (livesOf 50) big fdg_C3) (livesOf 50 (outOf 3)) (fdg_h3 nat_3 str_3) (.exit 0) (fdg_o3a str_3):=by
 have C1_:¬0<nat_3.length:=by omega
 have C1_z:(nat_3.length:Int)=0:=by omega
 have C1_e:((nat_3.length:Int)==0)=true:=by rw [C1_z];simp
 have C1_g:((nat_3.length:Int) !=0)=false:=by rw [C1_z];simp
 have C2_:(str_3.toList==(⟨#[]⟩:ByteArray).toList)=false:=by rw [beq_eq_false_iff_ne];exact fun h=>C2 (ba_inj h)
 have C2_n:(str_3.toList !=(⟨#[]⟩:ByteArray).toList)=true:=by rw [bne,C2_];rfl
 have C2_i:str_3.toList.isEmpty=false:=by rcases he:str_3.toList.isEmpty with _|_;rfl;exact absurd (ba_inj (by rw [List.isEmpty_iff.1 he,ba_toList] <;>rfl)) C2
 unfold Leave
 simp+decide [fdg_h3,loopsOf, Tryz.f50,fdg_o3a,fdg_C3,C1,C1_,C1_e,C1_g,C2_,C2_n,C2_i]
theorem fdg_f1(K1:(oN1 (fun _=>true) fun x=>natA (lmb (val x))) [natA a0]=some (natA r))(L2:loopG Tryz.prog (tab (n+4)) 0 39 (livesOf 50) 3 fdg_C3 (fdg_h3 r (⟨#[]⟩:ByteArray))=some (.exit 0,fdg_o3a str_3)):
  run (n+4) 50 [natA a0]=some (.lit (.string str_3)):=by
 unfold run fnP
 simp+decide [Tryz.f50,K1]
 rw [loopX_G (C':=fdg_C3) (e:=(fdg_h3 r (⟨#[]⟩:ByteArray))) ?_ ?_,L2]
 rotate_left
 ·kernel_rfl
 ·simp+decide [fdg_h3,K1]
 simp+decide [fdg_o3a,K1]
end
end
end Go.Proofs.YtnegdhjdienjlaaGreatDoor
