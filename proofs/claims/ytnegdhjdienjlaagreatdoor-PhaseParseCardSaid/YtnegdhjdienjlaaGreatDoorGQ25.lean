import Derived.Test.YtnegdhjdienjlaaGreatDoorGQ19
import Derived.Test.YtnegdhjdienjlaaGreatDoorGQ21
import Derived.Test.YtnegdhjdienjlaaGreatDoorGQ24
import Derived.Test.YtnegdhjdienjlaaGreatDoorGQ20
set_option linter.all false
set_option maxHeartbeats 6400000
set_option maxRecDepth 100000
namespace Go.Proofs.YtnegdhjdienjlaaGreatDoor
section
open Go.RowKit Go.Lib
theorem index_eq(c:UInt8)(l:List UInt8):index (c::l) [c]=0:=by simp [index]
theorem index_ne{b c:UInt8}(h:b≠c)(l:List UInt8):index (b::l) [c]=if index l [c]==-1 then -1 else index l [c]+1:=by
 rw [index,if_neg]
 simp [Ne.symm h]
def Cmp(L:List UInt8)(i:Nat):Prop:=L[i+1]?=some 61∧(L[i]?=some 60∨L[i]?=some 62)
end
section
open Go.RowKit Go.Lib
def pcw:List UInt8→List (List UInt8)
 | []=>[[]]
 | c::l=>if c=32 then []::pcw l else match pcw l with
   | []=>[[c]]
   | p::ps=>(c::p)::ps
theorem pcw_ne(l:List UInt8):∃p ps,pcw l=p::ps:=by
 cases l with
 | nil=>exact ⟨[],[],rfl⟩
 | cons c l=>
   unfold pcw
   split
   ·exact ⟨_,_,rfl⟩
   ·split
    ·exact ⟨_,_,rfl⟩
    ·exact ⟨_,_,rfl⟩
theorem splitK_hitw{s:List UInt8}{k i:Nat}(h:index s [32]=(i:Int)):splitK [32] 0 (k+1) s=s.take i::splitK [32] 0 k (s.drop (i+1)):=by
 rw [splitK,if_neg (by rw [h];simp),h]
 rfl
theorem splitK_pcw:∀(s:List UInt8),splitK [32] 0 (s.count 32) s=pcw s
 | []=>by simp [splitK,pcw]
 | x::l=>by
   have ih:=splitK_pcw l
   by_cases h:x=32
   ·subst h
    rw [List.count_cons_self,splitK_hitw (i:=0) (index_eq 32 l)]
    unfold pcw
    rw [if_pos rfl,←ih]
    rfl
   ·rw [List.count_cons_of_ne h]
    unfold pcw
    rw [if_neg h,←ih]
    cases hk:l.count 32 with
    | zero=>simp [splitK]
    | succ k=>
      obtain ⟨i,hi⟩:=index_of_count (s:=l) (old:=[32]) (by rw [count_one];omega)
      rw [splitK_hitw (k:=k) hi,splitK_hitw (s:=x::l) (k:=k) (i:=i+1) (by
       rw [index_ne h,hi,if_neg (by simp)];rfl)]
      simp only [List.take_succ_cons,List.drop_succ_cons]
theorem countB_32(L:List UInt8):countB (bs L) ⟨#[32]⟩=L.count 32:=by
 show count (bs L).data.toList [32]=_
 rw [bs_data,count_one]
theorem splitB_pcw(L:List UInt8):splitB ⟨#[32]⟩ 0 (countB (bs L) ⟨#[32]⟩) (bs L)=(pcw L).map bs:=by
 have h:=splitB_data ⟨#[32]⟩ 0 (countB (bs L) ⟨#[32]⟩) (bs L)
 rw [countB_32,bs_data] at h
 rw [countB_32]
 have h2:(splitB ⟨#[32]⟩ 0 (L.count 32) (bs L)).map (fun x=>x.data.toList)=pcw L:=h.trans (splitK_pcw L)
 rw [←h2,List.map_map]
 have e:(bs ∘ fun x:ByteArray=>x.data.toList)=id:=by funext x;exact bs_self x
 rw [e,List.map_id]
theorem split32_c{L:List UInt8}(hL:L.length≤100000):oSplit [.lit (.string (bs L)),.lit (.string (⟨#[32]⟩:ByteArray))]=some (.sl 1 (((pcw L).map bs).map strC)):=by
 unfold oSplit
 dsimp only
 rw [if_pos ⟨by rw [bs_size];omega,by decide⟩,splitB_pcw]
 rfl
end
section
open Go.RowKit
open Lib (decDigits)
def dpF(L:List UInt8):Option Rat:=
 let neg:=decide (L.head?=some 45)
 let M:=if neg=true then L.drop 1 else L
 let D:=M.takeWhile isD
 if D=[] then none else match M.dropWhile isD with
 | []=>some (qv neg (dgV D 0) 1)
 | c::R=>
   let E:=R.takeWhile isD
   if c=47 then (if E=[]∨R.dropWhile isD≠[]∨dgV E 0=0 then none else some (qv neg (dgV D 0) (dgV E 0)))
   else if c=46 then (if E=[]∨R.dropWhile isD≠[] then none else some (qv neg (dgV (D++E) 0) (10 ^ E.length)))
   else none
def rtx(q:Rat):List UInt8:=(if ngT q=true then [45] else [])++absT q
theorem tw_dig:∀{D R:List UInt8},(∀c∈D,isD c=true)→(∀c l,R=c::l→isD c=false)→(D++R).takeWhile isD=D∧(D++R).dropWhile isD=R
 | [],R,_,h=>by
   cases R with
   | nil=>exact ⟨rfl,rfl⟩
   | cons c l=>
     have hc:=h c l rfl
     rw [List.nil_append,List.takeWhile_cons,List.dropWhile_cons,hc]
     exact ⟨rfl,rfl⟩
 | d::D,R,hD,h=>by
   have hd:=hD d List.mem_cons_self
   obtain ⟨h1,h2⟩:=tw_dig (D:=D) (R:=R) (fun c hc=>hD c (List.mem_cons_of_mem _ hc)) h
   rw [List.cons_append,List.takeWhile_cons,List.dropWhile_cons,hd]
   simp only [if_true,h1,h2,and_self]
theorem dp_rtx(q:Rat):dpF (rtx q)=some q:=by
 obtain ⟨a1,a2,_⟩:=dd_d q.num.natAbs q.num.natAbs (Nat.le_refl _)
 obtain ⟨b1,b2,_⟩:=dd_d q.den q.den (Nat.le_refl _)
 have hq:=qv_of q
 have hd:=q.den_pos
 have hM:(if decide ((rtx q).head?=some 45)=true then (rtx q).drop 1 else rtx q)=absT q∧decide ((rtx q).head?=some 45)=ngT q:=by
  unfold rtx
  cases hn:ngT q with
  | true=>exact ⟨rfl,rfl⟩
  | false=>
    obtain ⟨c,l,e,hc⟩:=absT_hd q []
    rw [List.append_nil] at e
    have hne:=isD_ne (d:=45) hc (by decide)
    have e3:(if false=true then [45] else [])++absT q=absT q:=rfl
    rw [e3,e]
    have:decide ((c::l).head?=some 45)=false:=decide_eq_false (fun h=>hne (Option.some.inj h))
    rw [this]
    exact ⟨rfl,rfl⟩
 unfold dpF
 dsimp only
 rw [hM.1,hM.2]
 unfold absT
 by_cases h1:q.den=1
 ·rw [if_pos h1,(tw_dig a1 (fun c l e=>by cases e)).1,(tw_dig a1 (fun c l e=>by cases e)).2,if_neg (dd_ne _)]
  dsimp only
  rw [a2,←h1,hq]
 ·rw [if_neg h1]
  have hs:∀c l,47::decDigits q.den=c::l→isD c=false:=fun c l e=>by cases e;decide
  have t:=tw_dig b1 (R:=[]) (fun c l e=>by cases e)
  rw [List.append_nil] at t
  rw [(tw_dig a1 hs).1,(tw_dig a1 hs).2,if_neg (dd_ne _)]
  dsimp only
  rw [if_pos rfl,t.1,t.2,if_neg (by rw [b2];intro h;rcases h with h|h|h;exact dd_ne _ h;exact h rfl;omega),a2,b2,hq]
theorem dgV_lt0:∀(d:List UInt8) (n k:Nat),(∀c∈d,isD c=true)→n<10 ^ k→dgV d n<10 ^ (k+d.length)
 | [],n,k,_,h=>h
 | c::d,n,k,hd,h=>by
   have hc:c.toNat≤57:=by
    have:=hd c (by simp)
    unfold isD at this
    exact (of_decide_eq_true this).2
   have e:10 ^ (k+1)=10 ^ k*10:=Nat.pow_succ 10 _
   have:=dgV_lt0 d (n*10+(c.toNat-48)) (k+1) (fun x hx=>hd x (by simp [hx])) (by omega)
   rw [List.length_cons,show k+(d.length+1)=k+1+d.length from by omega]
   exact this
theorem lmb_dg{D:List UInt8}(hD:∀c∈D,isD c=true){m:Nat}(h:D.length≤m):(lmb (dgV D 0)).length≤m:=by
 have h1:=dgV_lt0 D 0 0 hD (by decide)
 refine lmb_len_le (Nat.lt_of_lt_of_le h1 ?_)
 rw [Nat.zero_add]
 exact Nat.le_trans (Nat.pow_le_pow_right (by decide) h) (Nat.pow_le_pow_left (by decide) m)
theorem tw_all(L:List UInt8):∀c∈L.takeWhile isD,isD c=true:=fun c hc=>by
 have:∀l:List UInt8,c∈l.takeWhile isD→isD c=true:=fun l=>by
  induction l with
  | nil=>intro h;cases h
  | cons x l ih=>
    intro h
    rw [List.takeWhile_cons] at h
    split at h
    ·rcases List.mem_cons.1 h with rfl|h
     ·assumption
     ·exact ih h
    ·cases h
 exact this L hc
theorem H_qv{neg:Bool}{a d m:Nat}(ha:(lmb a).length≤m)(hd:(lmb d).length≤m)(h0:0<d):H (qv neg a d)≤m:=by
 have h1:=H_mk (sgi neg a) h0
 have e:(sgi neg a).natAbs=a:=by unfold sgi;split <;>omega
 rw [e] at h1
 unfold qv
 omega
theorem dp_H{L:List UInt8}{q:Rat}(h:dpF L=some q):H q≤L.length+1:=by
 unfold dpF at h
 dsimp only at h
 have hM:(if decide (L.head?=some 45)=true then L.drop 1 else L).length≤L.length:=by
  split
  ·rw [List.length_drop];omega
  ·exact Nat.le_refl _
 generalize (if decide (L.head?=some 45)=true then L.drop 1 else L)=M at h hM
 have hl:(M.takeWhile isD).length+(M.dropWhile isD).length=M.length:=by rw [←List.length_append,List.takeWhile_append_dropWhile]
 have hDa:=tw_all M
 generalize M.takeWhile isD=D at h hl hDa
 split at h
 ·cases h
 ·generalize M.dropWhile isD=R0 at h hl
  cases R0 with
  | nil=>
    dsimp only at h
    cases h
    exact H_qv (lmb_dg hDa (by omega)) (Nat.le_trans (lmb_len_le (k:=1) (by decide)) (by omega)) (by decide)
  | cons c R=>
    dsimp only at h
    have hl2:(R.takeWhile isD).length+(R.dropWhile isD).length=R.length:=by rw [←List.length_append,List.takeWhile_append_dropWhile]
    have hEa:=tw_all R
    rw [List.length_cons] at hl
    generalize R.takeWhile isD=E at h hl2 hEa
    split at h
    ·split at h
     ·cases h
     ·rename_i h3
      cases h
      exact H_qv (lmb_dg hDa (by omega)) (lmb_dg hEa (by omega)) (Nat.pos_of_ne_zero fun e=>h3 (.inr (.inr e)))
    ·split at h
     ·split at h
      ·cases h
      ·cases h
       refine H_qv (lmb_dg (fun c hc=>by rcases List.mem_append.1 hc with h|h;exact hDa c h;exact hEa c h) (by rw [List.length_append];omega)) (lmb_len_le ?_) (Nat.pow_pos (by decide))
       refine Nat.lt_of_lt_of_le (Nat.pow_lt_pow_right (by decide) (show E.length<L.length+1 by omega)) (Nat.pow_le_pow_left (by decide) _)
     ·cases h
structure DVal (d:TDecision):Prop where
 i:0≤d.Index
 k:((d.Kind=1∨d.Kind=2)∧d.Index<1024∧d.At=0)∨((d.Kind=3∨d.Kind=4)∧d.Index<256)
def dtxt(d:TDecision):List UInt8:=
 if d.Kind=1 then 117::(decDigits d.Index.toNat++[32,111,110])
 else if d.Kind=2 then 117::(decDigits d.Index.toNat++[32,111,102,102])
 else if d.Kind=3 then 120::(decDigits d.Index.toNat++32::62::61::32::rtx d.At)
 else 120::(decDigits d.Index.toNat++32::60::61::32::rtx d.At)
theorem pcw_no:∀{X:List UInt8},(∀c∈X,c≠32)→pcw X=[X]
 | [],_=>rfl
 | c::X,h=>by
   unfold pcw
   rw [if_neg (h c List.mem_cons_self),pcw_no fun d hd=>h d (List.mem_cons_of_mem _ hd)]
theorem pcw_at:∀{X:List UInt8} (Y:List UInt8),(∀c∈X,c≠32)→pcw (X++32::Y)=X::pcw Y
 | [],Y,_=>by
   show pcw (32::Y)=_
   conv=>lhs;unfold pcw
   rw [if_pos rfl]
 | c::X,Y,h=>by
   rw [List.cons_append]
   conv=>lhs;unfold pcw
   rw [if_neg (h c List.mem_cons_self),pcw_at Y fun d hd=>h d (List.mem_cons_of_mem _ hd)]
theorem dd_32(k:Nat):∀c∈decDigits k,c≠32:=fun c hc=>isD_ne ((dd_d k k (Nat.le_refl _)).1 c hc) (by decide)
theorem rtx_32(q:Rat):∀c∈rtx q,c≠32:=fun c hc=>by
 unfold rtx absT at hc
 rcases List.mem_append.1 hc with h|h
 ·split at h
  ·rw [List.mem_singleton.1 h];decide
  ·cases h
 ·rcases List.mem_append.1 h with h|h
  ·exact dd_32 _ c h
  ·split at h
   ·cases h
   ·rcases List.mem_cons.1 h with rfl|h
    ·decide
    ·exact dd_32 _ c h
theorem pcw_cons{a:UInt8}(ha:a≠32)(k:Nat)(Y:List UInt8):pcw (a::(decDigits k++32::Y))=(a::decDigits k)::pcw Y:=by
 have:=pcw_at (X:=a::decDigits k) Y (fun c hc=>by
  rcases List.mem_cons.1 hc with rfl|hc
  ·exact ha
  ·exact dd_32 k c hc)
 exact this
def dwords(d:TDecision):List (List UInt8):=
 if d.Kind=1 then [117::decDigits d.Index.toNat,[111,110]]
 else if d.Kind=2 then [117::decDigits d.Index.toNat,[111,102,102]]
 else if d.Kind=3 then [120::decDigits d.Index.toNat,[62,61],rtx d.At]
 else [120::decDigits d.Index.toNat,[60,61],rtx d.At]
theorem pcw_dtxt(d:TDecision):pcw (dtxt d)=dwords d:=by
 unfold dtxt dwords
 split
 ·rw [pcw_cons (by decide),pcw_no (by decide)]
 ·split
  ·rw [pcw_cons (by decide),pcw_no (by decide)]
  ·split
   ·rw [pcw_cons (by decide),show (62::61::32::rtx d.At:List UInt8)=[62,61]++32::rtx d.At from rfl,pcw_at _ (by decide),pcw_no (rtx_32 _)]
   ·rw [pcw_cons (by decide),show (60::61::32::rtx d.At:List UInt8)=[60,61]++32::rtx d.At from rfl,pcw_at _ (by decide),pcw_no (rtx_32 _)]
noncomputable def ppR(p:Option TDecision)(L:List UInt8):Option TDecision:=
 open Classical in match p with
 | some d=>if DVal d∧dtxt d=L then some d else none
 | none=>none
theorem ppR_same{f g:List UInt8→Option TDecision}(hf:∀d,DVal d→f (dtxt d)=some d)(hg:∀d,DVal d→g (dtxt d)=some d)(L:List UInt8):ppR (f L) L=ppR (g L) L:=by
 have key:∀(f g:List UInt8→Option TDecision),(∀d,DVal d→g (dtxt d)=some d)→∀d,ppR (f L) L=some d→ppR (g L) L=some d:=fun f g hg d h=>by
  unfold ppR at h
  split at h
  ·rename_i d' _
   split at h
   ·rename_i h2
    cases h
    have e:=hg d h2.1
    rw [h2.2] at e
    unfold ppR
    rw [e]
    exact if_pos h2
   ·cases h
  ·cases h
 cases h:ppR (f L) L with
 | some d=>exact (key f g hg d h).symm
 | none=>
   cases h2:ppR (g L) L with
   | none=>rfl
   | some d=>rw [key g f hf d h2] at h;cases h
end
section
open Go.RowKit
section
variable {a1 : List Nat} {n : Nat} {r : List Nat} {a0 : Bool}
theorem imk_f1(K1:(oN1 (fun _=>true) fun x=>natA (lmb (val x))) [natA a1]=some (natA r))(C2:a0=true):
  run (n+2) 152 [.lit (.bool a0),natA a1]=some (.agg [.lit (.bool (decide (0<(r.length:Int)))),natA r]):=by
 unfold run fnP
 simp+decide [Tryz.f152,K1,C2]
theorem imk_f2(K1:(oN1 (fun _=>true) fun x=>natA (lmb (val x))) [natA a1]=some (natA r))(C2:a0=false):
  run (n+2) 152 [.lit (.bool a0),natA a1]=some (.agg [.lit (.bool false),natA r]):=by
 unfold run fnP
 simp+decide [Tryz.f152,K1,C2]
end
section
variable {a1 : TInt} {n : Nat} {r : Int} {a0 : TInt} {r2 : Rat}
theorem rmk_f1(K1:(fISgn) [.agg [.lit (.bool a1.Neg),natA a1.Mag]]=some (.lit (.int .i64 r)))(C2:r=0):
  run (n+6) 151 [.agg [.lit (.bool a0.Neg),natA a0.Mag],.agg [.lit (.bool a1.Neg),natA a1.Mag]]=some (.tup [.agg [.lit (.bool false),.sl 1 [],.sl 1 []],.lit (.int .i64 3)]):=by
 have C2_:(r==0)=true:=by rw [C2];simp
 have C2_n:(r !=0)=false:=by rw [C2];simp
 unfold run fnP
 simp+decide [Tryz.f151,K1,C2_,C2_n]
theorem rmk_f2(K1:(fISgn) [.agg [.lit (.bool a1.Neg),natA a1.Mag]]=some (.lit (.int .i64 r)))(C2:¬r=0)(K3:(oQt) [.lit (.bool (!(a0.Neg==a1.Neg))),natA a0.Mag,natA a1.Mag]=some (ratV r2)):
  run (n+6) 151 [.agg [.lit (.bool a0.Neg),natA a0.Mag],.agg [.lit (.bool a1.Neg),natA a1.Mag]]=some (.tup [ratV r2,.lit (.int .i64 0)]):=by
 have C2_:(r==0)=false:=by simpa using C2
 have C2_n:(r !=0)=true:=by simpa using C2
 simp only [ratV] at K3
 unfold run fnP
 simp+decide [Tryz.f151,K1,C2_,C2_n,K3]
end
end
structure TparserD where
 s:ByteArray
 at_:Int
 count:Int
section
open Go.RowKit
section
variable {b : UInt8} {a1 : Int} {n : Nat} {a0 : TparserD}
theorem dis_f1(C1:a0.at_<(a0.s.size:Int))(E2:a0.s[a0.at_.toNat]?=some b)(Z2:0≤a0.at_)(C3:(b.toNat:Int)=a1)(W4:InI (a0.at_+1)):
  runL n 147 [.ptr 0 0,.lit (.int .u8 a1)] [.box 120 [.lit (.string a0.s),.lit (.int .i64 (a0.at_)),.lit (.int .i64 (a0.count))] false]=some (.lit (.bool true),[(0,.box 120 [.lit (.string a0.s),.lit (.int .i64 (a0.at_+1)),.lit (.int .i64 (a0.count))] false)]):=by
 have C3_:((b.toNat:Int)==a1)=true:=by rw [C3];simp
 have C3_n:((b.toNat:Int) !=a1)=false:=by rw [C3];simp
 have W4_:IntKind.i64.wrap (a0.at_+1)=a0.at_+1:=wr64 W4.1 W4.2
 have EG2:∀h,(a0.s)[a0.at_.toNat]'h=b:=fun h=>Option.some.inj ((getElem?_pos (a0.s) (a0.at_.toNat) h).symm.trans E2)
 unfold runL fnL
 simp+decide [EG2, Tryz.f147,C1,E2,Z2,C3_,C3_n,W4_]
theorem dis_f2(C1:a0.at_<(a0.s.size:Int))(E2:a0.s[a0.at_.toNat]?=some b)(Z2:0≤a0.at_)(C3:¬(b.toNat:Int)=a1):
  runL n 147 [.ptr 0 0,.lit (.int .u8 a1)] [.box 120 [.lit (.string a0.s),.lit (.int .i64 (a0.at_)),.lit (.int .i64 (a0.count))] false]=some (.lit (.bool false),[(0,.box 120 [.lit (.string a0.s),.lit (.int .i64 (a0.at_)),.lit (.int .i64 (a0.count))] false)]):=by
 have C3_:((b.toNat:Int)==a1)=false:=by simpa using C3
 have C3_n:((b.toNat:Int) !=a1)=true:=by simpa using C3
 have EG2:∀h,(a0.s)[a0.at_.toNat]'h=b:=fun h=>Option.some.inj ((getElem?_pos (a0.s) (a0.at_.toNat) h).symm.trans E2)
 unfold runL fnL
 simp+decide [EG2, Tryz.f147,C1,E2,Z2,C3_,C3_n]
theorem dis_f3(C1:¬a0.at_<(a0.s.size:Int)):
  runL n 147 [.ptr 0 0,.lit (.int .u8 a1)] [.box 120 [.lit (.string a0.s),.lit (.int .i64 (a0.at_)),.lit (.int .i64 (a0.count))] false]=some (.lit (.bool false),[(0,.box 120 [.lit (.string a0.s),.lit (.int .i64 (a0.at_)),.lit (.int .i64 (a0.count))] false)]):=by
 unfold runL fnL
 simp+decide [Tryz.f147,C1]
end
noncomputable def ddg_C2:Code:=(loopsOf (bodyOf Tryz.f148)).getD 0 .skip
def ddg_h2(a0:TparserD)(i_2:Int)(i2_2:Int):St:=
 ⟨[(0,.ptr 0 0),(4,.lit (.int .i64 (a0.at_)))],
  [(0,some (.box 120 [.lit (.string a0.s),.lit (.int .i64 i_2),.lit (.int .i64 i2_2)] false))],1⟩
def ddg_o2b(a0:TparserD)(i_2:Int)(i2_2:Int):St:=
 ⟨[(0,.ptr 0 0),(2,.any),(3,.any),(4,.lit (.int .i64 (a0.at_)))],
  [(0,some (.box 120 [.lit (.string a0.s),.lit (.int .i64 i_2),.lit (.int .i64 i2_2)] false))],1⟩
section
variable {i2_2 : Int} {a0 : TparserD} {n : Nat} {b3 : UInt8} {i_2 : Int} {sub : ByteArray}
section
variable(C1:i_2<(a0.s.size:Int))(E2:a0.s[i_2.toNat]?=some b3)(Z2:0≤i_2)
include C1 E2 Z2
theorem ddg_r2_1(C3:48≤(b3.toNat:Int))(C4:(b3.toNat:Int)≤57)(C5:¬i2_2=4000)(W6:InI (i2_2+1))(W7:InI (i_2+1)):
  Cont 1 (exec Tryz.prog (tab n) 1 78 (livesOf 148) big ddg_C2) (livesOf 148 2) (ddg_h2 a0 i_2 i2_2) (ddg_h2 a0 (i_2+1) (i2_2+1)):=by
 have C3_:48≤b3.toNat:=by omega
 have C4_:b3.toNat≤57:=by omega
 have C5_:(i2_2==4000)=false:=by simpa using C5
 have C5_n:(i2_2 !=4000)=true:=by simpa using C5
 have W6_:IntKind.i64.wrap (i2_2+1)=i2_2+1:=wr64 W6.1 W6.2
 have W7_:IntKind.i64.wrap (i_2+1)=i_2+1:=wr64 W7.1 W7.2
 have EG2:∀h,(a0.s)[i_2.toNat]'h=b3:=fun h=>Option.some.inj ((getElem?_pos (a0.s) (i_2.toNat) h).symm.trans E2)
 unfold Cont
 simp+decide [EG2,ddg_h2,loopsOf, Tryz.f148,ddg_C2,C1,E2,Z2,C3,C3_,C4,C4_,C5_,C5_n,W6_,W7_]
theorem ddg_x2_2(C3:48≤(b3.toNat:Int))(C4:¬(b3.toNat:Int)≤57):
  Leave 1 (exec Tryz.prog (tab n) 1 78 (livesOf 148) big ddg_C2) (livesOf 148 (outOf 2)) (ddg_h2 a0 i_2 i2_2) (.exit 0) (ddg_o2b a0 i_2 i2_2):=by
 have C3_:48≤b3.toNat:=by omega
 have C4_:¬b3.toNat≤57:=by omega
 have EG2:∀h,(a0.s)[i_2.toNat]'h=b3:=fun h=>Option.some.inj ((getElem?_pos (a0.s) (i_2.toNat) h).symm.trans E2)
 unfold Leave
 simp+decide [EG2,ddg_h2,loopsOf, Tryz.f148,ddg_o2b,ddg_C2,C1,E2,Z2,C3,C3_,C4,C4_]
theorem ddg_x2_3(C3:¬48≤(b3.toNat:Int)):
  Leave 1 (exec Tryz.prog (tab n) 1 78 (livesOf 148) big ddg_C2) (livesOf 148 (outOf 2)) (ddg_h2 a0 i_2 i2_2) (.exit 0) (ddg_o2b a0 i_2 i2_2):=by
 have C3_:¬48≤b3.toNat:=by omega
 have EG2:∀h,(a0.s)[i_2.toNat]'h=b3:=fun h=>Option.some.inj ((getElem?_pos (a0.s) (i_2.toNat) h).symm.trans E2)
 unfold Leave
 simp+decide [EG2,ddg_h2,loopsOf, Tryz.f148,ddg_o2b,ddg_C2,C1,E2,Z2,C3,C3_]
end
theorem ddg_x2_4(C1:¬i_2<(a0.s.size:Int)):
  Leave 1 (exec Tryz.prog (tab n) 1 78 (livesOf 148) big ddg_C2) (livesOf 148 (outOf 2)) (ddg_h2 a0 i_2 i2_2) (.exit 0) (ddg_o2b a0 i_2 i2_2):=by
 unfold Leave
 simp+decide [ddg_h2,loopsOf, Tryz.f148,ddg_o2b,ddg_C2,C1]
section
variable(L1:loopG Tryz.prog (tab n) 1 78 (livesOf 148) 2 ddg_C2 (ddg_h2 a0 a0.at_ a0.count)=some (.exit 0,ddg_o2b a0 i_2 i2_2))
include L1
theorem ddg_f2(C2:i_2=a0.at_):
  runL n 148 [.ptr 0 0] [.box 120 [.lit (.string a0.s),.lit (.int .i64 (a0.at_)),.lit (.int .i64 (a0.count))] false]=some (.tup [.lit (.string (⟨#[]⟩:ByteArray)),.lit (.int .i64 4)],[(0,.box 120 [.lit (.string a0.s),.lit (.int .i64 i_2),.lit (.int .i64 i2_2)] false)]):=by
 have C2_:(i_2==a0.at_)=true:=by rw [C2];simp
 have C2_n:(i_2 !=a0.at_)=false:=by rw [C2];simp
 unfold runL fnL
 simp+decide [Tryz.f148,C2_,C2_n]
 rw [loopX_G (C':=ddg_C2) (e:=(ddg_h2 a0 a0.at_ a0.count)) ?_ ?_,L1]
 rotate_left
 ·kernel_rfl
 ·simp+decide [ddg_h2,C2_,C2_n]
 simp+decide [ddg_o2b,C2_,C2_n]
theorem ddg_f3(C2:¬i_2=a0.at_)(U3:0≤a0.at_∧a0.at_≤i_2∧i_2≤(a0.s.size:Int))(D3:sub=a0.s.extract a0.at_.toNat i_2.toNat):
  runL n 148 [.ptr 0 0] [.box 120 [.lit (.string a0.s),.lit (.int .i64 (a0.at_)),.lit (.int .i64 (a0.count))] false]=some (.tup [.lit (.string sub),.lit (.int .i64 0)],[(0,.box 120 [.lit (.string a0.s),.lit (.int .i64 i_2),.lit (.int .i64 i2_2)] false)]):=by
 have C2_:(i_2==a0.at_)=false:=by simpa using C2
 have C2_n:(i_2 !=a0.at_)=true:=by simpa using C2
 have D3_:=D3.symm
 unfold runL fnL
 simp+decide [Tryz.f148,C2_,C2_n,U3,D3_]
 rw [loopX_G (C':=ddg_C2) (e:=(ddg_h2 a0 a0.at_ a0.count)) ?_ ?_,L1]
 rotate_left
 ·kernel_rfl
 ·simp+decide [ddg_h2,C2_,C2_n,U3,D3_]
 simp+decide [ddg_o2b,C2_,C2_n,U3,D3_]
end
end
end
section
open Go.RowKit
noncomputable def dva_C2:Code:=(loopsOf (bodyOf Tryz.f149)).getD 0 .skip
noncomputable def dva_C6:Code:=(loopsOf dva_C2).getD 0 .skip
def dva_h6(str_2:ByteArray)(nat_2:List Nat)(i_6:Int)(i2_6:Int)(sub5:ByteArray)(i3_6:Nat):St:=
 ⟨[(0,.lit (.string str_2)),(3,natA nat_2),(4,.lit (.int .i64 ((if 9<(str_2.size:Int) then 9 else (str_2.size:Int))))),(5,.lit (.int .u64 i_6)),(6,.lit (.int .u64 i2_6)),(18,.sl 1 ((byL sub5).map intU8C)),(19,.lit (.int .i64 (((byL sub5).length:Int)))),(20,.lit (.int .i64 (i3_6:Int)))],
  [],0⟩
def dva_h2(str_2:ByteArray)(nat_2:List Nat):St:=
 ⟨[(0,.lit (.string str_2)),(3,natA nat_2)],
  [],0⟩
def dva_o6a(str_2:ByteArray)(nat_2:List Nat)(i_6:Int)(i2_6:Int):St:=
 ⟨[(0,.lit (.string str_2)),(3,natA nat_2),(4,.lit (.int .i64 ((if 9<(str_2.size:Int) then 9 else (str_2.size:Int))))),(5,.lit (.int .u64 i_6)),(6,.lit (.int .u64 i2_6))],
  [],0⟩
def dva_o2a(nat_2:List Nat):St:=
 ⟨[(3,natA nat_2)],
  [],0⟩
section
variable {sub5 : ByteArray} {nat_2 : List Nat} {i2_6 : Int} {n : Nat} {str_2 : ByteArray} {i_6 : Int} {i3_6 : Nat} {x9 : Int} {r12 : List Nat} {r9 : List Nat} {sub6 : ByteArray} {r10 : List Nat} {r11 : List Nat} {a0 : ByteArray}
theorem dva_r6_1(C1:(i3_6:Int)<((byL sub5).length:Int))(E2:(byL sub5)[i3_6]?=some x9)(W3:IntKind.u64.wrap (10*i_6)=10*i_6)(W4:IntKind.u8.wrap (x9-48)=x9-48)(W5:IntKind.u64.wrap (x9-48)=x9-48)(W6:IntKind.u64.wrap ((10*i_6)+(x9-48))=(10*i_6)+(x9-48))(W7:IntKind.u64.wrap (i2_6*10)=i2_6*10)(W8:InI ((i3_6:Int)+1)):
  Cont 0 (exec Tryz.prog (tab (n+2)) 0 44 (livesOf 149) big dva_C6) (livesOf 149 6) (dva_h6 str_2 nat_2 i_6 i2_6 sub5 i3_6) (dva_h6 str_2 nat_2 ((10*i_6)+(x9-48)) (i2_6*10) sub5 (i3_6+1)):=by
 have C1_:i3_6<(byL sub5).length:=by omega
 obtain ⟨EL2,EG2⟩:=List.getElem?_eq_some_iff.1 E2
 have W8_:IntKind.i64.wrap ((i3_6:Int)+1)=(i3_6:Int)+1:=wr64 W8.1 W8.2
 unfold Cont
 simp+decide [dva_h6,loopsOf, Tryz.f149,dva_C2,dva_C6,C1,C1_,EL2,EG2,E2,W3,W4,W5,W6,W7,W8_]
theorem dva_x6_1(C1:¬(i3_6:Int)<((byL sub5).length:Int)):
  Leave 0 (exec Tryz.prog (tab (n+2)) 0 44 (livesOf 149) big dva_C6) (livesOf 149 (outOf 6)) (dva_h6 str_2 nat_2 i_6 i2_6 sub5 i3_6) (.exit 2) (dva_o6a str_2 nat_2 i_6 i2_6):=by
 have C1_:¬i3_6<(byL sub5).length:=by omega
 unfold Leave
 simp+decide [dva_h6,loopsOf, Tryz.f149,dva_o6a,dva_C2,dva_C6,C1,C1_]
theorem dva_r2_1(C1:0<(str_2.size:Int))(U2:0≤0∧0≤(if 9<(str_2.size:Int) then 9 else (str_2.size:Int))∧(if 9<(str_2.size:Int) then 9 else (str_2.size:Int))≤(str_2.size:Int))(D2:sub5=str_2.extract 0 (((if 9<(str_2.size:Int) then 9 else (str_2.size:Int))).toNat))(L4:loopG Tryz.prog (tab (n+2)) 0 44 (livesOf 149) 6 dva_C6 (dva_h6 str_2 nat_2 0 1 sub5 0)=some (.exit 2,dva_o6a str_2 nat_2 i_6 i2_6))(K5:(oU fun k=>natA (lmb k)) [.lit (.int .u64 i2_6)]=some (natA r9))(K6:(oN2 fun x y=>natA (lmb (val x*val y))) [natA nat_2,natA r9]=some (natA r10))(K7:(oU fun k=>natA (lmb k)) [.lit (.int .u64 i_6)]=some (natA r11))(K8:(oN2 fun x y=>natA (lmb (val x+val y))) [natA r10,natA r11]=some (natA r12))(U9:0≤(if 9<(str_2.size:Int) then 9 else (str_2.size:Int))∧(if 9<(str_2.size:Int) then 9 else (str_2.size:Int))≤(str_2.size:Int)∧(str_2.size:Int)≤(str_2.size:Int))(D9:sub6=str_2.extract (((if 9<(str_2.size:Int) then 9 else (str_2.size:Int))).toNat) str_2.size):
  Cont 0 (exec Tryz.prog (tab (n+2)) 0 44 (livesOf 149) big dva_C2) (livesOf 149 2) (dva_h2 str_2 nat_2) (dva_h2 sub6 r12):=by
 have C1_:0<str_2.size:=by omega
 have C1_z:(str_2.size:Int)≠0:=by omega
 have C1_e:((str_2.size:Int)==0)=false:=by simpa using C1_z
 have C1_g:((str_2.size:Int) !=0)=true:=by simpa using C1_z
 have D2_:=D2.symm
 have D9_:=D9.symm
 unfold Cont
 simp+decide [dva_h2,loopsOf, Tryz.f149,dva_C2,C1,C1_,C1_e,C1_g,U2,D2_,strEls_by,K5,K6,K7,K8,U9,D9_]
 rw [loopX_G (C':=dva_C6) (e:=(dva_h6 str_2 nat_2 0 1 sub5 0)) ?_ ?_,L4]
 rotate_left
 ·kernel_rfl
 ·simp+decide [dva_h6,loopsOf, Tryz.f149,dva_C2,C1,C1_,C1_e,C1_g,U2,D2_,strEls_by,K5,K6,K7,K8,U9,D9_]
 simp+decide [dva_o6a,loopsOf, Tryz.f149,dva_C2,C1,C1_,C1_e,C1_g,U2,D2_,strEls_by,K5,K6,K7,K8,U9,D9_]
theorem dva_x2_1(C1:¬0<(str_2.size:Int)):
  Leave 0 (exec Tryz.prog (tab (n+2)) 0 44 (livesOf 149) big dva_C2) (livesOf 149 (outOf 2)) (dva_h2 str_2 nat_2) (.exit 0) (dva_o2a nat_2):=by
 have C1_:¬0<str_2.size:=by omega
 have C1_z:(str_2.size:Int)=0:=by omega
 have C1_e:((str_2.size:Int)==0)=true:=by rw [C1_z];simp
 have C1_g:((str_2.size:Int) !=0)=false:=by rw [C1_z];simp
 unfold Leave
 simp+decide [dva_h2,loopsOf, Tryz.f149,dva_o2a,dva_C2,C1,C1_,C1_e,C1_g]
theorem dva_f1(L1:loopG Tryz.prog (tab (n+2)) 0 44 (livesOf 149) 2 dva_C2 (dva_h2 a0 [])=some (.exit 0,dva_o2a nat_2)):
  run (n+2) 149 [.lit (.string a0)]=some (natA nat_2):=by
 unfold run fnP
 simp+decide [Tryz.f149]
 rw [loopX_G (C':=dva_C2) (e:=(dva_h2 a0 [])) ?_ ?_,L1]
 rotate_left
 ·kernel_rfl
 ·simp+decide [dva_h2];rfl
 simp+decide [dva_o2a]
end
end
end Go.Proofs.YtnegdhjdienjlaaGreatDoor
