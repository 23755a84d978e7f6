import Derived.Test.YtnegdhjdienjlaaGreatDoorGB27
import Derived.Test.YtnegdhjdienjlaaGreatDoorGB26
import Derived.Test.YtnegdhjdienjlaaGreatDoorGB16
import Derived.Test.YtnegdhjdienjlaaGreatDoorGB25
import Derived.Test.YtnegdhjdienjlaaGreatDoorRows
import Derived.Deep.Slices
import Derived.ChangeArms
import Derived.ChangeSlices
import Derived.DataReads
import Derived.OpenShut
import Derived.Lib.LaidTab
import Derived.Stop.LaidErr
import Derived.Shelf.Vars
import Derived.Handed
import Derived.ChangeOld
import Derived.Stop.Joined
import Derived.Deep.DeepWitnessRowRef
set_option linter.all false
set_option maxHeartbeats 6400000
set_option maxRecDepth 100000
namespace Go.Proofs.YtnegdhjdienjlaaGreatDoor
section
open Go.RowKit Go.Lib
attribute [local irreducible] run runL loopG exec
theorem RowOk.tx{f:Form}(h:RowOk f):TxB f:=⟨by have:=h.l;omega,fun t ht=>by have:=h.t t ht;omega,by have:=h.k;omega⟩
theorem num_tx{q:Rat}(h:H q≤8):TxB (numF q):=⟨by simp [numF],fun t ht=>(by cases ht),by show H q≤_;omega⟩
theorem join_rows:∀(fs:List Form),Lib.join (((fs.map fun f=>bs (rowT f))).map (·.data.toList)) [59,32]=joinT fs
 | []=>rfl
 | [f]=>by
   show Lib.join [(bs (rowT f)).data.toList] _=rowT f
   rw [Lib.join_one,bs_data]
 | f::g::fs=>by
   have ih:=join_rows (g::fs)
   rw [List.map_cons,List.map_cons,Lib.join_cons,bs_data] at ih ⊢
   show rowT f++Lib.joinTail [59,32] (((g::fs).map fun f=>bs (rowT f)).map (·.data.toList))=rowT f++59::32::joinT (g::fs)
   rw [←ih]
   unfold Lib.joinTail
   rw [List.map_cons,List.map_cons,List.map_cons,List.flatten_cons,bs_data]
   rfl
theorem join_c{fs:List Form}(h:(joinT fs).length≤100000)(hl:fs.length≤100000):oJoin [.sl 1 ((fs.map fun f=>bs (rowT f)).map strC),.lit (.string (⟨#[59,32]⟩:ByteArray))]=some (.lit (.string (bs (joinT fs)))):=by
 have e:(⟨#[59,32]⟩:ByteArray).data.toList=[59,32]:=rfl
 simp only [oJoin,strsL_map,e,join_rows]
 rw [if_pos ⟨by rw [List.length_map];omega,by omega⟩]
 rfl
theorem joinT_snoc:∀(fs:List Form) (x:Form),joinT (fs++[x])=if fs=[] then rowT x else joinT fs++59::32::rowT x
 | [],x=>rfl
 | [f],x=>rfl
 | f::g::fs,x=>by
   have ih:=joinT_snoc (g::fs) x
   rw [if_neg (by simp)] at ih ⊢
   show rowT f++59::32::joinT (g::fs++[x])=_
   rw [ih]
   show _=(rowT f++59::32::joinT (g::fs))++59::32::rowT x
   simp
section
variable {n : Nat} {c : TClaim}
theorem ctxR_1{c:TClaimR}(K1:run (n+7) 44 [claimRV c,.lit (.int .i64 256)]=some (.lit (.bool false))):run (n+8) 17 [claimRV c]=some (.lit (.string (⟨#[]⟩:ByteArray))):=by
 simp only [claimRV] at K1
 unfold run fnP
 simp+decide [Tryz.f17,K1]
theorem ftxR_1{c:TClaimR}(K1:run (n+6) 20 [claimRV c,.lit (.int .i64 256)]=some (.lit (.bool false))):run (n+7) 19 [claimRV c]=some (.lit (.string (⟨#[]⟩:ByteArray))):=by
 simp only [claimRV] at K1
 unfold run fnP
 simp+decide [Tryz.f19,K1]
theorem SmC.tg(h:SmC c 256):0≤c.Target∧c.Target<256:=by
 rcases h.k with ⟨k1,k2,k3,k4⟩|⟨k1,k2,k3⟩
 ·exact ⟨k2,k3⟩
 ·omega
theorem top_bs(t:Int):bs (topT t)=(⟨#[116,111,112,32]⟩:ByteArray)++bs (decDigits t.toNat):=(bs_app [116,111,112,32] _).symm
theorem row_bs(f:Form):bs (rowT f)=bs (swT f)++(⟨#[32,62,61,32,48]⟩:ByteArray):=(bs_app _ [32,62,61,32,48]).symm
theorem mg_bs(q:Rat):bs (mgT q)=(⟨#[32,109,97,114,103,105,110,32]⟩:ByteArray)++bs (txt (numF q)):=(bs_app [32,109,97,114,103,105,110,32] _).symm
theorem sg_iff(h:SmC c 256):(c.Margin=0→sgR c.Margin=0)∧(c.Margin≠0→0<sgR c.Margin):=by
 have h0:=sg_ne h.m0
 refine ⟨fun e=>sgR_eq_zero.2 e,fun e=>?_⟩
 have:sgR c.Margin≠0:=fun h=>e (sgR_eq_zero.1 h)
 omega
theorem ctx_c(h:SmC c 256)(hV:run (n+7) 44 [claimV c,.lit (.int .i64 256)]=some (.lit (.bool true))):run (n+8) 17 [claimV c]=some (.lit (.string (bs (ctT c)))):=by
 obtain ⟨t0,t1⟩:=h.tg
 have K3:=k_itoa (v:=c.Target) t0 (by omega)
 have d4:=dd_ten 2 c.Target.toNat (by omega)
 have s4:(⟨#[116,111,112,32]⟩:ByteArray).size=4:=rfl
 have s8:(⟨#[32,109,97,114,103,105,110,32]⟩:ByteArray).size=8:=rfl
 have s5:(⟨#[32,62,61,32,48]⟩:ByteArray).size=5:=rfl
 have hl:=num_len h.m
 have hm8:=h.m
 have hr:=h.row
 have l6:=h.l
 obtain ⟨g1,g2⟩:=sg_iff h
 have S4:(⟨#[116,111,112,32]⟩:ByteArray).size+(bs (decDigits c.Target.toNat)).size≤9000000000000000000:=by rw [s4,bs_size];omega
 have D4:=top_bs c.Target
 have K10:=ltx_c (n:=n) (num_tx h.m)
 rw [num_e] at K10
 have S11:(⟨#[32,109,97,114,103,105,110,32]⟩:ByteArray).size+(bs (txt (numF c.Margin))).size≤9000000000000000000:=by rw [s8,bs_size];omega
 have D11:=mg_bs c.Margin
 have em:(mgT c.Margin).length≤200:=by
  have:wM.length=6:=rfl
  unfold mgT
  simp only [List.length_append,List.length_cons]
  omega
 rcases h.k with ⟨k1,k2,k3,k4⟩|⟨k1,k2,k3⟩
 ·have et:(topT c.Target).length≤10:=by
   unfold topT
   simp only [List.length_cons]
   omega
  by_cases hm:c.Margin=0
  ·have e:ctT c=topT c.Target:=by unfold ctT;rw [if_neg (by omega),if_pos hm,List.append_nil]
   rw [e]
   exact ctx_f5 hV rfl K3 S4 D4 (by omega) (by omega) (by rw [g1 hm];omega)
  ·have e:ctT c=topT c.Target++mgT c.Margin:=by unfold ctT;rw [if_neg (by omega),if_neg hm]
   rw [e]
   exact ctx_f4 hV rfl K3 S4 D4 (by omega) (by omega) (g2 hm) K10 S11 D11 (by rw [bs_size,bs_size];omega) (bs_app _ _).symm
 ·have hj:=join_len c.Rows hr
  have key:=loopG_I (O:=tab (n+8)) (P:= Tryz.prog) (m:=0) (N:=46) (lives:=livesOf 17) (r:=7) (C:=ctx_C7) (L:=c.Rows) (f:=fun _ (o:List ByteArray) f=>o++[bs (rowT f)]) (enc:=fun i o=>ctx_h7 c o i) (exN:=.exit 0) (out:=fun o=>ctx_o7a c o) (Inv:=fun i o=>o.length≤i) [] (by simp) (by omega) (fun h=>by cases h)
   (fun i f o hi hI=>by
    have hlt:=(List.getElem?_eq_some_iff.1 hi).1
    have hf:=hr f (List.mem_of_getElem? hi)
    have lf:=txt_two hf.t hf.k hf.l
    have ls:(swT f).length=(txt f).length:=List.length_map ..
    refine ⟨ctx_r7_1 (F3:=f.1) (q3:=f.2) (by omega) hi (ltx_c (n:=n) hf.tx) (rep_c (a:=120) (b:=121) (by decide) (L:=txt f) (by omega)) (by rw [s5];show (bs (swT f)).size+_≤_;rw [bs_size];omega) (row_bs f) (by omega) ⟨by omega,by omega⟩,by rw [List.length_append,List.length_singleton];omega⟩)
   (fun o hI=>ctx_x7_1 (by omega))
  have L6:=key.1
  rw [map_fold,List.nil_append] at L6
  have K7:=join_c (fs:=c.Rows) (by omega) (by omega)
  by_cases hm:c.Margin=0
  ·have e:ctT c=joinT c.Rows:=by unfold ctT;rw [if_pos k1,if_pos hm,List.append_nil]
   rw [e]
   exact ctx_f3 hV rfl K3 S4 D4 k1 L6 K7 (by omega) (by rw [g1 hm];omega)
  ·have e:ctT c=joinT c.Rows++mgT c.Margin:=by unfold ctT;rw [if_pos k1,if_neg hm]
   rw [e]
   exact ctx_f2 hV rfl K3 S4 D4 k1 L6 K7 (by omega) (g2 hm) K10 S11 D11 (by rw [bs_size,bs_size];omega) (bs_app _ _).symm
theorem ftx2_loop(s0:List UInt8)(hs:s0.length≤100)(h:SmC c 256)(hz:s0≠[]→c.Rows=[]):loopG Tryz.prog (tab (n+7)) 0 50 (livesOf 19) 7 ftx2_C7 (ftx2_h7 c (bs s0) 0)=some (.exit 0,ftx2_o7a c (bs (s0++joinT c.Rows))):=by
 have hr:=h.row
 have l6:=h.l
 have s5:(⟨#[32,62,61,32,48]⟩:ByteArray).size=5:=rfl
 have s2:(⟨#[59,32]⟩:ByteArray).size=2:=rfl
 obtain ⟨b',L,hb,_⟩:=loopG_R (O:=tab (n+7)) (P:= Tryz.prog) (m:=0) (N:=50) (lives:=livesOf 19) (r:=7) (C:=ftx2_C7) (M:=c.Rows.length) (enc:=fun i s=>ftx2_h7 c s i) (exN:=.exit 0) (out:=fun s=>ftx2_o7a c s)
  (fun i s=>s=bs (s0++joinT (c.Rows.take i))∧i≤c.Rows.length) (bs s0) ⟨by rw [List.take_zero];show _=bs (s0++[]);rw [List.append_nil],by omega⟩ (by omega) (fun h=>by cases h)
  (fun i s hi hI=>by
   obtain ⟨rfl,_⟩:=hI
   have hx:c.Rows[i]?=some c.Rows[i]:=List.getElem?_eq_getElem hi
   have ht:c.Rows.take (i+1)=c.Rows.take i++[c.Rows[i]]:=List.take_succ_eq_append_getElem hi
   have hf:=hr _ (List.getElem_mem hi)
   generalize c.Rows[i]=f at hx ht hf
   have lf:=txt_two hf.t hf.k hf.l
   have ls:(swT f).length=(txt f).length:=List.length_map ..
   have lr:=row_len hf
   have K:=ftx_c (n:=n) hf.tx
   have W:oSwap [.lit (.string (bs (txt f))),.lit (.int .u8 120),.lit (.int .u8 121)]=some (.lit (.string (bs (swT f)))):=swap_c (a:=120) (b:=121) (L:=txt f) (by omega)
   have hj:=join_len (c.Rows.take i) fun g hg=>hr g (List.mem_of_mem_take hg)
   rw [List.length_take] at hj
   have e0:s0=[]:=by
    false_or_by_contra
    rename_i h9
    have:=hz h9
    rw [this] at hi
    simp at hi
   subst e0
   have S7:(bs (swT f)).size+(⟨#[32,62,61,32,48]⟩:ByteArray).size≤9000000000000000000:=by rw [s5,bs_size];omega
   have hsz:(bs ([]++joinT (c.Rows.take i))).size≤5000:=by rw [bs_size,List.nil_append];omega
   have hrz:(bs (rowT f)).size≤343:=by rw [bs_size];omega
   by_cases h0:0<i
   ·have D3:bs ([]++joinT (c.Rows.take i)++[59,32])=bs ([]++joinT (c.Rows.take i))++(⟨#[59,32]⟩:ByteArray):=(bs_app _ [59,32]).symm
    have R:=ftx2_r7_1 (n:=n) (a0:=c) (F4:=f.1) (q4:=f.2) (i_7:=i) (str_7:=bs ([]++joinT (c.Rows.take i))) (by omega) (by omega) (by rw [s2];omega) D3 hx K W S7 (row_bs f) (by rw [D3,ByteArray.size_append,s2];omega) (bs_app _ _).symm ⟨by omega,by omega⟩
    refine ⟨_,R,?_,by omega⟩
    rw [ht,joinT_snoc,if_neg (by
     intro e
     have:=congrArg List.length e
     rw [List.length_take,List.length_nil] at this
     omega)]
    simp
   ·have hi0:i=0:=by omega
    subst hi0
    have R:=ftx2_r7_2 (n:=n) (a0:=c) (F5:=f.1) (q5:=f.2) (i_7:=0) (str_7:=bs ([]++joinT (c.Rows.take 0))) (by omega) (by omega) hx K W S7 (row_bs f) (by omega) (bs_app _ _).symm ⟨by omega,by omega⟩
    refine ⟨_,R,?_,by omega⟩
    rw [ht,joinT_snoc,if_pos (by simp)]
    simp [joinT])
  (fun s hI=>ftx2_x7_1 (by omega))
 rw [hb,List.take_length] at L
 exact L
theorem ftx2_c(h:SmC c 256)(hV:run (n+6) 20 [claimV c,.lit (.int .i64 256)]=some (.lit (.bool true))):run (n+7) 19 [claimV c]=some (.lit (.string (bs (ctT c)))):=by
 obtain ⟨t0,t1⟩:=h.tg
 have d4:=dd_ten 2 c.Target.toNat (by omega)
 have s4:(⟨#[116,111,112,32]⟩:ByteArray).size=4:=rfl
 have s8:(⟨#[32,109,97,114,103,105,110,32]⟩:ByteArray).size=8:=rfl
 have hl:=num_len h.m
 have hm8:=h.m
 have hr:=h.row
 have l6:=h.l
 obtain ⟨g1,g2⟩:=sg_iff h
 have K5:=oU_k (z:=c.Target) (k:=c.Target.toNat) (by omega) (by omega)
 have lt2:(lmb c.Target.toNat).length≤1:=lmb_len_le (by omega)
 have K6:=fdg_c (n:=n+2) (K:=c.Target.toNat) (by omega)
 have S7:(⟨#[116,111,112,32]⟩:ByteArray).size+(bs (decDigits c.Target.toNat)).size≤9000000000000000000:=by rw [s4,bs_size];omega
 have D7:=top_bs c.Target
 have K12:=ftx_c (n:=n) (num_tx h.m)
 have S13:(⟨#[32,109,97,114,103,105,110,32]⟩:ByteArray).size+(bs (txt (numF c.Margin))).size≤9000000000000000000:=by rw [s8,bs_size];omega
 have D13:=mg_bs c.Margin
 have em:(mgT c.Margin).length≤200:=by
  have:wM.length=6:=rfl
  unfold mgT
  simp only [List.length_append,List.length_cons]
  omega
 have wr:IntKind.u64.wrap c.Target=c.Target:=by
  have:IntKind.u64.wrap c.Target=c.Target % 18446744073709551616:=rfl
  rw [this];omega
 rcases h.k with ⟨k1,k2,k3,k4⟩|⟨k1,k2,k3⟩
 ·have et:(topT c.Target).length≤10:=by
   unfold topT
   simp only [List.length_cons]
   omega
  have L:=ftx2_loop (n:=n) (topT c.Target) (by omega) h (fun _=>k4)
  rw [k4] at L
  have e0:topT c.Target++joinT []=topT c.Target:=List.append_nil _
  rw [e0] at L
  by_cases hm:c.Margin=0
  ·have e:ctT c=topT c.Target:=by unfold ctT;rw [if_neg (by omega),if_pos hm,List.append_nil]
   rw [e]
   exact ftx2_f3 hV rfl k1 wr K5 K6 S7 D7 L (by omega) (g1 hm)
  ·have e:ctT c=topT c.Target++mgT c.Margin:=by unfold ctT;rw [if_neg (by omega),if_neg hm]
   rw [e]
   exact ftx2_f2 hV rfl k1 wr K5 K6 S7 D7 L (by omega) (by have:=g2 hm;omega) (nbr_c _) K12 S13 D13 (by rw [bs_size,bs_size];omega) (bs_app _ _).symm
 ·have hj:=join_len c.Rows hr
  have L:=ftx2_loop (n:=n) [] (by simp) h (fun h=>absurd rfl h)
  rw [List.nil_append] at L
  by_cases hm:c.Margin=0
  ·have e:ctT c=joinT c.Rows:=by unfold ctT;rw [if_pos k1,if_pos hm,List.append_nil]
   rw [e]
   exact ftx2_f5 hV rfl (by omega) L (by omega) (g1 hm)
  ·have e:ctT c=joinT c.Rows++mgT c.Margin:=by unfold ctT;rw [if_pos k1,if_neg hm]
   rw [e]
   exact ftx2_f4 hV rfl (by omega) L (by omega) (by have:=g2 hm;omega) (nbr_c _) K12 S13 D13 (by rw [bs_size,bs_size];omega) (bs_app _ _).symm
end
end
section
open Go.RowKit
theorem awake20_c:run 24 15 []=some (.lit (.bool true)):=by kernel_rfl
end
section
open Go.RowKit
def awG(args:List AV):Option AV:=match args with|[]=>some (.lit (.bool true))|_=>none
theorem con_awake:∀args r,awG args=some r→Con Tryz.prog 15 args r:=fun args r hr=>by
 unfold awG at hr
 split at hr
 ·cases hr
  exact ((tab_ok 25).pure _ _ (tb_15 24)).2 _ _ awake20_c
 ·cases hr
end
section
open Go.RowKit
noncomputable def cttT(n:Nat):FuncId→Option Orc:=ext (tab (n+16)) 15 (.pure awG)
theorem cttT_ok(n:Nat):OrcOk Tryz.prog (cttT n):=(tab_ok (n+16)).extP (by kernel_rfl) con_awake
noncomputable def ctt(n:Nat)(args:List AV):Option AV:=fnP Tryz.prog (cttT n) (livesOf 5) big (fnOf 5) args
theorem ctt_con{n:Nat}{args:List AV}{r:AV}(h:ctt n args=some r):Con Tryz.prog 5 args r:=
 con_of (cttT_ok n) mixed (plain_fn (by kernel_rfl)) (body_some (by kernel_rfl) (plain_fn (by kernel_rfl))) h
theorem ctt_aw(n:Nat):cttT n 15=some (.pure awG):=by unfold cttT ext;rw [if_pos rfl]
theorem ctt_l36(n:Nat):cttT n 16=some (.pure (run (n+15) 16)):=by unfold cttT ext;rw [if_neg (by decide)];exact tb_16 _
theorem ctt_l38(n:Nat):cttT n 18=some (.pure (run (n+15) 18)):=by unfold cttT ext;rw [if_neg (by decide)];exact tb_18 _
theorem ctt_l41(n:Nat):cttT n 20=some (.pure (run (n+15) 20)):=by unfold cttT ext;rw [if_neg (by decide)];exact tb_20 _
theorem ctt_l52(n:Nat):cttT n 17=some (.pure (run (n+15) 17)):=by unfold cttT ext;rw [if_neg (by decide)];exact tb_17 _
theorem ctt_l53(n:Nat):cttT n 19=some (.pure (run (n+15) 19)):=by unfold cttT ext;rw [if_neg (by decide)];exact tb_19 _
theorem ctt_l54(n:Nat):cttT n 21=some (.pure (run (n+15) 21)):=by unfold cttT ext;rw [if_neg (by decide)];exact tb_21 _
theorem ctt_l55(n:Nat):cttT n 22=some (.pure (run (n+15) 22)):=by unfold cttT ext;rw [if_neg (by decide)];exact tb_22 _
section
variable {n : Nat} {a0 : TClaimR} {r : Bool} {r4 : ByteArray} {r3 : ByteArray} {r2 : TClaimR} {r5 : Bool} {r7 : Int} {r6 : TClaim} {r9 : Bool} {r8 : Int}
section
variable(K1:run (n+15) 16 [claimRV a0]=some (.lit (.bool r)))
include K1
theorem ctt_f1(C2:r=false):
  ctt n [claimRV a0]=some (.lit (.bool true)):=by
 simp only [claimRV] at K1
 unfold ctt fnP
 simp+decide [Tryz.f5,K1,C2,ctt_aw,awG,ctt_l36,ctt_l38,ctt_l41,ctt_l52,ctt_l53,ctt_l54,ctt_l55]
section
variable(C2:r=true)(K3:run (n+15) 18 [claimRV a0]=some (claimRV r2))(K4:run (n+15) 17 [claimRV r2]=some (.lit (.string r3)))(K5:run (n+15) 19 [claimRV a0]=some (.lit (.string r4)))(C6:r3=r4)(K7:run (n+15) 20 [claimRV a0,.lit (.int .i64 256)]=some (.lit (.bool r5)))
include C2 K3 K4 K5 C6 K7
theorem ctt_f3(C8:r5=false):
  ctt n [claimRV a0]=some (.lit (.bool ((r3.toList==(⟨#[]⟩:ByteArray).toList)))):=by
 simp only [claimRV] at K1
 simp only [claimRV] at K3
 simp only [claimRV] at K4
 simp only [claimRV] at K5
 have C6_:(r3.toList==r4.toList)=true:=by rw [C6];simp
 have C6_n:(r3.toList !=r4.toList)=false:=by rw [bne,C6_];rfl
 simp only [claimRV] at K7
 unfold ctt fnP
 simp+decide [Tryz.f5,K1,C2,K3,K4,K5,C6_,C6_n,K7,C8,ctt_aw,awG,ctt_l36,ctt_l38,ctt_l41,ctt_l52,ctt_l53,ctt_l54,ctt_l55]
theorem ctt_f4(C8:r5=true)(K9:run (n+15) 21 [.lit (.string r3)]=some (.tup [claimV r6,.lit (.int .i64 r7),.lit (.int .i64 r8)]))(C10:r7=0)(C11:r8=0)(K12:run (n+15) 22 [claimRV a0,claimV r6]=some (.lit (.bool r9))):
  ctt n [claimRV a0]=some (.lit (.bool r9)):=by
 simp only [claimRV] at K1
 simp only [claimRV] at K3
 simp only [claimRV] at K4
 simp only [claimRV] at K5
 have C6_:(r3.toList==r4.toList)=true:=by rw [C6];simp
 have C6_n:(r3.toList !=r4.toList)=false:=by rw [bne,C6_];rfl
 simp only [claimRV] at K7
 simp only [claimV] at K9
 have C10_:(r7==0)=true:=by rw [C10];simp
 have C10_n:(r7 !=0)=false:=by rw [C10];simp
 have C11_:(r8==0)=true:=by rw [C11];simp
 have C11_n:(r8 !=0)=false:=by rw [C11];simp
 simp only [claimV,claimRV] at K12
 unfold ctt fnP
 simp+decide [Tryz.f5,K1,C2,K3,K4,K5,C6_,C6_n,K7,C8,K9,C10_,C10_n,C11_,C11_n,K12,ctt_aw,awG,ctt_l36,ctt_l38,ctt_l41,ctt_l52,ctt_l53,ctt_l54,ctt_l55]
end
end
end
end
section
open Go.RowKit
end
section
open Go.RowKit
attribute [local irreducible] run runL loopG exec
theorem fea_sm{n:Nat}{L:List Form}(hl:L.length≤100000000)(hB:∀f∈L,BdF 17179869184 f):run (n+1) 63 [.sl 4 (L.map formC),.sl 4 (L.map formC)]=some (.lit (.bool true)):=by
 refine fea_f3 rfl (loopG_I (O:=tab (n+1)) (P:= Tryz.prog) (m:=0) (N:=27) (lives:=livesOf 63) (r:=4) (C:=fea_C4) (L:=L) (f:=fun _ (b:Unit) _=>b) (enc:=fun i _=>fea_h4 L L i) (exN:=.exit 0) (out:=fun _=>fea_o4b) (Inv:=fun _ _=>True) () trivial (by omega) (by simp)
  (fun i f b hi hI=>by
   have hlt:=(List.getElem?_eq_some_iff.1 hi).1
   have hf:=hB f (List.mem_of_getElem? hi)
   have K:=feq_c (n:=n) hf hf
   rw [tv_t rfl] at K
   exact ⟨fea_r4_1 (by omega) hi hi K rfl ⟨by omega,by omega⟩,trivial⟩)
  (fun b hI=>fea_x4_2 (by omega))).1
end
section
open Go.RowKit Go.Lib
attribute [local irreducible] run runL loopG exec ctt
theorem ct_law{c:TClaimR}(hl:LimC c):Con Tryz.prog 5 [claimRV c] (.lit (.bool true)):=by
 have K:=few20_c (n:=14) (c:=c)
 by_cases hf:FewC c
 rotate_left
 ·rw [tv_f hf] at K
  exact ctt_con (n:=0) (ctt_f1 K rfl)
 rw [tv_t hf] at K
 have h6:=hf.l
 have C:=cpC_f1 (n:=15) (a0:=c) (by omega)
 have V:=cvalid_c (n:=10) (z:=256) hl hf
 have W:=fvalid20_c (n:=13) (z:=256) hl hf
 have W1:=fvalid20_c (n:=12) (z:=256) hl hf
 by_cases ho:OkClR c 256
 ·obtain ⟨e,hs⟩:=claim_canon hl hf ho
  rw [tv_t ho] at V W W1
  rw [e] at V W1
  have A:=ctx_c (n:=7) hs V
  have B:=ftx2_c (n:=8) hs W1
  obtain ⟨b1,b2,b3⟩:=ct_back hs (fun n=>by
   have V9:=cvalid_c (n:=n) (z:=256) hl hf
   rw [tv_t ho,e] at V9
   exact V9)
  have P:=cparse_g (n:=1) (L:=ctT (unC c)) (by omega) b2
  rw [b1] at P
  have hb:∀f∈(unC c).Rows,BdF 17179869184 f:=fun f hf=>(hs.row f hf).sb.bd (by omega) (by omega)
  have S:run 15 22 [claimV (unC c),claimV (unC c)]=some (.lit (.bool true)):=by
   have hm:=hs.m
   have hl6:=hs.l
   exact fsm_f1 (n:=13) rfl rfl (by omega) (by omega) rfl (fea_sm (n:=13) (by omega) hb)
  rw [←e] at A B
  have S':run 15 22 [claimRV c,claimV (unC c)]=some (.lit (.bool true)):=by rw [e];exact S
  exact ctt_con (n:=0) (ctt_f4 K rfl C A B rfl W rfl P rfl rfl S')
 ·rw [tv_f ho] at V W W1
  have A:=ctxR_1 (n:=7) V
  have B:=ftxR_1 (n:=8) W1
  have R:=ctt_f3 (n:=0) K rfl C A B rfl W rfl
  have e:(((⟨#[]⟩:ByteArray).toList==(⟨#[]⟩:ByteArray).toList))=true:=by simp
  rw [e] at R
  exact ctt_con (n:=0) R
end
section
open Go.RowKit
end
section
open Go.RowKit
attribute [local irreducible] run runL loopG exec
structure SmF7 (F:Form):Prop where
 l:F.1.length≤8
 t:∀t∈F.1,H t.2≤2
 k:H F.2≤2
 ok:OkFm F 4611686018427387904
end
section
open Go.ChangeShapes Go.WideShapes Go.RowKit Go.Deep
def okT:Nat→Nat→Prop:=fun _ _=>True
theorem bulk_one_le{H:Type}(d:DataW H):1≤Rows.uptoBulk d:=by
 cases d with
 | lit l=>cases l <;>simp [Rows.uptoBulk]
 | nil=>simp [Rows.uptoBulk]
 | ptr d=>simp [Rows.uptoBulk]
 | slice elems spare=>simp [Rows.uptoBulk]
 | agg parts=>simp [Rows.uptoBulk]
 | iface t d=>simp [Rows.uptoBulk]
 | map entries=>simp [Rows.uptoBulk]
 | held h=>simp [Rows.uptoBulk]
theorem bulk_part_le{H:Type}{d:DataW H}{l:List (DataW H)}(h:d∈l):Rows.uptoBulk d≤Rows.uptoBulkAll l:=by
 induction l with
 | nil=>cases h
 | cons x r ih=>
   simp only [Rows.uptoBulkAll]
   cases List.mem_cons.1 h with
   | inl e=>subst e;omega
   | inr e=>have:=ih e;omega
theorem bulk_length_le{H:Type}(l:List (DataW H)):l.length≤Rows.uptoBulkAll l:=by
 induction l with
 | nil=>simp [Rows.uptoBulkAll]
 | cons x r ih=>have:=bulk_one_le x;simp only [Rows.uptoBulkAll,List.length_cons];omega
theorem bulk_agg{H:Type}{d:DataW H}{l:List (DataW H)}(h:d∈l):Rows.uptoBulk d≤Rows.uptoBulk (.agg l):=by
 have:=bulk_part_le h
 simp only [Rows.uptoBulk]
 omega
theorem bulk_slice{H:Type}{d:DataW H}{l r:List (DataW H)}(h:d∈l):Rows.uptoBulk d≤Rows.uptoBulk (.slice l r):=by
 have:=bulk_part_le h
 simp only [Rows.uptoBulk]
 omega
theorem bulk_slice_len{H:Type}(l r:List (DataW H)):l.length≤Rows.uptoBulk (.slice l r):=by
 have:=bulk_length_le l
 simp only [Rows.uptoBulk]
 omega
def Opens(w:World)(t:TypeId)(A:Nat→List AV→Prop):Prop:=
 ∀(H:Type) (enc:TypeId × Value→H) (base:Nat) (spare:Nat→Bool) (held:Bool) (fuel:Nat) (cs:List Value) (x:DataW H × List MemPlace),DataW.trod enc Tryz.prog w base spare held fuel t cs=some x→∃us,A (Rows.uptoBulk x.1) us∧RV (RepT w okT) us cs
def Up1(A:Nat→List AV→Prop):Prop:=∀N M us,N≤M→A N us→A M us
theorem Opens.mono{w:World}{t:TypeId}{A B:Nat→List AV→Prop}(h:Opens w t A)(hA:∀N us,A N us→B N us):Opens w t B:=fun H enc base spare held fuel cs x hx=>by
 obtain ⟨us,h1,h2⟩:=h H enc base spare held fuel cs x hx
 exact ⟨us,hA _ _ h1,h2⟩
theorem rvq1{R:AV→Value→Prop}{a:AV}{v:Value}(h:R a v):RV R [a] [v]:=⟨rfl,fun i d hi=>by
 match i,hi with
 | 0,hi=>cases hi;exact ⟨v,rfl,h⟩
 | i+1,hi=>simp at hi⟩
theorem rv_fld{R:AV→Value→Prop}{us bs:List AV}{cs:List Value}{o n:Nat}(h1:RV R us ((cs.drop o).take n))(h2:RV R bs (cs.drop (o+n)))(hn:o+n≤cs.length):RV R (us++bs) (cs.drop o):=by
 have l1:=h1.1
 have l2:=h2.1
 rw [List.length_take,List.length_drop] at l1
 rw [List.length_drop] at l2
 refine ⟨by rw [List.length_append,List.length_drop];omega,fun i d hi=>?_⟩
 by_cases hl:i<us.length
 ·rw [List.getElem?_append_left hl] at hi
  obtain ⟨u,h3,h4⟩:=h1.2 i d hi
  rw [List.getElem?_take,if_pos (by omega)] at h3
  exact ⟨u,h3,h4⟩
 ·rw [List.getElem?_append_right (by omega)] at hi
  obtain ⟨u,h3,h4⟩:=h2.2 _ d hi
  refine ⟨u,?_,h4⟩
  rw [List.getElem?_drop] at h3 ⊢
  rw [←h3]
  congr 1
  omega
theorem rv_end{R:AV→Value→Prop}{cs:List Value}{N:Nat}(h:cs.length=N):RV R [] (cs.drop N):=by
 rw [List.drop_of_length_le (by omega)]
 exact ⟨rfl,fun i d hi=>by simp at hi⟩
section
variable {w : World}
theorem op_int{t:TypeId}{k:IntKind}(ht: Tryz.prog.underlying t=some (.int k)):Opens w t (fun _ us=>∃z,us=[.lit (.int k z)]∧(Lit.int k z).wf=true):=fun H enc base spare held fuel cs x hx=>by
 obtain ⟨n,rfl,rfl,hw⟩:=DataW.trod_int ht hx
 exact ⟨_,⟨n,rfl,hw⟩,rvq1 (.lit _)⟩
theorem op_bool{t:TypeId}(ht: Tryz.prog.underlying t=some .bool):Opens w t (fun _ us=>∃b,us=[.lit (.bool b)]):=fun H enc base spare held fuel cs x hx=>by
 obtain ⟨b,rfl,_⟩:=DataW.trod_bool ht hx
 exact ⟨_,⟨b,rfl⟩,rvq1 (.lit _)⟩
theorem fldB{H:Type}{enc:TypeId × Value→H}{base:Nat}{spare:Nat→Bool}{held:Bool}{t:TypeId}{fs:Array Field}{fuel:Nat}{cs:List Value}{x:DataW H × List MemPlace}(hs: Tryz.prog.underlying t=some (.struct fs))(h:DataW.trod enc Tryz.prog w base spare held fuel t cs=some x):
  cs.length= Tryz.prog.cellsOf t∧∀(i:Nat) (f:Field) (T:TypeId) (o:Nat),fs[i]?=some f→f.type=T→f.offset=o→∃n y,DataW.trod enc Tryz.prog w base spare held n T ((cs.drop o).take (Tryz.prog.cellsOf T))=some y∧Rows.uptoBulk y.1≤Rows.uptoBulk x.1:=by
 obtain ⟨xs,n,_,hx,hl,hlen,hg⟩:=DataW.trod_struct hs h
 refine ⟨hl,fun i f T o hf hT ho=>⟨n,xs[i]'(by rw [hlen];exact (Array.getElem?_eq_some_iff.1 hf).1),?_,?_⟩⟩
 ·subst hT ho
  rw [hg i f hf]
  exact List.getElem?_eq_getElem _
 ·subst hx
  exact bulk_agg (List.mem_map_of_mem (List.getElem_mem _))
theorem addr_at{b o i:Nat}:(⟨b,o,none⟩:Addr).add i=⟨b,o+i,none⟩:=by
 unfold Addr.add
 split
 ·rename_i h;subst h;rfl
 ·rfl
theorem op_sl{t e:TypeId}{k:Nat}{A:Nat→List AV→Prop}(ht: Tryz.prog.underlying t=some (.slice e))(hk: Tryz.prog.cellsOf e=k)(h0k:0<k)(he:Opens w e A)(hA:Up1 A):
  Opens w t (fun N us=>∃es:List (List AV),us=[.sl k es]∧es.length≤N∧∀e∈es,A N e):=fun H enc base spare held fuel cs x hx=>by
 rcases open_slice ht hx with ⟨rfl,_⟩|⟨a,len,cap,m,n,D,Pl,rfl,_,hl,hm,hmm,hxe,hi⟩
 ·exact ⟨_,⟨[],rfl,by simp,fun e he=>by cases he⟩,rvq1 (.nil none 0)⟩
 ·have hlm:len≤m:=by rw [hmm];split <;>omega
  have hb:∀i,i<len→Rows.uptoBulk (D i)≤Rows.uptoBulk x.1:=fun i hil=>by
   subst hxe
   exact bulk_slice (List.mem_map.2 ⟨i,List.mem_range.2 hil,rfl⟩)
  have hbl:len≤Rows.uptoBulk x.1:=by
   subst hxe
   have:=bulk_slice_len ((List.range len).map D) ((List.range (m-len)).map fun j=>D (len+j))
   rw [List.length_map,List.length_range] at this
   exact this
  obtain ⟨U,hU⟩:=choose_lt (n:=len) (p:=fun i (u:List AV)=>A (Rows.uptoBulk x.1) u∧∃cs',RV (RepT w okT) u cs'∧w.cells? base (a.add (i*k)) k=some cs') (fun i hil=>by
   obtain ⟨cs',h1,h2⟩:=hi i (by omega)
   rw [hk] at h1
   obtain ⟨u,hu,hr⟩:=he H enc base spare held _ _ _ h2
   exact ⟨u,hA _ _ _ (hb i hil) hu,cs',hr,h1⟩)
  refine ⟨[.sl k ((List.range len).map U)],⟨_,rfl,by rw [List.length_map,List.length_range];exact hbl,fun e he=>?_⟩,?_⟩
  ·obtain ⟨i,hir,rfl⟩:=List.mem_map.1 he
   exact (hU i (List.mem_range.1 hir)).1
  ·by_cases h0:len=0
   ·subst h0;exact rvq1 (.nil (some a) cap)
   ·have hz:=(hU 0 (by omega)).2.choose_spec.2
    obtain ⟨_,hz1,hz2⟩:=World.cells?_some hz
    have hz3:=hz2 0 h0k
    rw [List.getElem?_eq_getElem (by omega)] at hz3
    have hs0:=World.cell?_spot hz3
    obtain ⟨b,o,sp⟩:=a
    have hsp:sp=none:=by
     simp [Addr.add] at hs0
     exact hs0
    subst hsp
    have key:∀(i j:Nat) (e:List AV) (d:AV),((List.range len).map U)[i]?=some e→e[j]?=some d→∃u,w.cell? ⟨b,o+i*k+j,none⟩=some u∧RepT w okT d u:=fun i j e d hie hjd=>by
     have hil:i<len:=by have:=(List.getElem?_eq_some_iff.1 hie).1;rw [List.length_map,List.length_range] at this;exact this
     rw [List.getElem?_map,List.getElem?_range hil] at hie
     cases hie
     obtain ⟨_,cs',hr,hc⟩:=hU i hil
     obtain ⟨_,q1,q2⟩:=World.cells?_some hc
     obtain ⟨u,g1,g2⟩:=hr.2 j d hjd
     have hj:j<k:=by
      have:=(List.getElem?_eq_some_iff.1 g1).1
      omega
     have:=q2 j hj
     rw [addr_at,addr_at] at this
     exact ⟨u,this.trans g1,g2⟩
    have R:=RepT.sl (w:=w) (ok:=okT) (k:=k) (b:=b) (o:=o) (c:=cap) (es:=(List.range len).map U) (fun e he=>by
      obtain ⟨i,hir,rfl⟩:=List.mem_map.1 he
      obtain ⟨_,cs',hr,hc⟩:=hU i (List.mem_range.1 hir)
      obtain ⟨_,q1,_⟩:=World.cells?_some hc
      have:=hr.1
      omega) (by rw [List.length_map,List.length_range];exact hl) (fun i j e d he hd=>by
      obtain ⟨u,h1,_⟩:=key i j e d he hd
      exact ⟨trivial,by rw [h1];rfl⟩) (fun i j e d he hd=>by
      obtain ⟨u,h1,h2⟩:=key i j e d he hd
      rw [h1]
      exact h2)
    rw [List.length_map,List.length_range] at R
    exact rvq1 R
theorem list_of{α:Type}{enc:α→List AV}{ok:α→Prop}:∀{es:List (List AV)},(∀e∈es,∃x,e=enc x∧ok x)→∃L:List α,es=L.map enc∧∀x∈L,ok x
 | [],_=>⟨[],rfl,fun x hx=>by cases hx⟩
 | e::es,h=>by
   obtain ⟨x,rfl,hx⟩:=h e (List.mem_cons_self ..)
   obtain ⟨L,rfl,hL⟩:=list_of fun e he=>h e (List.mem_cons_of_mem _ he)
   exact ⟨x::L,rfl,fun y hy=>by
    rcases List.mem_cons.1 hy with rfl|hy
    ·exact hx
    ·exact hL y hy⟩
theorem op_list{α:Type}{t e:TypeId}{k:Nat}{enc:α→List AV}{ok:Nat→α→Prop}(ht: Tryz.prog.underlying t=some (.slice e))(hk: Tryz.prog.cellsOf e=k)(h0k:0<k)(he:Opens w e (fun N us=>∃x,us=enc x∧ok N x))(hm:∀N M x,N≤M→ok N x→ok M x):
  Opens w t (fun N us=>∃L:List α,us=[.sl k (L.map enc)]∧L.length≤N∧∀x∈L,ok N x):=
 (op_sl ht hk h0k he (fun N M us hN ⟨x,h1,h2⟩=>⟨x,h1,hm N M x hN h2⟩)).mono fun N us ⟨es,h1,h2,h3⟩=>by
  obtain ⟨L,rfl,hL⟩:=list_of h3
  exact ⟨L,h1,by simpa using h2,hL⟩
def okInt(k:IntKind)(_:Nat)(z:Int):Prop:=(Lit.int k z).wf=true
theorem okInt.up{k:IntKind}{N M:Nat}{z:Int}(hN:N≤M)(h:okInt k N z):okInt k M z:=h
def okBool(_:Nat)(_:Bool):Prop:=True
theorem okBool.up{N M:Nat}{b:Bool}(hN:N≤M)(h:okBool N b):okBool M b:=h
theorem op_intO{t:TypeId}{k:IntKind}(ht: Tryz.prog.underlying t=some (.int k)):Opens w t (fun N us=>∃z,us=[.lit (.int k z)]∧okInt k N z):=op_int ht
theorem op_boolO{t:TypeId}(ht: Tryz.prog.underlying t=some .bool):Opens w t (fun N us=>∃b,us=[.lit (.bool b)]∧okBool N b):=(op_bool ht).mono fun N us ⟨b,h⟩=>⟨b,h,trivial⟩
def okNat(N:Nat)(l:List Nat):Prop:=Lim l∧l.length≤N
theorem okNat.up{N M:Nat}{l:List Nat}(hN:N≤M)(h:okNat N l):okNat M l:=⟨h.1,Nat.le_trans h.2 hN⟩
theorem cU32: Tryz.prog.cellsOf 149=1:=by kernel_rfl
theorem op_natO:Opens w 23 (fun N us=>∃l,us=[natA l]∧okNat N l):=
 (op_list (α:=Nat) (enc:=fun x=>[.lit (.int .u32 (x:Int))]) (ok:=fun _ x=>x<4294967296) Tryz.underlying23 cU32 (by omega) ((op_int Tryz.underlying149).mono fun N us ⟨z,h1,h2⟩=>by
  have h3:0≤z∧z≤4294967295:=by simpa [Lit.wf,IntKind.min,IntKind.max,IntKind.signed,IntKind.bits] using h2
  exact ⟨z.toNat,by rw [h1,Int.toNat_of_nonneg h3.1],by omega⟩) (fun N M x _ h=>h)).mono fun N us ⟨L,h1,h2,h3⟩=>⟨L,h1,fun x hx=>h3 x hx,h2⟩
def okRaw(N:Nat)(r:Raw):Prop:=okNat N r.l1∧okNat N r.l2
theorem okRaw.up{N M:Nat}{r:Raw}(hN:N≤M)(h:okRaw N r):okRaw M r:=⟨h.1.up hN,h.2.up hN⟩
theorem arg_agg{us:List AV}{cs:Array Value}(h:RV (RepT w okT) us (Value.agg cs).cells.toList):RepT w okT (.agg us) (.agg cs):=by
 have h1:(Value.agg cs).cells=cs:=rfl
 rw [h1] at h
 refine .agg (by have:=h.1;simpa using this) fun i d hi=>?_
 obtain ⟨u,h2,h3⟩:=h.2 i d hi
 have h4:cs[i]?=some u:=by simpa using h2
 rw [Array.getD_eq_getD_getElem?,h4]
 exact h3
theorem rvs_nil{R:AV→Value→Prop}:RV R [] []:=⟨rfl,fun i d hi=>by simp at hi⟩
theorem rvs_cons{R:AV→Value→Prop}{a:AV}{v:Value}{l:List AV}{vs:List Value}(h:R a v)(hl:RV R l vs):RV R (a::l) (v::vs):=⟨by simp [hl.1],fun i d hi=>by
 match i,hi with
 | 0,hi=>cases hi;exact ⟨v,rfl,h⟩
 | i+1,hi=>exact hl.2 i d (by simpa using hi)⟩
end
end
section
open Go.ChangeShapes Go.WideShapes Go.RowKit Go.Deep
section
variable {w : World}
theorem cO_Rat: Tryz.prog.cellsOf 25=3:=by kernel_rfl
theorem cO_Rat_0: Tryz.prog.cellsOf 4=1:=by kernel_rfl
theorem cO_Rat_1: Tryz.prog.cellsOf 23=1:=by kernel_rfl
theorem cO_Rat_2: Tryz.prog.cellsOf 23=1:=by kernel_rfl
set_option maxRecDepth 100000 in
theorem op_Rat:Opens w 25 (fun N us=>∃x:Raw,us=rawC x∧okRaw N x):=fun H enc base spare held fuel cs x hx=>by
 obtain ⟨hl,hf⟩:=fldB Tryz.underlying25 hx
 rw [cO_Rat] at hl
 obtain ⟨n0,y0,g0,b0⟩:=hf 0 _ 4 0 rfl rfl rfl
 obtain ⟨a0,⟨x0,e0,p0⟩,r0⟩:=(op_boolO Tryz.underlying4) _ _ _ _ _ _ _ _ g0
 rw [cO_Rat_0] at r0
 subst e0
 obtain ⟨n1,y1,g1,b1⟩:=hf 1 _ 23 1 rfl rfl rfl
 obtain ⟨a1,⟨x1,e1,p1⟩,r1⟩:=op_natO _ _ _ _ _ _ _ _ g1
 rw [cO_Rat_1] at r1
 subst e1
 obtain ⟨n2,y2,g2,b2⟩:=hf 2 _ 23 2 rfl rfl rfl
 obtain ⟨a2,⟨x2,e2,p2⟩,r2⟩:=op_natO _ _ _ _ _ _ _ _ g2
 rw [cO_Rat_2] at r2
 subst e2
 exact ⟨_,⟨(⟨x0,x1,x2⟩:Raw),rfl,⟨okNat.up b1 p1,okNat.up b2 p2⟩⟩,rv_fld (o:=0) (n:=1) r0 (rv_fld (o:=1) (n:=1) r1 (rv_fld (o:=2) (n:=1) r2 (rv_end hl) (by omega)) (by omega)) (by omega)⟩
def okO_Term(N:Nat)(x:Int × Raw):Prop:=okInt .i64 N x.1∧okRaw N x.2
theorem okO_Term.up{N M:Nat}{x:Int × Raw}(hN:N≤M)(h:okO_Term N x):okO_Term M x:=⟨okInt.up hN h.1,okRaw.up hN h.2⟩
theorem cO_Term: Tryz.prog.cellsOf 81=4:=by kernel_rfl
theorem cO_Term_0: Tryz.prog.cellsOf 3=1:=by kernel_rfl
theorem cO_Term_1: Tryz.prog.cellsOf 25=3:=by kernel_rfl
set_option maxRecDepth 100000 in
theorem op_Term:Opens w 81 (fun N us=>∃x:Int × Raw,us=termRC x∧okO_Term N x):=fun H enc base spare held fuel cs x hx=>by
 obtain ⟨hl,hf⟩:=fldB Tryz.underlying81 hx
 rw [cO_Term] at hl
 obtain ⟨n0,y0,g0,b0⟩:=hf 0 _ 3 0 rfl rfl rfl
 obtain ⟨a0,⟨x0,e0,p0⟩,r0⟩:=(op_intO Tryz.underlying3) _ _ _ _ _ _ _ _ g0
 rw [cO_Term_0] at r0
 subst e0
 obtain ⟨n1,y1,g1,b1⟩:=hf 1 _ 25 1 rfl rfl rfl
 obtain ⟨a1,⟨x1,e1,p1⟩,r1⟩:=op_Rat _ _ _ _ _ _ _ _ g1
 rw [cO_Term_1] at r1
 subst e1
 exact ⟨_,⟨(⟨x0,x1⟩:Int × Raw),rfl,⟨okInt.up b0 p0,okRaw.up b1 p1⟩⟩,rv_fld (o:=0) (n:=1) r0 (rv_fld (o:=1) (n:=3) r1 (rv_end hl) (by omega)) (by omega)⟩
def okO_LTerm(N:Nat)(L:List (Int × Raw)):Prop:=L.length≤N∧∀x∈L,okO_Term N x
theorem okO_LTerm.up{N M:Nat}{L:List (Int × Raw)}(hN:N≤M)(h:okO_LTerm N L):okO_LTerm M L:=⟨Nat.le_trans h.1 hN,fun x hx=>okO_Term.up hN (h.2 x hx)⟩
theorem cO_LTermE: Tryz.prog.cellsOf 81=4:=by kernel_rfl
theorem op_LTerm:Opens w 77 (fun N us=>∃L:List (Int × Raw),us=[.sl 4 (L.map termRC)]∧okO_LTerm N L):=
 (op_list (α:=Int × Raw) (enc:=termRC) (ok:=okO_Term) Tryz.underlying77 cO_LTermE (by omega) op_Term (fun N M x h g=>okO_Term.up h g)).mono fun N us ⟨L,h1,h2,h3⟩=>⟨L,h1,h2,h3⟩
def okO_Affine(N:Nat)(x:FormR):Prop:=okO_LTerm N x.1∧okRaw N x.2
theorem okO_Affine.up{N M:Nat}{x:FormR}(hN:N≤M)(h:okO_Affine N x):okO_Affine M x:=⟨okO_LTerm.up hN h.1,okRaw.up hN h.2⟩
theorem cO_Affine: Tryz.prog.cellsOf 79=4:=by kernel_rfl
theorem cO_Affine_0: Tryz.prog.cellsOf 77=1:=by kernel_rfl
theorem cO_Affine_1: Tryz.prog.cellsOf 25=3:=by kernel_rfl
set_option maxRecDepth 100000 in
theorem op_Affine:Opens w 79 (fun N us=>∃x:FormR,us=formRC x∧okO_Affine N x):=fun H enc base spare held fuel cs x hx=>by
 obtain ⟨hl,hf⟩:=fldB Tryz.underlying79 hx
 rw [cO_Affine] at hl
 obtain ⟨n0,y0,g0,b0⟩:=hf 0 _ 77 0 rfl rfl rfl
 obtain ⟨a0,⟨x0,e0,p0⟩,r0⟩:=op_LTerm _ _ _ _ _ _ _ _ g0
 rw [cO_Affine_0] at r0
 subst e0
 obtain ⟨n1,y1,g1,b1⟩:=hf 1 _ 25 1 rfl rfl rfl
 obtain ⟨a1,⟨x1,e1,p1⟩,r1⟩:=op_Rat _ _ _ _ _ _ _ _ g1
 rw [cO_Affine_1] at r1
 subst e1
 exact ⟨_,⟨(⟨x0,x1⟩:FormR),rfl,⟨okO_LTerm.up b0 p0,okRaw.up b1 p1⟩⟩,rv_fld (o:=0) (n:=1) r0 (rv_fld (o:=1) (n:=3) r1 (rv_end hl) (by omega)) (by omega)⟩
def okO_LRat(N:Nat)(L:List (Raw)):Prop:=L.length≤N∧∀x∈L,okRaw N x
theorem okO_LRat.up{N M:Nat}{L:List (Raw)}(hN:N≤M)(h:okO_LRat N L):okO_LRat M L:=⟨Nat.le_trans h.1 hN,fun x hx=>okRaw.up hN (h.2 x hx)⟩
def okO_LAffine(N:Nat)(L:List (FormR)):Prop:=L.length≤N∧∀x∈L,okO_Affine N x
theorem okO_LAffine.up{N M:Nat}{L:List (FormR)}(hN:N≤M)(h:okO_LAffine N L):okO_LAffine M L:=⟨Nat.le_trans h.1 hN,fun x hx=>okO_Affine.up hN (h.2 x hx)⟩
theorem cO_LAffineE: Tryz.prog.cellsOf 79=4:=by kernel_rfl
theorem op_LAffine:Opens w 37 (fun N us=>∃L:List (FormR),us=[.sl 4 (L.map formRC)]∧okO_LAffine N L):=
 (op_list (α:=FormR) (enc:=formRC) (ok:=okO_Affine) Tryz.underlying37 cO_LAffineE (by omega) op_Affine (fun N M x h g=>okO_Affine.up h g)).mono fun N us ⟨L,h1,h2,h3⟩=>⟨L,h1,h2,h3⟩
def okO_Claim(N:Nat)(x:TClaimR):Prop:=okInt .i64 N x.Kind∧okInt .i64 N x.Target∧okRaw N x.Margin∧okO_LAffine N x.Rows
theorem okO_Claim.up{N M:Nat}{x:TClaimR}(hN:N≤M)(h:okO_Claim N x):okO_Claim M x:=⟨okInt.up hN h.1,okInt.up hN h.2.1,okRaw.up hN h.2.2.1,okO_LAffine.up hN h.2.2.2⟩
theorem cO_Claim: Tryz.prog.cellsOf 39=6:=by kernel_rfl
theorem cO_Claim_0: Tryz.prog.cellsOf 3=1:=by kernel_rfl
theorem cO_Claim_1: Tryz.prog.cellsOf 3=1:=by kernel_rfl
theorem cO_Claim_2: Tryz.prog.cellsOf 25=3:=by kernel_rfl
theorem cO_Claim_3: Tryz.prog.cellsOf 37=1:=by kernel_rfl
set_option maxRecDepth 100000 in
theorem op_Claim:Opens w 39 (fun N us=>∃x:TClaimR,us=claimRC x∧okO_Claim N x):=fun H enc base spare held fuel cs x hx=>by
 obtain ⟨hl,hf⟩:=fldB Tryz.underlying39 hx
 rw [cO_Claim] at hl
 obtain ⟨n0,y0,g0,b0⟩:=hf 0 _ 3 0 rfl rfl rfl
 obtain ⟨a0,⟨x0,e0,p0⟩,r0⟩:=(op_intO Tryz.underlying3) _ _ _ _ _ _ _ _ g0
 rw [cO_Claim_0] at r0
 subst e0
 obtain ⟨n1,y1,g1,b1⟩:=hf 1 _ 3 1 rfl rfl rfl
 obtain ⟨a1,⟨x1,e1,p1⟩,r1⟩:=(op_intO Tryz.underlying3) _ _ _ _ _ _ _ _ g1
 rw [cO_Claim_1] at r1
 subst e1
 obtain ⟨n2,y2,g2,b2⟩:=hf 2 _ 25 2 rfl rfl rfl
 obtain ⟨a2,⟨x2,e2,p2⟩,r2⟩:=op_Rat _ _ _ _ _ _ _ _ g2
 rw [cO_Claim_2] at r2
 subst e2
 obtain ⟨n3,y3,g3,b3⟩:=hf 3 _ 37 5 rfl rfl rfl
 obtain ⟨a3,⟨x3,e3,p3⟩,r3⟩:=op_LAffine _ _ _ _ _ _ _ _ g3
 rw [cO_Claim_3] at r3
 subst e3
 exact ⟨_,⟨(⟨x0,x1,x2,x3⟩:TClaimR),rfl,⟨okInt.up b0 p0,okInt.up b1 p1,okRaw.up b2 p2,okO_LAffine.up b3 p3⟩⟩,rv_fld (o:=0) (n:=1) r0 (rv_fld (o:=1) (n:=1) r1 (rv_fld (o:=2) (n:=3) r2 (rv_fld (o:=5) (n:=1) r3 (rv_end hl) (by omega)) (by omega)) (by omega)) (by omega)⟩
end
end
section
open Go.ChangeShapes Go.WideShapes Go.RowKit Go.Deep
theorem gT: Tryz.prog.globalNamed "internal/strconv.uint64pow10"=some 4:=by kernel_rfl
theorem tT:(Tryz.prog.globals[4]?).map (·.type)=some 247:=by kernel_rfl
theorem gE: Tryz.prog.globalNamed "strconv.ErrSyntax"=some 2:=by kernel_rfl
theorem tE:(Tryz.prog.globals[2]?).map (·.type)=some 62:=by kernel_rfl
theorem starE: "*"++ "errors.errorString"= "*errors.errorString":=by decide
theorem rowE (u:TypeId) (h: Tryz.prog.typeName? 3 u=some "*errors.errorString"):u= 252:=
 typeName_ptr_named (nm:= "errors.errorString") (by rw [starE];kernel_rfl) (by kernel_rfl) (by decide) u (by rw [starE];exact h)
theorem gtab_pow{g:Nat}{cs:List AV}(h:gtab g=some cs):g= 4∧cs=Lib.pow10Tab.map fun z=>AV.lit (.int .u64 z):=by
 unfold gtab at h
 split at h
 ·rename_i e
  subst e
  cases h
  exact ⟨rfl,rfl⟩
 ·cases h
theorem glob_laid {w:World} (hT:Lib.TabIs Tryz.prog w "internal/strconv.uint64pow10" .u64 Lib.pow10Tab) (hE:∃te pe,w.cell? ⟨2,0,none⟩=some (.iface te pe)) (hM:∀g∈gint,okT g 0∧∃m,w.cell? ⟨g,0,none⟩=some (.int .i64 m)):Glob w okT:=by
 refine ⟨fun g cs hg=>?_,fun g hg=>?_,hM⟩
 ·obtain ⟨rfl,rfl⟩:=gtab_pow hg
  unfold Lib.TabIs World.var? at hT
  rw [gT] at hT
  simp only [Option.bind_some] at hT
  split at hT
  ·rename_i c t fr hc
   cases hT
   have key:∀(j:Nat) (d:AV),(Lib.pow10Tab.map fun z=>AV.lit (.int .u64 z))[j]?=some d→∃v,w.cell? ⟨4,0+j,none⟩=some v∧d=.lit v:=fun j d hj=>by
    rw [List.getElem?_map] at hj
    obtain ⟨z,hz,rfl⟩:=Option.map_eq_some_iff.1 hj
    refine ⟨.int .u64 z,?_,rfl⟩
    rw [Nat.zero_add]
    simp only [World.cell?,hc]
    simp [hz]
   refine ⟨.mem (fun j d hj=>?_) (fun j d hj=>?_),t,?_⟩
   ·obtain ⟨v,h1,_⟩:=key j d hj
    exact ⟨trivial,by rw [h1];rfl⟩
   ·obtain ⟨v,h1,rfl⟩:=key j d hj
    rw [h1]
    exact .lit _
   ·simp [World.shape?,hc]
  ·cases hT
 ·have e:g= 2:=by simpa [gerr] using hg
  subst e
  exact ⟨trivial,hE⟩
theorem okF_lim{N:Nat}{f:FormR}(h:okO_Affine N f):LimF f:=⟨fun t ht=>⟨(h.1.2 t ht).2.1.1,(h.1.2 t ht).2.2.1⟩,h.2.1.1,h.2.2.1⟩
theorem okR_lim{N:Nat}{r:Raw}(h:okRaw N r):LimR2 r:=⟨h.1.1,h.2.1⟩
theorem true_end{w:World}{ok:Nat→Nat→Prop}{e:Ending}{w':World}(h:∃v,e=.returned v∧RepT w' (okN ok w w') (.lit (.bool true)) v∧Below w.heap.size w w'):RetB true w e w':=by
 obtain ⟨v,rfl,h2,h3⟩:=h
 cases h2
 exact ⟨rfl,h3⟩
end
section
open Go.ChangeShapes Go.WideShapes Go.RowKit Go.Deep
theorem handed_shaped {H:Type} {enc:TypeId × Value→H} {C:Checked} {os:Os} {f:FuncId} {fn:Func} {s:ChangeSpec} {X:World→Array Value→Prop} (hX:∀(w w':World) (args:Array Value),w.heap=w'.heap→X w args→X w' args) (own:ownKnob C.prog.godebug=none) (started:os.Started) (noInit:C.prog.inits.idxOf? f=none) (hfn:C.prog.funcs[f]?=some fn) (witness:∃(w:World) (tape:Tape) (i:Input),w.os=os∧(w.forCall tape i).Shaped C.prog∧i.vars=[]∧Input.okWide C.prog (w.forCall tape i) .any w.heap.size f i∧((s.pre enc C.prog fn [] false (w.forCall tape i).memory i.args∧X (w.forCall tape i).memory i.args)∧sizedMet enc C.prog fn (OpenSpec.ofChange s) false (w.forCall tape i).memory i.args)∧({}:Assume).holds C.prog (lone (Frame.enter C.prog f i.args .normal) [] (w.forCall tape i))) (contract:∀(W:World) (base:Nat) (args:Array Value) (ds gs:List (DataW H)) (before:List MemPlace),(∀(j:Nat) t v,fn.params[j]?=some t→args[j]?=some v→Value.okWide C.prog W .any base t v)→
   DataW.Whole enc C.prog fn.params.toList s.vars false W args.toList ds gs before→X W args→W.ShapedOpen C.prog→Calls C.prog f args W fun e W'=>∃v,e=.returned v∧s.post enc C.prog fn false true false false W args v W'):
  ReturnsInHanded {} C os f .any (fun w args=>(s.pre enc C.prog fn [] false w args∧X w args)∧sizedMet enc C.prog fn (OpenSpec.ofChange s) false w args) (s.post enc C.prog fn false true false false):=by
 refine returnsInHanded_of_calls own started noInit witness ?_
 intro w tape i _ hsh _ hok hpre _
 obtain ⟨_,_,_,fn',hfn',_,_,_,_,hval⟩:=hok
 cases hfn'.symm.trans hfn
 obtain ⟨⟨⟨ds,gs,before,hw,_⟩,hx⟩,_⟩:=hpre
 refine (contract (w.forCall tape i) w.heap.size i.args ds gs before hval (DataW.Whole.of_heap (w':=w.forCall tape i) (by rfl) hw) (hX _ _ _ (by rfl) hx) hsh).mono fun e W' ⟨v,he,hp⟩=>?_
 cases he
 exact ChangeSpec.post_blind hp
theorem maxL{w:World}(h:w.ShapedOpen Tryz.prog):∃m,w.cell? ⟨1,0,none⟩=some (.int .i64 m):=
 Go.Proofs.cell_of_shapedOpen_int (zero:=#[.int .i64 0]) (t:= 3) h (of_decide_eq_true (by kernel_rfl)) (by kernel_rfl) rfl (by kernel_rfl) (by kernel_rfl) Tryz.underlying3
theorem laid_glob {W:World} (hs:W.ShapedOpen Tryz.prog) (h:laidMet Tryz.prog [("math/bits.deBruijn32tab",Rows.laid_math_bits_deBruijn32tab),("math/bits.deBruijn64tab",Rows.laid_math_bits_deBruijn64tab),("internal/strconv.uint64pow10",Rows.laid_internal_strconv_uint64pow10),("unicode/utf8.acceptRanges",Rows.laid_unicode_utf8_acceptRanges),("strconv.ErrRange",Rows.laid_strconv_ErrRange),("strconv.ErrSyntax",Rows.laid_strconv_ErrSyntax),("unicode/utf8.first",Rows.laid_unicode_utf8_first)] W):Glob W okT:=by
 have h3:=laidMet.tail (laidMet.tail h)
 have hT:Lib.TabIs Tryz.prog W "internal/strconv.uint64pow10" .u64 Lib.pow10Tab:=Lib.tabIs_of_head gT tT Tryz.underlying247 Tryz.underlying87 (by kernel_rfl) (by kernel_rfl) h3
 have h5:=laidMet.tail (laidMet.tail (laidMet.tail h3))
 obtain ⟨a0,s0,hv0,_⟩:=laid_sentinel h5 gE tE Tryz.underlying62 rowE Tryz.underlying252 Tryz.underlying254 rfl rfl Tryz.underlying9 (by kernel_rfl) (by kernel_rfl)
 exact glob_laid hT ⟨_,_,World.var?_cell gE hv0 0⟩ (fun g hg=>by
  have e:g= 1:=by simpa [gint] using hg
  subst e
  exact ⟨trivial,maxL hs⟩)
end
section
open Go.ChangeShapes Go.WideShapes Go.RowKit Go.Deep
theorem okC_lim{N:Nat}{c:TClaimR}(h:okO_Claim N c):LimC c:=⟨okR_lim h.2.2.1,fun f hf=>okF_lim (h.2.2.2.2 f hf)⟩
end
section
open Go.ChangeShapes Go.WideShapes Go.RowKit Go.Deep
theorem cx_use(w:World){v0:Value}{c:TClaimR}{N:Nat}(r0:RepT w okT (.agg (claimRC c)) v0)(k0:okO_Claim N c)(hG:Glob w okT):
  Calls Tryz.prog 5 #[v0] w (RetB true w):=
 (ct_law (okC_lim k0) w okT _ hG (rvs_cons r0 rvs_nil)).mono fun _ _ h=>true_end h
end
end Go.Proofs.YtnegdhjdienjlaaGreatDoor
