import Derived.Test.YtnegdhjdienjlaaGreatDoorGQ9
import Derived.Laws.Concat
import Derived.Test.YtnegdhjdienjlaaGreatDoorGQ6
set_option linter.all false
namespace Go.Proofs.YtnegdhjdienjlaaGreatDoor
section
open Go.RowKit
theorem decL_len:∀(K k:Nat),k<10 ^ (K+1)→(decL k).length≤K+1
 | 0,k,h=>by
   rw [decL,dif_pos (by simpa using h)];simp
 | K+1,k,h=>by
   rw [decL]
   split
   ·simp
   ·rw [List.length_append]
    have:=decL_len K (k / 10) (by rw [Nat.div_lt_iff_lt_mul (by omega),←Nat.pow_succ];exact h)
    simp;omega
theorem decL_bound{w:World}{ad:Option Addr}{n c:Nat}{l:List Nat}(h:LimR w ad n c l):(decL (val l)).length≤10*n+1:=by
 have h0:val l<4294967296 ^ n:=by rw [←h.len];exact val_lt h.lim
 have h1:4294967296 ^ n≤10 ^ (10*n):=by
  rw [Nat.pow_mul]
  exact Nat.pow_le_pow_left (by omega) n
 exact decL_len (10*n) _ (Nat.lt_of_lt_of_le h0 (Nat.le_trans h1 (Nat.pow_le_pow_right (by omega) (by omega))))
theorem cat_run(w:World)(a b:ByteArray)(x y:List Nat)(ha:a=sB x)(hb:b=sB y)(h:x.length+y.length≤9223372036854775807):(Op.stringOp .add a b).run Tryz.prog w=.ok (.string (sB (x++y))) w:=by
 subst ha hb
 rw [sB_append]
 exact run_string_add_sum _ _ _ (by rw [sB_size,sB_size];exact h)
def textL(c:RD):List Nat:=(if c.neg=true then [45] else [])++decL (val c.l1)++(if 0<c.n2 then [47]++decL (val c.l2) else [])
set_option maxRecDepth 100000 in
set_option maxHeartbeats 1600000 in
theorem dtext_c(w:World)(c:RD)(h:c.In w)(h1:c.n1≤1000000)(h2:c.n2≤1000000):Calls Tryz.prog 31 #[.agg #[.bool c.neg,.slice c.a1 c.n1 c.c1,.slice c.a2 c.n2 c.c2]] w (RetS (sB (textL c)) w):=by
 have hP:=Pro1.mk' w #[.bool c.neg,.slice c.a1 c.n1 c.c1,.slice c.a2 c.n2 c.c2] 25
 go_enter Tryz.func31, Tryz.ntmps31
 go_upto_region 1 with (fail)
 generalize w.alloc (.cells #[.bool c.neg,.slice c.a1 c.n1 c.c1,.slice c.a2 c.n2 c.c2] 25)=W at*
 have hpB:=hP.b0
 have hPb:=hP.below
 have HPS:=Lib.hid hP.size
 have cW:=h.on hPb
 have k0:=hpB.cell 0
 have k1:=hpB.cell 1
 have k2:=hpB.cell 2
 simp at k0 k1 k2
 have kz:=hpB.lt
 clear hP
 go_wp2_with fail
 refine (digits_c W cW.num h1).mono ?_
 rintro e U ⟨rfl,hbU⟩
 have hU:=hPb.trans (hbU.mono (by have:=HPS.out;omega))
 have hB:=hpB.on hbU
 have cU:=cW.on hbU
 clear k0 k1 k2 kz hpB cW
 have k0:=hB.cell 0
 have k1:=hB.cell 1
 have k2:=hB.cell 2
 simp at k0 k1 k2
 have kz:=hB.lt
 obtain ⟨neg,a1,n1,c1,l1,a2,n2,c2,l2⟩:=c
 rcases Nat.eq_zero_or_pos n2 with h0|h0
 ·have h0':n2=0:=h0
  subst h0'
  rcases neg with _|_
  ·have HF:Hid (RetS (sB (textL ⟨false,a1,n1,c1,l1,a2,0,c2,l2⟩)) w (.returned (.string (sB (decL (val l1))))) U):=⟨by simp [textL],hU⟩
   go_wp2_with fail
   go_ret
   exact HF.out
  ·have r1:(Op.stringOp .add ⟨#[45]⟩ (sB (decL (val l1)))).run Tryz.prog U=.ok (.string (sB (45::decL (val l1)))) U:=cat_run U ⟨#[45]⟩ (sB (decL (val l1))) [45] _ rfl rfl (by have:(decL (val l1)).length≤10*n1+1:=decL_bound cU.num;have:n1≤1000000:=h1;simp;omega)
   have HF:Hid (RetS (sB (textL ⟨true,a1,n1,c1,l1,a2,0,c2,l2⟩)) w (.returned (.string (sB (45::decL (val l1))))) U):=⟨by simp [textL],hU⟩
   go_wp2_with fail
   go_ret
   exact HF.out
 ·have d1:decide (0<n2)=true:=decide_eq_true h0
  have d2:decide ((0:Int)<(n2:Int))=true:=decide_eq_true (by have:0<n2:=h0;omega)
  have L1:(decL (val l1)).length≤10*n1+1:=decL_bound cU.num
  have L2:(decL (val l2)).length≤10*n2+1:=decL_bound cU.den
  have h1':n1≤1000000:=h1
  have h2':n2≤1000000:=h2
  rcases neg with _|_
  ·go_wp2_with fail
   refine (digits_c U cU.den h2).mono ?_
   rintro e V ⟨rfl,hbV⟩
   have r1:(Op.stringOp .add ⟨#[47]⟩ (sB (decL (val l2)))).run Tryz.prog V=.ok (.string (sB (47::decL (val l2)))) V:=cat_run V ⟨#[47]⟩ (sB (decL (val l2))) [47] _ rfl rfl (by simp;omega)
   have r2:(Op.stringOp .add (sB (decL (val l1))) (sB (47::decL (val l2)))).run Tryz.prog V=.ok (.string (sB (decL (val l1)++47::decL (val l2)))) V:=cat_run V _ _ _ _ rfl rfl (by simp;omega)
   have HF:Hid (RetS (sB (textL ⟨false,a1,n1,c1,l1,a2,n2,c2,l2⟩)) w (.returned (.string (sB (decL (val l1)++47::decL (val l2))))) V):=⟨by
    have h0':0<n2:=h0
    simp [textL,h0'],hU.trans (hbV.mono hU.size)⟩
   go_wp2_with fail
   go_ret
   exact HF.out
  ·have r0:(Op.stringOp .add ⟨#[45]⟩ (sB (decL (val l1)))).run Tryz.prog U=.ok (.string (sB (45::decL (val l1)))) U:=cat_run U ⟨#[45]⟩ (sB (decL (val l1))) [45] _ rfl rfl (by simp;omega)
   go_wp2_with fail
   refine (digits_c U cU.den h2).mono ?_
   rintro e V ⟨rfl,hbV⟩
   have r1:(Op.stringOp .add ⟨#[47]⟩ (sB (decL (val l2)))).run Tryz.prog V=.ok (.string (sB (47::decL (val l2)))) V:=cat_run V ⟨#[47]⟩ (sB (decL (val l2))) [47] _ rfl rfl (by simp;omega)
   have r2:(Op.stringOp .add (sB (45::decL (val l1))) (sB (47::decL (val l2)))).run Tryz.prog V=.ok (.string (sB (45::(decL (val l1)++47::decL (val l2))))) V:=cat_run V _ _ _ _ rfl rfl (by simp;omega)
   have HF:Hid (RetS (sB (textL ⟨true,a1,n1,c1,l1,a2,n2,c2,l2⟩)) w (.returned (.string (sB (45::(decL (val l1)++47::decL (val l2)))))) V):=⟨by
    have h0':0<n2:=h0
    simp [textL,h0'],hU.trans (hbV.mono hU.size)⟩
   go_wp2_with fail
   go_ret
   exact HF.out
theorem itoa_one(w:World):Calls Tryz.prog 30 #[.int .i64 1] w (fun e w'=>e=.returned (.string ⟨#[49]⟩)∧w=w'):=by
 go_enter Tryz.func30, Tryz.ntmps30
 go_wp2
 go_ret
 exact ⟨rfl,rfl⟩
set_option maxRecDepth 100000 in
set_option maxHeartbeats 1600000 in
theorem opp_3(w:World){i:Int}{c:RD}(hG:w.cell? ⟨0,3,none⟩=some (.int .i64 4))(hz:0<w.heap.size):Calls Tryz.prog 25 #[.agg #[.int .i64 3,.int .i64 i,.bool c.neg,.slice c.a1 c.n1 c.c1,.slice c.a2 c.n2 c.c2]] w (fun e w'=>e=.returned (.agg #[.int .i64 4,.int .i64 i,.bool c.neg,.slice c.a1 c.n1 c.c1,.slice c.a2 c.n2 c.c2])∧Below w.heap.size w w'):=by
 have hP:=Pro2.mk' w #[.int .i64 3,.int .i64 i,.bool c.neg,.slice c.a1 c.n1 c.c1,.slice c.a2 c.n2 c.c2] #[.int .i64 0,.int .i64 0,.bool false,.slice none 0 0,.slice none 0 0] 27 27
 go_enter Tryz.func25, Tryz.ntmps25
 go_upto_region 1 with (fail)
 generalize (w.alloc (.cells #[.int .i64 3,.int .i64 i,.bool c.neg,.slice c.a1 c.n1 c.c1,.slice c.a2 c.n2 c.c2] 27)).alloc (.cells #[.int .i64 0,.int .i64 0,.bool false,.slice none 0 0,.slice none 0 0] 27)=W at*
 have hpB:=hP.b0
 have hR:=hP.b1
 have hPb:=hP.below
 have hG':=(hPb.cell (p:=⟨0,3,none⟩) hz).trans hG
 have hz':0<W.heap.size:=Nat.lt_of_lt_of_le hz hPb.size
 have k0:=hpB.cell 0
 have k1:=hpB.cell 1
 have k2:=hpB.cell 2
 have k3:=hpB.cell 3
 have k4:=hpB.cell 4
 simp at k0 k1 k2 k3 k4
 have kz:=hpB.lt
 have kf0:=hpB.frozen 0
 have kf1:=hpB.frozen 1
 have kf2:=hpB.frozen 2
 have kf3:=hpB.frozen 3
 have kf4:=hpB.frozen 4
 have r0:=hR.cell 0
 have r1:=hR.cell 1
 have r2:=hR.cell 2
 have r3:=hR.cell 3
 have r4:=hR.cell 4
 simp at r0 r1 r2 r3 r4
 have rz:=hR.lt
 have rf0:=hR.frozen 0
 have rf1:=hR.frozen 1
 have rf2:=hR.frozen 2
 have rf3:=hR.frozen 3
 have rf4:=hR.frozen 4
 clear hP hG
 have HB:Hid (Below w.heap.size w ((((((W.setCell ⟨w.heap.size,0,none⟩ (.int .i64 4)).setCell ⟨w.heap.size+1,0,none⟩ (.int .i64 4)).setCell ⟨w.heap.size+1,1,none⟩ (.int .i64 i)).setCell ⟨w.heap.size+1,2,none⟩ (.bool c.neg)).setCell ⟨w.heap.size+1,3,none⟩ (.slice c.a1 c.n1 c.c1)).setCell ⟨w.heap.size+1,4,none⟩ (.slice c.a2 c.n2 c.c2))):=(((((hPb.setCell (p:=⟨w.heap.size,0,none⟩) (Nat.le_refl _) _).setCell (p:=⟨w.heap.size+1,0,none⟩) (Nat.le_succ _) _).setCell (p:=⟨w.heap.size+1,1,none⟩) (Nat.le_succ _) _).setCell (p:=⟨w.heap.size+1,2,none⟩) (Nat.le_succ _) _).setCell (p:=⟨w.heap.size+1,3,none⟩) (Nat.le_succ _) _).setCell (p:=⟨w.heap.size+1,4,none⟩) (Nat.le_succ _) _
 go_wp2_with fail
 exact bodyPost_ret (v:=.agg #[.int .i64 4,.int .i64 i,.bool c.neg,.slice c.a1 c.n1 c.c1,.slice c.a2 c.n2 c.c2]) (by simp [results, Tryz.results25,go_sem, *]) rfl ⟨rfl,HB.out⟩
end
section
open Go.RowKit
theorem half_ok{a1 a2:Option Addr}{c1 c2:Nat}:RD.Ok (⟨false,a1,1,c1,[1],a2,1,c2,[2]⟩:RD):=by
 show RatV false [1] [2]
 decide+kernel
theorem decL_small{k:Nat}(h:k<10):decL k=[48+k]:=by rw [decL,dif_pos h]
theorem half_text{a1 a2:Option Addr}{c1 c2:Nat}:textL (⟨false,a1,1,c1,[1],a2,1,c2,[2]⟩:RD)=[49,47,50]:=by
 have h1:val [1]=1:=rfl
 have h2:val [2]=2:=rfl
 simp [textL,h1,h2,decL_small]
set_option maxRecDepth 100000 in
set_option maxHeartbeats 1600000 in
theorem text_half(w:World){a1 a2:Option Addr}{c1 c2:Nat}(h:RD.In (⟨false,a1,1,c1,[1],a2,1,c2,[2]⟩:RD) w):Calls Tryz.prog 9 #[.agg #[.int .i64 4,.int .i64 1,.bool false,.slice a1 1 c1,.slice a2 1 c2]] w (RetS ⟨#[120,49,32,60,61,32,49,47,50]⟩ w):=by
 have hV:ED.V ⟨4,1,(⟨false,a1,1,c1,[1],a2,1,c2,[2]⟩:RD)⟩:=⟨by show (0:Int)≤1;omega,Or.inr ⟨Or.inr rfl,by show (1:Int)<256;omega,half_ok⟩⟩
 have hP:=Pro1.mk' w #[.int .i64 4,.int .i64 1,.bool false,.slice a1 1 c1,.slice a2 1 c2] 27
 go_enter Tryz.func9, Tryz.ntmps9
 go_upto_region 1 with (fail)
 generalize w.alloc (.cells #[.int .i64 4,.int .i64 1,.bool false,.slice a1 1 c1,.slice a2 1 c2] 27)=W at*
 have hpB:=hP.b0
 have hPb:=hP.below
 have HPS:=Lib.hid hP.size
 have cW:=h.on hPb
 have k0:=hpB.cell 0
 have k1:=hpB.cell 1
 have k2:=hpB.cell 2
 have k3:=hpB.cell 3
 have k4:=hpB.cell 4
 simp at k0 k1 k2 k3 k4
 have kz:=hpB.lt
 clear hP
 go_wp2_with fail
 refine (valid_c W ⟨4,1,(⟨false,a1,1,c1,[1],a2,1,c2,[2]⟩:RD)⟩ cW ⟨by show 1≤_;omega,by show 1≤_;omega⟩).mono ?_
 rintro e U ⟨rfl,hbU⟩
 rw [decide_eq_true hV]
 have hU:=hPb.trans (hbU.mono (by have:=HPS.out;omega))
 have hB:=hpB.on hbU
 have cU:=cW.on hbU
 clear k0 k1 k2 k3 k4 kz hpB cW hV
 have k0:=hB.cell 0
 have k1:=hB.cell 1
 have k2:=hB.cell 2
 have k3:=hB.cell 3
 have k4:=hB.cell 4
 simp at k0 k1 k2 k3 k4
 have kz:=hB.lt
 go_wp2_with fail
 refine (itoa_one U).mono ?_
 rintro e V ⟨rfl,rfl⟩
 have r1:(Op.stringOp .add ⟨#[120]⟩ ⟨#[49]⟩).run Tryz.prog U=.ok (.string ⟨#[120,49]⟩) U:=cat_run U ⟨#[120]⟩ ⟨#[49]⟩ [120] [49] rfl rfl (by simp)
 have r2:(Op.stringOp .add ⟨#[120,49]⟩ ⟨#[32,60,61,32]⟩).run Tryz.prog U=.ok (.string ⟨#[120,49,32,60,61,32]⟩) U:=cat_run U ⟨#[120,49]⟩ ⟨#[32,60,61,32]⟩ [120,49] [32,60,61,32] rfl rfl (by simp)
 go_wp2_with fail
 refine (dtext_c U (⟨false,a1,1,c1,[1],a2,1,c2,[2]⟩:RD) cU (by show 1≤_;omega) (by show 1≤_;omega)).mono ?_
 rintro e V ⟨rfl,hbV⟩
 rw [half_text]
 have e0:sB [49,47,50]=⟨#[49,47,50]⟩:=rfl
 rw [e0]
 have r3:(Op.stringOp .add ⟨#[120,49,32,60,61,32]⟩ ⟨#[49,47,50]⟩).run Tryz.prog V=.ok (.string ⟨#[120,49,32,60,61,32,49,47,50]⟩) V:=cat_run V ⟨#[120,49,32,60,61,32]⟩ ⟨#[49,47,50]⟩ [120,49,32,60,61,32] [49,47,50] rfl rfl (by simp)
 have hwV:=hU.trans (hbV.mono hU.size)
 clear r1 r2 e0
 go_wp2_with fail
 go_ret
 exact ⟨rfl,hwV⟩
abbrev exP:List ED:=[⟨1,0,(⟨false,none,0,0,[],none,0,0,[]⟩:RD)⟩,⟨3,0,(⟨false,none,0,0,[],none,0,0,[]⟩:RD)⟩,⟨2,2,(⟨false,none,0,0,[],none,0,0,[]⟩:RD)⟩]
theorem z_in(w:World):RD.In (⟨false,none,0,0,[],none,0,0,[]⟩:RD) w:=⟨LimR.nil _ _ _,LimR.nil _ _ _⟩
theorem z_ok:RD.Ok (⟨false,none,0,0,[],none,0,0,[]⟩:RD):=by
 show RatV false [] []
 decide+kernel
theorem exP_mem{i:Nat}{e:ED}(h:exP[i]?=some e):e=⟨1,0,(⟨false,none,0,0,[],none,0,0,[]⟩:RD)⟩∨e=⟨3,0,(⟨false,none,0,0,[],none,0,0,[]⟩:RD)⟩∨e=⟨2,2,(⟨false,none,0,0,[],none,0,0,[]⟩:RD)⟩:=by
 have:=List.mem_of_getElem? h
 simpa [exP] using this
theorem exP_v:∀(i:Nat) (e:ED),exP[i]?=some e→e.V∧(e.u=true→e.i<3):=fun i e h=>by
 rcases exP_mem h with rfl|rfl|rfl
 ·exact ⟨⟨by show (0:Int)≤0;omega,Or.inl ⟨rfl,by show (0:Int)<1024;omega,rfl,rfl,rfl⟩⟩,fun _=>by show (0:Int)<3;omega⟩
 ·exact ⟨⟨by show (0:Int)≤0;omega,Or.inr ⟨Or.inl rfl,by show (0:Int)<256;omega,z_ok⟩⟩,fun _=>by show (0:Int)<3;omega⟩
 ·exact ⟨⟨by show (0:Int)≤2;omega,Or.inl ⟨rfl,by show (2:Int)<1024;omega,rfl,rfl,rfl⟩⟩,fun _=>by show (2:Int)<3;omega⟩
theorem exP_tw:¬Tw exP:=by
 rintro ⟨i,j,a,b,hj,hi,ha,hb,h1,h2,h3⟩
 have hi3:i<3:=hi
 rcases i with _|_|_|i
 ·omega
 ·cases ha;cases h1
 ·rcases j with _|_|j
  ·cases ha;cases hb;cases h3
  ·cases hb;cases h2
  ·omega
 ·omega
theorem exP_path:pathE exP 3=0∧pathL exP 3=[1,0,2]:=by
 have h:pathE exP 3=0:=pathE_ok (by omega) (by omega) exP_v exP_tw (by show 3≤2048;omega)
 exact ⟨h,by unfold pathL;rw [if_pos h];rfl⟩
theorem exP_ext:extE (exP++[⟨2,0,(⟨false,none,0,0,[],none,0,0,[]⟩:RD)⟩])=9:=by
 unfold extE
 rw [if_neg,if_pos]
 ·exact ⟨3,0,⟨2,0,(⟨false,none,0,0,[],none,0,0,[]⟩:RD)⟩,⟨1,0,(⟨false,none,0,0,[],none,0,0,[]⟩:RD)⟩,by omega,by show 3<4;omega,rfl,rfl,rfl,rfl,rfl⟩
 ·rintro ⟨i,e,he,h9⟩
  refine h9 ?_
  rcases Nat.lt_or_ge i 3 with h|h
  ·rw [List.getElem?_append_left (by show i<3;exact h)] at he
   exact (exP_v i e he).1
  ·rw [List.getElem?_append_right (by show 3≤i;exact h)] at he
   have:=(List.getElem?_eq_some_iff.1 he).1
   simp at this
   rw [show i-exP.length=0 by show i-3=0;omega] at he
   cases he
   exact ⟨by show (0:Int)≤0;omega,Or.inl ⟨rfl,by show (0:Int)<1024;omega,rfl,rfl,rfl⟩⟩
theorem exP_in{w:World}{B:Nat}{t:TypeId}(h:Blk w B t #[.int .i64 1,.int .i64 0,.bool false,.slice none 0 0,.slice none 0 0,.int .i64 3,.int .i64 0,.bool false,.slice none 0 0,.slice none 0 0,.int .i64 2,.int .i64 2,.bool false,.slice none 0 0,.slice none 0 0]):EsR w (some ⟨B,0,none⟩) 3 3 exP:=
 ⟨rfl,Nat.le_refl _,(fun i e he=>by rcases exP_mem he with rfl|rfl|rfl <;>exact z_in w),fun _=>⟨B,0,rfl,h.lt,fun i e he=>by
  have hc:=fun k=>h.cell k
  rcases i with _|_|_|i
  ·cases he;exact ⟨hc 0,hc 1,hc 2,hc 3,hc 4⟩
  ·cases he;exact ⟨hc 5,hc 6,hc 7,hc 8,hc 9⟩
  ·cases he;exact ⟨hc 10,hc 11,hc 12,hc 13,hc 14⟩
  ·exact absurd (List.getElem?_eq_some_iff.1 he).1 (by show ¬(i+3<3);omega)⟩⟩
theorem exP_few:∀(i:Nat) (e:ED),exP[i]?=some e→FewC e.c:=fun i e he=>by rcases exP_mem he with rfl|rfl|rfl <;>exact ⟨by show 0≤_;omega,by show 0≤_;omega⟩
theorem half_rat{w:World}{s:Bool}{a1 a2:Option Addr}{n1 n2 c1 c2:Nat}(h:RatC w s a1 n1 c1 a2 n2 c2 (((1:Int):Rat) / ((2:Int):Rat))):s=false∧n1=1∧n2=1∧RD.In (⟨false,a1,1,c1,[1],a2,1,c2,[2]⟩:RD) w:=by
 have q1:(((1:Int):Rat) / ((2:Int):Rat)).num=1:=by decide+kernel
 have q2:(((1:Int):Rat) / ((2:Int):Rat)).den=2:=by decide+kernel
 have l1:lmb 1=[1]:=lmb_val (l:=[1]) (fun x hx=>by simp at hx;subst hx;omega) (Or.inr (by simp))
 have l2:lmb 2=[2]:=lmb_val (l:=[2]) (fun x hx=>by simp at hx;subst hx;omega) (Or.inr (by simp))
 have d2:dlmb 2=[2]:=by unfold dlmb;rw [if_neg (by omega),l2]
 obtain ⟨hs,hn,hd⟩:=h
 have hs':=hs.out
 rw [q1] at hs' hn
 rw [q2,d2] at hd
 have hn':LimR w a1 n1 c1 [1]:=by rw [←l1];exact hn
 have e1:=hn'.len
 have e2:=hd.len
 simp at e1 e2
 subst e1 e2
 exact ⟨hs',rfl,rfl,hn',hd⟩
set_option maxRecDepth 100000 in
set_option maxHeartbeats 800000 in
theorem awake_c(w:World)(hG:w.cell? ⟨0,3,none⟩=some (.int .i64 4))(hz:0<w.heap.size):Calls Tryz.prog 7 #[] w (RetB true w):=by
 go_enter Tryz.func7, Tryz.ntmps7
 go_wp2_with fail
 refine (frac_c w (x:=1) (y:=2) (by omega) (by omega) (by omega) (by omega) (by omega)).mono ?_
 rintro e w1 ⟨s,a1,n1,c1,a2,n2,c2,rfl,gq,hb1⟩
 obtain ⟨rfl,rfl,rfl,hc⟩:=half_rat gq
 clear gq
 go_upto_region 2 with (fail)
 have hQ:=Pro1.mk' w1 #[.bool false,.slice a1 1 c1,.slice a2 1 c2] 25
 generalize w1.alloc (.cells #[.bool false,.slice a1 1 c1,.slice a2 1 c2] 25)=w2 at*
 have hb2:=hb1.trans (hQ.below.mono hb1.size)
 have hc2:=hc.on hQ.below
 have hX:=hQ.b0
 have hG2:=(hb2.cell (p:=⟨0,3,none⟩) hz).trans hG
 have hz2:=Nat.lt_of_lt_of_le hz hb2.size
 clear hQ hb1 hc hG hz
 have x0:=hX.cell 0
 have x1:=hX.cell 1
 have x2:=hX.cell 2
 simp at x0 x1 x2
 have xz:=hX.lt
 go_wp2_with fail
 refine (opp_3 (c:=(⟨false,a1,1,c1,[1],a2,1,c2,[2]⟩:RD)) w2 hG2 hz2).mono ?_
 rintro e w3 ⟨rfl,hb3⟩
 go_upto_region 3 with (fail)
 have hQ:=Pro1.mk' w3 #[.int .i64 4,.int .i64 1,.bool false,.slice a1 1 c1,.slice a2 1 c2] 27
 generalize w3.alloc (.cells #[.int .i64 4,.int .i64 1,.bool false,.slice a1 1 c1,.slice a2 1 c2] 27)=w4 at*
 have hb34:=hb3.trans (hQ.below.mono hb3.size)
 have hb4:=hb2.trans (hb34.mono hb2.size)
 have hc4:=hc2.on hb34
 have hY:=hQ.b0
 clear hQ hb2 hb3 hb34 hc2 hX x0 x1 x2 xz hG2 hz2
 go_upto_region 4 with (fail)
 have hQ:=Pro1.mk' w4 #[.int .i64 1,.int .i64 0,.bool false,.slice none 0 0,.slice none 0 0,.int .i64 3,.int .i64 0,.bool false,.slice none 0 0,.slice none 0 0,.int .i64 2,.int .i64 2,.bool false,.slice none 0 0,.slice none 0 0] 27
 generalize w4.alloc (.cells #[.int .i64 1,.int .i64 0,.bool false,.slice none 0 0,.slice none 0 0,.int .i64 3,.int .i64 0,.bool false,.slice none 0 0,.slice none 0 0,.int .i64 2,.int .i64 2,.bool false,.slice none 0 0,.slice none 0 0] 27)=w5 at*
 have hb5:=hb4.trans (hQ.below.mono hb4.size)
 have hc5:=hc4.on hQ.below
 have hY5:=hY.on hQ.below
 have hE:=exP_in hQ.b0
 clear hQ hb4 hc4 hY
 go_wp2_with fail
 refine (ppath_c w5 (units:=3) hE (by omega) exP_few).mono ?_
 rintro e w6 ⟨ad6,n6,c6,rfl,hi6,hb6⟩
 rw [exP_path.1]
 rw [exP_path.2] at hi6
 obtain rfl:n6=3:=hi6.len.symm
 go_wp2_with fail
 refine (extend_c w6 (d:=⟨2,0,(⟨false,none,0,0,[],none,0,0,[]⟩:RD)⟩) (hE.on hb6) (by omega) (z_in w6) exP_few ⟨by show 0≤_;omega,by show 0≤_;omega⟩).mono ?_
 rintro e w7 ⟨ad7,n7,c7,rfl,_,hb7⟩
 rw [exP_ext]
 have hb67:=hb6.trans (hb7.mono hb6.size)
 have hY7:=hY5.on hb67
 have hc7:=hc5.on hb67
 have hi7:=hi6.on hb7
 have hw7:=hb5.trans (hb67.mono hb5.size)
 clear hb6 hb7 hb67 hY5 hc5 hi6 hE hb5
 have y0:=hY7.cell 0
 have y1:=hY7.cell 1
 have y2:=hY7.cell 2
 have y3:=hY7.cell 3
 have y4:=hY7.cell 4
 simp at y0 y1 y2 y3 y4
 have yz:=hY7.lt
 go_wp2_with fail
 refine (text_half w7 hc7).mono ?_
 rintro e w8 ⟨rfl,hb8⟩
 generalize (⟨#[120,49,32,60,61,32,49,47,50]⟩:ByteArray)=tx at*
 have htx:(tx.toList==tx.toList)=true:=beq_self_eq_true _
 have hi8:=hi7.on hb8
 have hw8:=hw7.trans (hb8.mono hw7.size)
 have hQ:=Pro1.mk' w8 #[.int .i64 1,.int .i64 0,.int .i64 2] 3
 have hi9:=hi8.on hQ.below
 have hl9:IntR (w8.alloc (.cells #[.int .i64 1,.int .i64 0,.int .i64 2] 3)) (some ⟨w8.heap.size,0,none⟩) 3 3 [1,0,2]:=ib_read (xs:=[1,0,2]) hQ.b0 rfl
 have hw9:=hw8.trans (hQ.below.mono hw8.size)
 have hs:=sameints_c _ hi9 hl9 (by omega) (by omega)
 rw [decide_eq_true (rfl:([1,0,2]:List Int)=[1,0,2])] at hs
 have HS:=Lib.hid hs
 clear hs
 clear hQ hi9 hl9 hi8 hi7 hY7 y0 y1 y2 y3 y4 yz
 go_wp2_with fail
 refine HS.out.mono ?_
 rintro e w10 ⟨rfl,hb10⟩
 go_wp2_with fail
 go_ret
 exact ⟨rfl,hw9.trans (hb10.mono hw9.size)⟩
end
end Go.Proofs.YtnegdhjdienjlaaGreatDoor
