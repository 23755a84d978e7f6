import Derived.Test.YtnegdhjdienjlaaGreatDoorGQ6
import Derived.Maps.Own
import Derived.Maps.Views
set_option linter.all false
namespace Go.Proofs.YtnegdhjdienjlaaGreatDoor
section
open Go.RowKit
theorem cells_news(w:World)(cs:Array Value)(t:TypeId):∀j u,cs.toList[j]?=some u→(w.alloc (.cells cs t)).cell? ((⟨w.heap.size,0,none⟩:Addr).add j)=some u:=by
 intro j u hj
 have hb:=Blk.new w t cs
 have e:((⟨w.heap.size,0,none⟩:Addr).add j)=⟨w.heap.size,j,none⟩:=by unfold Addr.add;split <;>simp_all
 rw [e,hb.cell]
 simpa using hj
end
section
open Go.RowKit
section
variable {P : Program} {ops : Array Oper} {Q : Exit → Act → World → Prop} {md : Region.Mode} {S : World → Prop} {s : Nat}
theorem wpT_two(i j:Nat){oi oj:Oper}{fuel:Nat}{listed:Array Bool}{a:Act}{w:World}(hi:ops.toList[i]?=some oi)(hj:ops.toList[j]?=some oj)(hr:Region.ready md ops listed=[i,j])(h1:∀K':Act→World→Prop,Shut (∀a w,S w→(S w→wpT P md ops Q S s fuel (listed.setIfInBounds i true) a w)→K' a w)→if Region.wanted oi (yielded ops a.tmps)=true then Oper.wp P oi a w K' Q else K' (a.put oi.dst undef) w)(h2:∀K':Act→World→Prop,Shut (∀a w,S w→(S w→wpT P md ops Q S s fuel (listed.setIfInBounds j true) a w)→K' a w)→if Region.wanted oj (yielded ops a.tmps)=true then Oper.wp P oj a w K' Q else K' (a.put oj.dst undef) w):
  wpT P md ops Q S s (fuel+1) listed a w:=by
 have hi':ops[i]?=some oi:=by rw [←hi];simp
 have hj':ops[j]?=some oj:=by rw [←hj];simp
 refine ⟨fun h0=>(by rw [h0] at hr;cases hr),fun k hk=>?_⟩
 rw [hr] at hk
 rcases List.mem_cons.1 hk with rfl|hk
 ·exact wpOp_step hi' (fun K' hK=>h1 K' (fun a w hS hW=>hK a w ⟨fun _=>hS,hW hS⟩))
 ·cases List.mem_singleton.1 hk
  exact wpOp_step hj' (fun K' hK=>h2 K' (fun a w hS hW=>hK a w ⟨fun _=>hS,hW hS⟩))
end
section
variable {P : Program} {w : World}
theorem wpList_row_any{Qc:Value→Prop}{ops:Array Oper}{rest:List Oper}{o:Oper}{a:Act}{Q:Exit→Act→World→Prop}(hgd:o.guard=none)(s x:Operand)(t:TypeId)(ho:o.op=.call {callee:=.builtin .append,args:=#[s,x],argTypes:=#[t,t]})(base:Nat)(e:TypeId)(i:TypeInfo)(z:Value)(size bytes:Nat)(ht:P.underlying t=some (.slice e))(hi:P.info? e=some i)(hz:i.zero=some z)(hsize:i.size=size)(hby:i.bytes=bytes)(hzs:z.cells.size=size)(hsz:0<size)(v:Value)(n:Nat)(xs:List Value)(hs:a.eval s=v)(hown:Row Qc w base e size v n xs)(A:Option Addr)(m c:Nat)(news:List Value)(hx:a.eval x=.slice A m c)(hl:news.length=m*size)(hr:0<m→∃ad,A=some ad∧∀j u,news[j]?=some u→w.cell? (ad.add j)=some u)(h1:∀u∈news,u.oneCell'=true)(h63:n+m≤maxLen)(hbytes:(n+m)*bytes≤140737488355328)(hbase:base≤w.heap.size)(hQz:∀x∈z.cells,Qc x)(hQn:∀x∈news,Qc x)(h:∀v' w',Row Qc w' base e size v' (n+m) (xs++news)→w.grownBy w' v.ownBlock→(v'.ownBlock=v.ownBlock∨v'.ownBlock=some w.heap.size)→wpList P ops Q rest (a.put o.dst v') w'):wpList P ops Q (o::rest) a w:=
 wpList_plain hgd fun K' hK=>by
  have h9:=step_row_any (P:=P) (w:=w) (ops:=ops) (K:=K') (Q:=Q) (E:=True) hgd s x t ho base e i z size bytes ht hi hz hsize hby hzs hsz v n xs hs hown A m c news hx hl hr h1 h63 hbytes hbase hQz hQn (fun v' w' h2 h3 h4=>hK _ _ (h v' w' h2 h3 h4))
  have hw:Region.wanted o (yielded ops a.tmps)=true:=by simp [Region.wanted,hgd]
  rwa [if_pos hw] at h9
end
end
section
open Go.RowKit
theorem unit_aux(w:World){k i:Int}{s:Bool}{a1 a2:Option Addr}{n1 n2 c1 c2:Nat}{l1 l2:List Nat}:
  Calls Tryz.prog 70 #[.agg #[.int .i64 k,.int .i64 i,.bool s,.slice a1 n1 c1,.slice a2 n2 c2]] w (RetB (⟨k,i,⟨s,a1,n1,c1,l1,a2,n2,c2,l2⟩⟩:ED).u w):=by
 have hP:=Pro1.mk' w #[.int .i64 k,.int .i64 i,.bool s,.slice a1 n1 c1,.slice a2 n2 c2] 27
 go_enter Tryz.func70, Tryz.ntmps70
 go_upto_region 1 with (fail)
 generalize w.alloc (.cells #[.int .i64 k,.int .i64 i,.bool s,.slice a1 n1 c1,.slice a2 n2 c2] 27)=W at*
 have hpB:=hP.b0
 have hPb:=hP.below
 have HPS:=Lib.hid hP.size
 have k0:=hpB.cell 0
 have k1:=hpB.cell 1
 have k2:=hpB.cell 2
 have k3:=hpB.cell 3
 have k4:=hpB.cell 4
 simp at k0 k1 k2 k3 k4
 have kz:=hpB.lt
 clear hP
 by_cases h1:k=1
 ·subst h1
  go_wp2_with fail
  go_ret
  exact ⟨by first|rfl|(rw [HR.out];rfl),hPb⟩
 by_cases h2:k=2
 ·subst h2
  go_wp2_with fail
  go_ret
  exact ⟨by first|rfl|(rw [HR.out];rfl),hPb⟩
 have q1:(k==1)=false:=by simp;omega
 have p1:decide (k=1)=false:=by simp;omega
 have q2:(k==2)=false:=by simp;omega
 have p2:decide (k=2)=false:=by simp;omega
 have hu:(⟨k,i,⟨s,a1,n1,c1,l1,a2,n2,c2,l2⟩⟩:ED).u=false:=decide_eq_false (fun h=>h.elim h1 h2)
 have HR:=Lib.hid hu
 clear hu
 go_wp2_with fail
 go_ret
 exact ⟨by first|rfl|(rw [HR.out];rfl),hPb⟩
theorem unit_c(w:World)(e:ED):Calls Tryz.prog 70 #[.agg #[.int .i64 e.k,.int .i64 e.i,.bool e.c.neg,.slice e.c.a1 e.c.n1 e.c.c1,.slice e.c.a2 e.c.n2 e.c.c2]] w (RetB e.u w):=by
 obtain ⟨k,i,s,a1,n1,c1,l1,a2,n2,c2,l2⟩:=e
 exact unit_aux w
def RD.Z(c:RD):Prop:=c.neg=false∧c.l1=[]∧c.l2=[]
noncomputable instance (c:RD):Decidable c.Z:=Classical.propDecidable _
theorem zero_c(w:World)(c:RD)(h:c.In w):Calls Tryz.prog 76 #[.agg #[.bool c.neg,.slice c.a1 c.n1 c.c1,.slice c.a2 c.n2 c.c2]] w (RetB (decide c.Z) w):=by
 obtain ⟨s,a1,n1,c1,l1,a2,n2,c2,l2⟩:=c
 have HN1:Hid (l1.length=n1):=h.num.len
 have HN2:Hid (l2.length=n2):=h.den.len
 clear h
 have hP:=Pro1.mk' w #[.bool s,.slice a1 n1 c1,.slice a2 n2 c2] 25
 go_enter Tryz.func76, Tryz.ntmps76
 go_upto_region 1 with (fail)
 generalize w.alloc (.cells #[.bool s,.slice a1 n1 c1,.slice a2 n2 c2] 25)=W at*
 have hpB:=hP.b0
 have hPb:=hP.below
 have HPS:=Lib.hid hP.size
 have k0:=hpB.cell 0
 have k1:=hpB.cell 1
 have k2:=hpB.cell 2
 simp at k0 k1 k2
 have kz:=hpB.lt
 clear hP
 rcases s with _|_
 rotate_left
 ·have HR:=Lib.hid (decide_eq_false (fun h:RD.Z ⟨true,a1,n1,c1,l1,a2,n2,c2,l2⟩=>by have:=h.1;cases this))
  go_wp2_with fail
  go_ret
  exact ⟨by first|rfl|(rw [HR.out];rfl),hPb⟩
 by_cases h1:n1=0
 rotate_left
 ·have HR:=Lib.hid (decide_eq_false (fun h:RD.Z ⟨false,a1,n1,c1,l1,a2,n2,c2,l2⟩=>h1 (by rw [←HN1.out,show l1=[] from h.2.1];rfl)))
  have q1:((n1:Int)==0)=false:=by simp;omega
  have p1:decide ((n1:Int)=0)=false:=by simp;omega
  have q2:(n1==0)=false:=by simp;omega
  go_wp2_with fail
  go_ret
  exact ⟨by first|rfl|(rw [HR.out];rfl),hPb⟩
 subst h1
 by_cases h2:n2=0
 rotate_left
 ·have HR:=Lib.hid (decide_eq_false (fun h:RD.Z ⟨false,a1,0,c1,l1,a2,n2,c2,l2⟩=>h2 (by rw [←HN2.out,show l2=[] from h.2.2];rfl)))
  have q1:((n2:Int)==0)=false:=by simp;omega
  have p1:decide ((n2:Int)=0)=false:=by simp;omega
  have q2:(n2==0)=false:=by simp;omega
  go_wp2_with fail
  go_ret
  exact ⟨by first|rfl|(rw [HR.out];rfl),hPb⟩
 subst h2
 have HR:=Lib.hid (decide_eq_true (show RD.Z ⟨false,a1,0,c1,l1,a2,0,c2,l2⟩ from ⟨rfl,List.eq_nil_of_length_eq_zero HN1.out,List.eq_nil_of_length_eq_zero HN2.out⟩))
 go_wp2_with fail
 go_ret
 exact ⟨by first|rfl|(rw [HR.out];rfl),hPb⟩
def FewC(c:RD):Prop:=c.n1≤1099511627776∧c.n2≤1099511627776
theorem rok_c(w:World)(c:RD)(h:c.In w)(hf:FewC c):Calls Tryz.prog 77 #[.agg #[.bool c.neg,.slice c.a1 c.n1 c.c1,.slice c.a2 c.n2 c.c2]] w (RetB (decide c.Ok) w):=rvalid_any w h.num h.den (by have:=hf.1;omega) (by have:=hf.2;omega)
theorem ed_v{k i:Int}{c:RD}:(⟨k,i,c⟩:ED).V↔0≤i∧(((k=1∨k=2)∧i<1024∧c.Z)∨((k=3∨k=4)∧i<256∧c.Ok)):=by
 unfold ED.V RD.Z
 rw [ED.u_iff]
set_option maxRecDepth 100000 in
set_option maxHeartbeats 1600000 in
theorem valid_c(w:World)(e:ED)(h:e.In w)(hf:FewC e.c):Calls Tryz.prog 29 #[.agg #[.int .i64 e.k,.int .i64 e.i,.bool e.c.neg,.slice e.c.a1 e.c.n1 e.c.c1,.slice e.c.a2 e.c.n2 e.c.c2]] w (RetB (decide e.V) w):=by
 obtain ⟨k,i,c⟩:=e
 have hc:c.In w:=h
 clear h
 have hP:=Pro1.mk' w #[.int .i64 k,.int .i64 i,.bool c.neg,.slice c.a1 c.n1 c.c1,.slice c.a2 c.n2 c.c2] 27
 go_enter Tryz.func29, Tryz.ntmps29
 go_upto_region 1 with (fail)
 generalize w.alloc (.cells #[.int .i64 k,.int .i64 i,.bool c.neg,.slice c.a1 c.n1 c.c1,.slice c.a2 c.n2 c.c2] 27)=W at*
 have hpB:=hP.b0
 have hPb:=hP.below
 have HPS:=Lib.hid hP.size
 have cW:=hc.on hPb
 clear hc
 have k0:=hpB.cell 0
 have k1:=hpB.cell 1
 have k2:=hpB.cell 2
 have k3:=hpB.cell 3
 have k4:=hpB.cell 4
 simp at k0 k1 k2 k3 k4
 have kz:=hpB.lt
 clear hP
 by_cases hi:i<0
 ·have d1:decide (i<0)=true:=decide_eq_true hi
  have HR:=Lib.hid (decide_eq_false (fun h:(⟨k,i,c⟩:ED).V=>by have:=(ed_v.1 h).1;omega))
  go_wp2_with fail
  go_ret
  exact ⟨by first|rfl|(rw [HR.out];rfl),hPb⟩
 have d1:decide (i<0)=false:=decide_eq_false hi
 go_wp2_with fail
 refine (unit_c W ⟨k,i,c⟩).mono ?_
 rintro e U ⟨rfl,hbU⟩
 have hU:=hPb.trans (hbU.mono (by have:=HPS.out;omega))
 have hB:=hpB.on hbU
 have cU:=cW.on hbU
 clear k0 k1 k2 k3 k4 kz hpB cW
 have k0:=hB.cell 0
 have k1:=hB.cell 1
 have k2:=hB.cell 2
 have k3:=hB.cell 3
 have k4:=hB.cell 4
 simp at k0 k1 k2 k3 k4
 have kz:=hB.lt
 rcases hu:(⟨k,i,c⟩:ED).u with _|_
 ·have hk:¬(k=1∨k=2):=fun h9=>by rw [ED.u_iff.2 h9] at hu;cases hu
  clear hu
  by_cases h34:k=3∨k=4
  rotate_left
  ·have HR:=Lib.hid (decide_eq_false (fun h:(⟨k,i,c⟩:ED).V=>by rcases (ed_v.1 h).2 with h9|h9;exact hk h9.1;exact h34 h9.1))
   have e3:¬k=3:=fun h9=>h34 (Or.inl h9)
   have e4:¬k=4:=fun h9=>h34 (Or.inr h9)
   have q3:(k==3)=false:=by simp;omega
   have p3:decide (k=3)=false:=by simp;omega
   have q4:(k==4)=false:=by simp;omega
   have p4:decide (k=4)=false:=by simp;omega
   go_wp2_with fail
   go_ret
   exact ⟨by first|rfl|(rw [HR.out];rfl),hU⟩
  by_cases h256:i<256
  rotate_left
  ·have HR:=Lib.hid (decide_eq_false (fun h:(⟨k,i,c⟩:ED).V=>by rcases (ed_v.1 h).2 with h9|h9;exact hk h9.1;exact h256 h9.2.1))
   have d2:decide (i<256)=false:=decide_eq_false h256
   rcases h34 with rfl|rfl
   ·go_wp2_with fail
    go_ret
    exact ⟨by first|rfl|(rw [HR.out];rfl),hU⟩
   ·go_wp2_with fail
    go_ret
    exact ⟨by first|rfl|(rw [HR.out];rfl),hU⟩
  have d2:decide (i<256)=true:=decide_eq_true h256
  have HV:Hid (decide (⟨k,i,c⟩:ED).V=decide c.Ok):=by
   show decide _=decide _
   exact decide_eq_decide.2 ⟨fun h=>by rcases (ed_v.1 h).2 with h9|h9;exact absurd h9.1 hk;exact h9.2.2,fun h=>ed_v.2 ⟨by omega,Or.inr ⟨h34,h256,h⟩⟩⟩
  have HR:=Lib.hid HV.out
  clear HV
  have HC:Hid (Calls Tryz.prog 77 #[.agg #[.bool c.neg,.slice c.a1 c.n1 c.c1,.slice c.a2 c.n2 c.c2]] U (RetB (decide c.Ok) U)):=rok_c U c cU hf
  generalize decide c.Ok=vb at*
  rcases h34 with rfl|rfl
  ·go_wp2_with fail
   refine HC.out.mono ?_
   rintro e V ⟨rfl,hbV⟩
   go_wp2_with fail
   go_ret
   exact ⟨by first|rfl|(rw [HR.out];rfl),hU.trans (hbV.mono hU.size)⟩
  ·go_wp2_with fail
   refine HC.out.mono ?_
   rintro e V ⟨rfl,hbV⟩
   go_wp2_with fail
   go_ret
   exact ⟨by first|rfl|(rw [HR.out];rfl),hU.trans (hbV.mono hU.size)⟩
 ·have hk:=ED.u_iff.1 hu
  clear hu
  by_cases h1024:i<1024
  rotate_left
  ·have HR:=Lib.hid (decide_eq_false (fun h:(⟨k,i,c⟩:ED).V=>by rcases (ed_v.1 h).2 with h9|h9;exact h1024 h9.2.1;have:i<256:=h9.2.1;omega))
   have d2:decide (i<1024)=false:=decide_eq_false h1024
   go_wp2_with fail
   go_ret
   exact ⟨by first|rfl|(rw [HR.out];rfl),hU⟩
  have d2:decide (i<1024)=true:=decide_eq_true h1024
  have HV:Hid (decide (⟨k,i,c⟩:ED).V=decide c.Z):=by
   show decide _=decide _
   exact decide_eq_decide.2 ⟨fun h=>by rcases (ed_v.1 h).2 with h9|h9;exact h9.2.2;(have h8:k=3∨k=4:=h9.1;have h7:k=1∨k=2:=hk;omega),fun h=>ed_v.2 ⟨by omega,Or.inl ⟨hk,h1024,h⟩⟩⟩
  have HR:=Lib.hid HV.out
  clear HV
  have HC:Hid (Calls Tryz.prog 76 #[.agg #[.bool c.neg,.slice c.a1 c.n1 c.c1,.slice c.a2 c.n2 c.c2]] U (RetB (decide c.Z) U)):=zero_c U c cU
  generalize decide c.Z=vb at*
  go_wp2_with fail
  refine HC.out.mono ?_
  rintro e V ⟨rfl,hbV⟩
  go_wp2_with fail
  go_ret
  exact ⟨by first|rfl|(rw [HR.out];rfl),hU.trans (hbV.mono hU.size)⟩
end
section
open Go.RowKit
def litI(e:ED):Int:=if e.u then e.i else 0
def litB(e:ED):Bool:=e.u && decide (e.k=1)
def RetLit(d:ED)(w:World)(e:Ending)(w':World):Prop:=e=.returned (.tuple #[.agg #[.int .i64 (litI d),.bool (litB d)],.bool d.u])∧Below w.heap.size w w'
theorem below_set2{B0 B:Nat}{w w1:World}(h:Below B0 w w1)(hB:B0≤B)(u v:Value):Below B0 w ((w1.setCell ⟨B,0,none⟩ u).setCell ⟨B,1,none⟩ v):=
 (h.setCell (p:=⟨B,0,none⟩) hB _).setCell (p:=⟨B,1,none⟩) hB _
set_option maxRecDepth 100000 in
set_option maxHeartbeats 1600000 in
theorem plit_aux(w:World){k i:Int}{s:Bool}{a1 a2:Option Addr}{n1 n2 c1 c2:Nat}{l1 l2:List Nat}:
  Calls Tryz.prog 72 #[.agg #[.int .i64 k,.int .i64 i,.bool s,.slice a1 n1 c1,.slice a2 n2 c2]] w (RetLit (⟨k,i,⟨s,a1,n1,c1,l1,a2,n2,c2,l2⟩⟩:ED) w):=by
 have hP:=Pro2.mk' w #[.int .i64 k,.int .i64 i,.bool s,.slice a1 n1 c1,.slice a2 n2 c2] #[.int .i64 0,.bool false] 27 111
 go_enter Tryz.func72, Tryz.ntmps72
 go_upto_region 1 with (fail)
 generalize (w.alloc (.cells #[.int .i64 k,.int .i64 i,.bool s,.slice a1 n1 c1,.slice a2 n2 c2] 27)).alloc (.cells #[.int .i64 0,.bool false] 111)=W at*
 have hpB:=hP.b0
 have hR:=hP.b1
 have hPb:=hP.below
 have HPS:=Lib.hid hP.size
 clear hP
 have k0:=hpB.cell 0
 have k1:=hpB.cell 1
 have k2:=hpB.cell 2
 have k3:=hpB.cell 3
 have k4:=hpB.cell 4
 simp at k0 k1 k2 k3 k4
 have kz:=hpB.lt
 go_wp2_with fail
 refine (unit_aux (l1:=l1) (l2:=l2) W).mono ?_
 rintro e U ⟨rfl,hbU⟩
 have hU:=hPb.trans (hbU.mono (by have:=HPS.out;omega))
 have hB:=hpB.on hbU
 have hR:=hR.on hbU
 clear k0 k1 k2 k3 k4 kz hpB
 have k0:=hB.cell 0
 have k1:=hB.cell 1
 have k2:=hB.cell 2
 have k3:=hB.cell 3
 have k4:=hB.cell 4
 simp at k0 k1 k2 k3 k4
 have kz:=hB.lt
 have r0:=hR.cell 0
 have r1:=hR.cell 1
 simp at r0 r1
 have rz:=hR.lt
 have rf0:=hR.frozen 0
 have rf1:=hR.frozen 1
 by_cases h1:k=1
 ·subst h1
  have hu:(⟨1,i,⟨s,a1,n1,c1,l1,a2,n2,c2,l2⟩⟩:ED).u=true:=rfl
  rw [hu]
  go_wp2_with fail
  exact bodyPost_ret (v:=.tuple #[.agg #[.int .i64 i,.bool true],.bool true]) (by simp [results, Tryz.results72,go_sem, *]) rfl ⟨rfl,below_set2 hU (by omega) _ _⟩
 by_cases h2:k=2
 ·subst h2
  have hu:(⟨2,i,⟨s,a1,n1,c1,l1,a2,n2,c2,l2⟩⟩:ED).u=true:=rfl
  rw [hu]
  go_wp2_with fail
  exact bodyPost_ret (v:=.tuple #[.agg #[.int .i64 i,.bool false],.bool true]) (by simp [results, Tryz.results72,go_sem, *]) rfl ⟨rfl,below_set2 hU (by omega) _ _⟩
 have hu:(⟨k,i,⟨s,a1,n1,c1,l1,a2,n2,c2,l2⟩⟩:ED).u=false:=decide_eq_false (fun h=>h.elim h1 h2)
 have HU:=Lib.hid hu
 rw [hu]
 clear hu
 have m1:(k !=1)=true:=bne_iff_ne.2 h1
 have m2:(k !=2)=true:=bne_iff_ne.2 h2
 have q1:(k==1)=false:=by simp;omega
 have p1:decide (k=1)=false:=by simp;omega
 have q2:(k==2)=false:=by simp;omega
 have p2:decide (k=2)=false:=by simp;omega
 go_wp2_with fail
 exact bodyPost_ret (v:=.tuple #[.agg #[.int .i64 0,.bool false],.bool false]) (by simp [results, Tryz.results72,go_sem, *]) rfl ⟨by unfold litI litB;rw [HU.out];rfl,below_set2 hU (by omega) _ _⟩
theorem lit_c(w:World)(e:ED):Calls Tryz.prog 72 #[.agg #[.int .i64 e.k,.int .i64 e.i,.bool e.c.neg,.slice e.c.a1 e.c.n1 e.c.c1,.slice e.c.a2 e.c.n2 e.c.c2]] w (RetLit e w):=by
 obtain ⟨k,i,s,a1,n1,c1,l1,a2,n2,c2,l2⟩:=e
 exact plit_aux w
end
section
open Go.RowKit
open Go.Maps (Keyed int_keyed)
abbrev OwnB (w:World) (B k:Nat) (D:DataW Unit):Prop:=w.ownsMap Tryz.prog 3 (plainElem Tryz.prog 4) B k D
theorem Tryz.keyI:Keyed Tryz.prog 3:=int_keyed Tryz.underlying3
theorem Tryz.zeroB(w:World):(zeroValue 4).run Tryz.prog w=.ok (.bool false) w:=by kernel_rfl
theorem plainElem_bool_inv{H:Type}{P:Program}{e:TypeId}(he:P.underlying e=some .bool){v:Value}{z:DataW H × List MemPlace}(h:plainElem P e v=some z):∃a,v=.bool a∧z=(.lit (.bool a),[]):=by
 unfold plainElem at h
 rw [he] at h
 cases v <;>simp at h
 subst h
 exact ⟨_,rfl,rfl⟩
theorem look_any{w:World}{B k:Nat}{D:DataW Unit}(h:OwnB w B k D){x:Int}(hx:-9223372036854775808≤x∧x≤9223372036854775807):∃b,(Instr.lookup 166 (.map (some B)) (.int .i64 x) false).run Tryz.prog w=.ok (.bool b) w∧D.atKey (.int .i64 x) (.lit (.bool false))=.lit (.bool b):=by
 obtain ⟨v,ps,hrun,hv⟩:=h.lookup Tryz.keyI Tryz.underlying166 (Tryz.zeroB w) (plainElem_bool Tryz.underlying4 false) (Go.Maps.keyOf_int_mk (q:=.i64) (a:=x) Tryz.underlying3 (WalkArith.wf_i64 (by omega)))
 obtain ⟨b,rfl,hb⟩:=plainElem_bool_inv Tryz.underlying4 hv
 simp only [Prod.mk.injEq] at hb
 exact ⟨b,hrun,hb.1⟩
theorem store_any{w:World}{B k:Nat}{D:DataW Unit}(h:OwnB w B k D)(hk:k<maxLen){x:Int}(hx:-9223372036854775808≤x∧x≤9223372036854775807)(b:Bool):∃w',(Instr.mapUpdate 166 (.map (some B)) (.int .i64 x) (.bool b)).run Tryz.prog w=.ok () w'∧OwnB w' B (k+1) (D.put (.int .i64 x) (.lit (.bool b)))∧w.grownBy w' (some B):=
 h.update Tryz.keyI Tryz.underlying166 hk (Go.Maps.keyOf_int_mk (q:=.i64) (a:=x) Tryz.underlying3 (WalkArith.wf_i64 (by omega))) (plainElem_bool Tryz.underlying4 b)
noncomputable instance (es:List ED) (i:Nat) (x:Int):Decidable (SeenN es i x):=Classical.propDecidable _
structure SeenM (es:List ED) (i:Nat) (D:DataW Unit):Prop where
 map:Go.Maps.IsMap D
 at_:∀x:Int,D.atKey (.int .i64 x) (.lit (.bool false))=.lit (.bool (decide (SeenN es i x)))
theorem look_at{w:World}{B k:Nat}{D:DataW Unit}(h:OwnB w B k D){x:Int}(hx:-9223372036854775808≤x∧x≤9223372036854775807){b:Bool}(hb:D.atKey (.int .i64 x) (.lit (.bool false))=.lit (.bool b)):(Instr.lookup 166 (.map (some B)) (.int .i64 x) false).run Tryz.prog w=.ok (.bool b) w:=by
 obtain ⟨b',h1,h2⟩:=look_any h hx
 rw [hb] at h2
 cases h2
 exact h1
theorem SeenM.start(es:List ED):SeenM es 0 (.map []):=⟨Go.Maps.isMap_empty,fun x=>by
 show DataW.lit (.bool false)=_
 rw [decide_eq_false (seen_zero es x)]⟩
theorem SeenM.step{es:List ED}{i:Nat}{D:DataW Unit}{e:ED}{v:Bool}(h:SeenM es i D)(he:es[i]?=some e)(hv:v=decide (SeenN es (i+1) e.i)):SeenM es (i+1) (D.put (.int .i64 e.i) (.lit (.bool v))):=
 ⟨h.map.put _ _,fun x=>by
  by_cases hx:x=e.i
  ·subst hx
   rw [Go.Maps.atKey_put_same (k:=.int .i64 e.i) h.map True.intro,hv]
  ·rw [Go.Maps.atKey_put_other (fun h9=>hx (by cases h9;rfl)),h.at_ x]
   have e9:decide (SeenN es i x)=decide (SeenN es (i+1) x):=decide_eq_decide.2 ⟨fun h9=>(seen_step he x).2 (Or.inl h9),fun h9=>((seen_step he x).1 h9).resolve_right (fun h8=>hx h8.2.symm)⟩
   rw [e9]⟩
set_option maxRecDepth 100000 in
set_option maxHeartbeats 6400000 in
theorem twice_c(w:World){ad:Option Addr}{n c:Nat}{es:List ED}(h:EsR w ad n c es)(hn:n≤1048576)(hV:∀(i:Nat) (e:ED),es[i]?=some e→-9223372036854775808≤e.i∧e.i≤9223372036854775807):
  Calls Tryz.prog 71 #[.slice ad n c] w (RetB (decide (Tw es)) w):=by
 have HL:=Lib.hid h.len
 have HV:Hid (∀(i:Nat) (e:ED),es[i]?=some e→-9223372036854775808≤e.i∧e.i≤9223372036854775807):=hV
 clear hV
 have hmm:=@run_makeMap Tryz.prog
 go_enter Tryz.func71, Tryz.ntmps71
 go_upto_region 2 with (fail)
 clear hmm
 have hown0:OwnB (w.alloc (.map #[] 0)) w.heap.size 0 (.map []):=World.ownsMap_made w _ _ _
 have hb0:Below w.heap.size w (w.alloc (.map #[] 0)):=(Below.refl _ _).alloc (Nat.le_refl _) _
 generalize w.alloc (.map #[] 0)=W at*
 go_wp2_with fail
 go_loopw [9] (fun s9 wr=>∃i D,i≤n∧s9=.int .i64 (i:Nat)∧OwnB wr w.heap.size i D∧Hid (SeenM es i D)∧Hid (¬TwN es i)∧Below w.heap.size w wr) (fun i _=>n-(intOf i).toNat)
 case atStart=>exact ⟨0,_,by omega,rfl,hown0,SeenM.start es,tw_zero es,hb0⟩
 case round=>
  clear hown0 hb0
  obtain ⟨i,D,hi,rfl,hown,HSM,HT,hb⟩:=hrel
  by_cases hlt:i<n
  ·obtain ⟨b,o,e,rfl,hbl,HE,he,c0,c1,c2,c3,c4⟩:=(h.on hb).at_ (i:=i) hlt
   have hrg:=HV.out i e HE.out
   have lo:decide ((i:Int)<0)=false:=decide_eq_false (by omega)
   have hi':decide ((n:Int)≤(i:Int))=false:=decide_eq_false (by omega)
   go_upto_region 5 with (fail)
   have hQ:=Pro1.mk' wr #[.int .i64 e.k,.int .i64 e.i,.bool e.c.neg,.slice e.c.a1 e.c.n1 e.c.c1,.slice e.c.a2 e.c.n2 e.c.c2] 27
   generalize wr.alloc (.cells #[.int .i64 e.k,.int .i64 e.i,.bool e.c.neg,.slice e.c.a1 e.c.n1 e.c.c1,.slice e.c.a2 e.c.n2 e.c.c2] 27)=X at*
   have hX:=hQ.b0
   have hownX:OwnB X w.heap.size i D:=hown.kept (below_grown hQ.below none) (by simp)
   have hbX:=hb.trans (hQ.below.mono hb.size)
   clear c0 c1 c2 c3 c4 lo hi' hbl he hQ hown hb
   have x0:=hX.cell 0
   have x1:=hX.cell 1
   have x2:=hX.cell 2
   have x3:=hX.cell 3
   have x4:=hX.cell 4
   simp at x0 x1 x2 x3 x4
   have xz:=hX.lt
   go_wp2_with fail
   refine (unit_c X e).mono ?_
   rintro e' U ⟨rfl,hbU'⟩
   have hXU:=hX.on hbU'
   have hownU:OwnB U w.heap.size i D:=hownX.kept (below_grown hbU' none) (by simp)
   have hbU:=hbX.trans (hbU'.mono hbX.size)
   clear x0 x1 x2 x3 x4 xz hX hownX hbX hbU'
   have x0:=hXU.cell 0
   have x1:=hXU.cell 1
   have x2:=hXU.cell 2
   have x3:=hXU.cell 3
   have x4:=hXU.cell 4
   simp at x0 x1 x2 x3 x4
   have xz:=hXU.lt
   obtain ⟨sb,hl,hat⟩:=look_any hownU hrg
   have HSB:Hid (sb=decide (SeenN es i e.i)):=(by have h1:=HSM.out.at_ e.i;rw [hat] at h1;cases h1;rfl:sb=decide (SeenN es i e.i))
   have HAT:=Lib.hid hat
   clear hat
   rcases hue:e.u with _|_
   ·have HUE:=Lib.hid hue
    have HT2:Hid (¬TwN es (i+1)):=(fun h9=>by
     rcases (tw_step HE.out).1 h9 with h8|⟨h8,_⟩
     ·exact HT.out h8
     ·exact (by have:=HUE.out;rw [this] at h8;cases h8):¬TwN es (i+1))
    have HSM2:Hid (SeenM es (i+1) (D.put (.int .i64 e.i) (.lit (.bool sb)))):=HSM.out.step HE.out (by
     rw [HSB.out]
     exact decide_eq_decide.2 ⟨fun h9=>(seen_step HE.out e.i).2 (Or.inl h9),fun h9=>((seen_step HE.out e.i).1 h9).resolve_right (fun h8=>by have:=HUE.out;rw [this] at h8;cases h8.1)⟩)
    clear hue HSB HSM
    rcases sb with _|_
    ·have hld:=look_at hownU.drew hrg HAT.out
     have hU0:Below U.heap.size U U.drew:=Below.drew (Below.refl _ _)
     go_upto_region 7 with (fail)
     refine wp_region_T 11 (fun w'=>w'.cell? ⟨wr.heap.size,0,none⟩=some (.int .i64 e.k)∧w'.cell? ⟨wr.heap.size,1,none⟩=some (.int .i64 e.i)∧w'.cell? ⟨wr.heap.size,2,none⟩=some (.bool e.c.neg)∧w'.cell? ⟨wr.heap.size,3,none⟩=some (.slice e.c.a1 e.c.n1 e.c.c1)∧w'.cell? ⟨wr.heap.size,4,none⟩=some (.slice e.c.a2 e.c.n2 e.c.c2)∧(Instr.lookup 166 (.map (some w.heap.size)) (.int .i64 e.i) false).run Tryz.prog w'=.ok (.bool false) w') (by kernel_rfl) (by (try dsimp only);go_keep) (fun hHeld=>?_)
     refine wpT_take 0 (v:=?_) rfl (by kernel_rfl) (fun _ _ _ h=>h) (by rfl) (by assumption) ?_ ?_
     rotate_left
     ·(intro w9 hS9;(try dsimp only at hS9);go_simp;try with_reducible rfl)
     try simp only [Act.put,List.setIfInBounds_toArray,List.set_cons_zero,List.set_cons_succ]
     refine wpT_take 1 (v:=?_) rfl (by kernel_rfl) (fun _ _ _ h=>h) (by rfl) (by assumption) ?_ ?_
     rotate_left
     ·(intro w9 hS9;(try dsimp only at hS9);go_simp;try with_reducible rfl)
     try simp only [Act.put,List.setIfInBounds_toArray,List.set_cons_zero,List.set_cons_succ]
     refine wpT_take 2 (v:=?_) rfl (by kernel_rfl) (fun _ _ _ h=>h) (by rfl) (by assumption) ?_ ?_
     rotate_left
     ·(intro w9 hS9;(try dsimp only at hS9);go_simp;try with_reducible rfl)
     try simp only [Act.put,List.setIfInBounds_toArray,List.set_cons_zero,List.set_cons_succ]
     refine wpT_take 3 (v:=?_) rfl (by kernel_rfl) (fun _ _ _ h=>h) (by rfl) (by assumption) ?_ ?_
     rotate_left
     ·(intro w9 hS9;(try dsimp only at hS9);go_simp;try with_reducible rfl)
     try simp only [Act.put,List.setIfInBounds_toArray,List.set_cons_zero,List.set_cons_succ]
     refine wpT_take 4 (v:=?_) rfl (by kernel_rfl) (fun _ _ _ h=>h) (by rfl) (by assumption) ?_ ?_
     rotate_left
     ·(intro w9 hS9;(try dsimp only at hS9);go_simp;try with_reducible rfl)
     try simp only [Act.put,List.setIfInBounds_toArray,List.set_cons_zero,List.set_cons_succ]
     refine wpT_take 5 (v:=?_) rfl (by kernel_rfl) (fun _ _ _ h=>h) (by rfl) (by assumption) ?_ ?_
     rotate_left
     ·(intro w9 hS9;(try dsimp only at hS9);go_simp;try with_reducible rfl)
     try simp only [Act.put,List.setIfInBounds_toArray,List.set_cons_zero,List.set_cons_succ]
     refine wpT_take 6 (v:=?_) rfl (by kernel_rfl) (fun _ _ _ h=>h) (by rfl) (by assumption) ?_ ?_
     rotate_left
     ·(intro w9 hS9;(try dsimp only at hS9);go_simp;try with_reducible rfl)
     try simp only [Act.put,List.setIfInBounds_toArray,List.set_cons_zero,List.set_cons_succ]
     refine wpT_take 7 (v:=?_) rfl (by kernel_rfl) (fun _ _ _ h=>h) (by rfl) (by assumption) ?_ ?_
     rotate_left
     ·(intro w9 hS9;(try dsimp only at hS9);go_simp;try with_reducible rfl)
     try simp only [Act.put,List.setIfInBounds_toArray,List.set_cons_zero,List.set_cons_succ]
     refine wpT_take 8 (v:=?_) rfl (by kernel_rfl) (fun _ _ _ h=>h) (by rfl) (by assumption) ?_ ?_
     rotate_left
     ·(intro w9 hS9;(try dsimp only at hS9);go_simp;try with_reducible rfl)
     try simp only [Act.put,List.setIfInBounds_toArray,List.set_cons_zero,List.set_cons_succ]
     refine wpT_only 9 rfl (by kernel_rfl) (fun K hK=>?_)
     go_simp
     go_at_call 70;refine (unit_c _ e).mono ?_;rintro e' w7 ⟨rfl,hb7'⟩;have hb7:Below U.heap.size U w7:=hU0.trans hb7';obtain ⟨hc7,hf7⟩:=bcell hb7;have hown7:OwnB w7 w.heap.size i D:=hownU.kept (below_grown hb7 none) (by simp);have hl7:=look_at hown7 hrg HAT.out;have xz7:=Nat.lt_of_lt_of_le xz hb7.size;obtain ⟨w8,hrun8,hown8,hgrow8⟩:=store_any hown7 (by unfold maxLen;omega) hrg false;rw [HUE.out]
     go_wp2_with fail
     have hOld:=hHeld
     clear hHeld
     refine hK.out _ _ ?_ (fun hHeld=>?_)
     ·(try dsimp only);go_keep
     clear hOld hK K
     try simp only [Act.put,List.setIfInBounds_toArray,List.set_cons_zero,List.set_cons_succ]
     refine wpT_take 10 (v:=?_) rfl (by kernel_rfl) (fun _ _ _ h=>h) (by rfl) (by assumption) ?_ ?_
     rotate_left
     ·(intro w9 hS9;(try dsimp only at hS9);go_simp;try with_reducible rfl)
     try simp only [Act.put,List.setIfInBounds_toArray,List.set_cons_zero,List.set_cons_succ]
     refine wpT_last 11 rfl rfl (by kernel_rfl) (fun K hK=>?_)
     go_simp
     refine hK.out _ _ ?_
     clear hK K
     try simp only [Act.put,List.setIfInBounds_toArray,List.set_cons_zero,List.set_cons_succ]
     refine wpT_done (by kernel_rfl) ?_ _
     have hb8:Below w.heap.size w w8:=Below.grown (hbU.trans (hb7.mono hbU.size)) hgrow8 (Nat.le_of_lt hown7.lt) (fun j hj=>by cases hj;exact Nat.le_refl _)
     go_wp2_with fail
     go_roundw
     case rel=>exact ⟨i+1,_,by omega,by go_num,hown8,HSM2,HT2,hb8⟩
     case measure=>simp [intOf];omega
    ·obtain ⟨w8,hrun8,hown8,hgrow8⟩:=store_any hownU.drew (by unfold maxLen;omega) hrg true
     have hld:=look_at hownU.drew hrg HAT.out
     have hU0:Below U.heap.size U U.drew:=Below.drew (Below.refl _ _)
     go_upto_region 7 with (fail)
     refine wp_region_T 11 (fun w'=>w'.cell? ⟨wr.heap.size,0,none⟩=some (.int .i64 e.k)∧w'.cell? ⟨wr.heap.size,1,none⟩=some (.int .i64 e.i)∧w'.cell? ⟨wr.heap.size,2,none⟩=some (.bool e.c.neg)∧w'.cell? ⟨wr.heap.size,3,none⟩=some (.slice e.c.a1 e.c.n1 e.c.c1)∧w'.cell? ⟨wr.heap.size,4,none⟩=some (.slice e.c.a2 e.c.n2 e.c.c2)∧(Instr.lookup 166 (.map (some w.heap.size)) (.int .i64 e.i) false).run Tryz.prog w'=.ok (.bool true) w') (by kernel_rfl) (by (try dsimp only);go_keep) (fun hHeld=>?_)
     refine wpT_take 0 (v:=?_) rfl (by kernel_rfl) (fun _ _ _ h=>h) (by rfl) (by assumption) ?_ ?_
     rotate_left
     ·(intro w9 hS9;(try dsimp only at hS9);go_simp;try with_reducible rfl)
     try simp only [Act.put,List.setIfInBounds_toArray,List.set_cons_zero,List.set_cons_succ]
     refine wpT_take 1 (v:=?_) rfl (by kernel_rfl) (fun _ _ _ h=>h) (by rfl) (by assumption) ?_ ?_
     rotate_left
     ·(intro w9 hS9;(try dsimp only at hS9);go_simp;try with_reducible rfl)
     try simp only [Act.put,List.setIfInBounds_toArray,List.set_cons_zero,List.set_cons_succ]
     refine wpT_take 2 (v:=?_) rfl (by kernel_rfl) (fun _ _ _ h=>h) (by rfl) (by assumption) ?_ ?_
     rotate_left
     ·(intro w9 hS9;(try dsimp only at hS9);go_simp;try with_reducible rfl)
     try simp only [Act.put,List.setIfInBounds_toArray,List.set_cons_zero,List.set_cons_succ]
     refine wpT_take 3 (v:=?_) rfl (by kernel_rfl) (fun _ _ _ h=>h) (by rfl) (by assumption) ?_ ?_
     rotate_left
     ·(intro w9 hS9;(try dsimp only at hS9);go_simp;try with_reducible rfl)
     try simp only [Act.put,List.setIfInBounds_toArray,List.set_cons_zero,List.set_cons_succ]
     refine wpT_take 4 (v:=?_) rfl (by kernel_rfl) (fun _ _ _ h=>h) (by rfl) (by assumption) ?_ ?_
     rotate_left
     ·(intro w9 hS9;(try dsimp only at hS9);go_simp;try with_reducible rfl)
     try simp only [Act.put,List.setIfInBounds_toArray,List.set_cons_zero,List.set_cons_succ]
     refine wpT_take 5 (v:=?_) rfl (by kernel_rfl) (fun _ _ _ h=>h) (by rfl) (by assumption) ?_ ?_
     rotate_left
     ·(intro w9 hS9;(try dsimp only at hS9);go_simp;try with_reducible rfl)
     try simp only [Act.put,List.setIfInBounds_toArray,List.set_cons_zero,List.set_cons_succ]
     refine wpT_take 6 (v:=?_) rfl (by kernel_rfl) (fun _ _ _ h=>h) (by rfl) (by assumption) ?_ ?_
     rotate_left
     ·(intro w9 hS9;(try dsimp only at hS9);go_simp;try with_reducible rfl)
     try simp only [Act.put,List.setIfInBounds_toArray,List.set_cons_zero,List.set_cons_succ]
     refine wpT_take 7 (v:=?_) rfl (by kernel_rfl) (fun _ _ _ h=>h) (by rfl) (by assumption) ?_ ?_
     rotate_left
     ·(intro w9 hS9;(try dsimp only at hS9);go_simp;try with_reducible rfl)
     try simp only [Act.put,List.setIfInBounds_toArray,List.set_cons_zero,List.set_cons_succ]
     refine wpT_skip 8 rfl (by kernel_rfl) (fun _ _ _ h=>h) (by rfl) (by assumption) ?_
     try simp only [Act.put,List.setIfInBounds_toArray,List.set_cons_zero,List.set_cons_succ]
     refine wpT_skip 9 rfl (by kernel_rfl) (fun _ _ _ h=>h) (by rfl) (by assumption) ?_
     try simp only [Act.put,List.setIfInBounds_toArray,List.set_cons_zero,List.set_cons_succ]
     refine wpT_take 10 (v:=?_) rfl (by kernel_rfl) (fun _ _ _ h=>h) (by rfl) (by assumption) ?_ ?_
     rotate_left
     ·(intro w9 hS9;(try dsimp only at hS9);go_simp;try with_reducible rfl)
     try simp only [Act.put,List.setIfInBounds_toArray,List.set_cons_zero,List.set_cons_succ]
     refine wpT_last 11 rfl rfl (by kernel_rfl) (fun K hK=>?_)
     go_simp
     refine hK.out _ _ ?_
     clear hK K
     try simp only [Act.put,List.setIfInBounds_toArray,List.set_cons_zero,List.set_cons_succ]
     refine wpT_done (by kernel_rfl) ?_ _
     have hb8:Below w.heap.size w w8:=Below.grown (Below.drewN hbU 1) hgrow8 (Nat.le_of_lt hownU.lt) (fun j hj=>by cases hj;exact Nat.le_refl _)
     go_wp2_with fail
     go_roundw
     case rel=>exact ⟨i+1,_,by omega,by go_num,hown8,HSM2,HT2,hb8⟩
     case measure=>simp [intOf];omega
   ·have HUE:=Lib.hid hue
    clear hue
    rcases sb with _|_
    ·have hns:¬SeenN es i e.i:=fun h9=>by have h1:=HSB.out;rw [decide_eq_true h9] at h1;cases h1
     have HT2:Hid (¬TwN es (i+1)):=(fun h9=>by
      rcases (tw_step HE.out).1 h9 with h8|⟨_,h8⟩
      ·exact HT.out h8
      ·exact hns h8:¬TwN es (i+1))
     have HSM2:Hid (SeenM es (i+1) (D.put (.int .i64 e.i) (.lit (.bool true)))):=HSM.out.step HE.out (decide_eq_true ((seen_step HE.out e.i).2 (Or.inr ⟨HUE.out,rfl⟩))).symm
     clear hns HSB HSM
     have hld:=look_at hownU.drew hrg HAT.out
     have hU0:Below U.heap.size U U.drew:=Below.drew (Below.refl _ _)
     go_upto_region 7 with (fail)
     refine wp_region_T 11 (fun w'=>w'.cell? ⟨wr.heap.size,0,none⟩=some (.int .i64 e.k)∧w'.cell? ⟨wr.heap.size,1,none⟩=some (.int .i64 e.i)∧w'.cell? ⟨wr.heap.size,2,none⟩=some (.bool e.c.neg)∧w'.cell? ⟨wr.heap.size,3,none⟩=some (.slice e.c.a1 e.c.n1 e.c.c1)∧w'.cell? ⟨wr.heap.size,4,none⟩=some (.slice e.c.a2 e.c.n2 e.c.c2)∧(Instr.lookup 166 (.map (some w.heap.size)) (.int .i64 e.i) false).run Tryz.prog w'=.ok (.bool false) w') (by kernel_rfl) (by (try dsimp only);go_keep) (fun hHeld=>?_)
     refine wpT_take 0 (v:=?_) rfl (by kernel_rfl) (fun _ _ _ h=>h) (by rfl) (by assumption) ?_ ?_
     rotate_left
     ·(intro w9 hS9;(try dsimp only at hS9);go_simp;try with_reducible rfl)
     try simp only [Act.put,List.setIfInBounds_toArray,List.set_cons_zero,List.set_cons_succ]
     refine wpT_take 1 (v:=?_) rfl (by kernel_rfl) (fun _ _ _ h=>h) (by rfl) (by assumption) ?_ ?_
     rotate_left
     ·(intro w9 hS9;(try dsimp only at hS9);go_simp;try with_reducible rfl)
     try simp only [Act.put,List.setIfInBounds_toArray,List.set_cons_zero,List.set_cons_succ]
     refine wpT_take 2 (v:=?_) rfl (by kernel_rfl) (fun _ _ _ h=>h) (by rfl) (by assumption) ?_ ?_
     rotate_left
     ·(intro w9 hS9;(try dsimp only at hS9);go_simp;try with_reducible rfl)
     try simp only [Act.put,List.setIfInBounds_toArray,List.set_cons_zero,List.set_cons_succ]
     refine wpT_take 3 (v:=?_) rfl (by kernel_rfl) (fun _ _ _ h=>h) (by rfl) (by assumption) ?_ ?_
     rotate_left
     ·(intro w9 hS9;(try dsimp only at hS9);go_simp;try with_reducible rfl)
     try simp only [Act.put,List.setIfInBounds_toArray,List.set_cons_zero,List.set_cons_succ]
     refine wpT_take 4 (v:=?_) rfl (by kernel_rfl) (fun _ _ _ h=>h) (by rfl) (by assumption) ?_ ?_
     rotate_left
     ·(intro w9 hS9;(try dsimp only at hS9);go_simp;try with_reducible rfl)
     try simp only [Act.put,List.setIfInBounds_toArray,List.set_cons_zero,List.set_cons_succ]
     refine wpT_take 5 (v:=?_) rfl (by kernel_rfl) (fun _ _ _ h=>h) (by rfl) (by assumption) ?_ ?_
     rotate_left
     ·(intro w9 hS9;(try dsimp only at hS9);go_simp;try with_reducible rfl)
     try simp only [Act.put,List.setIfInBounds_toArray,List.set_cons_zero,List.set_cons_succ]
     refine wpT_take 6 (v:=?_) rfl (by kernel_rfl) (fun _ _ _ h=>h) (by rfl) (by assumption) ?_ ?_
     rotate_left
     ·(intro w9 hS9;(try dsimp only at hS9);go_simp;try with_reducible rfl)
     try simp only [Act.put,List.setIfInBounds_toArray,List.set_cons_zero,List.set_cons_succ]
     refine wpT_take 7 (v:=?_) rfl (by kernel_rfl) (fun _ _ _ h=>h) (by rfl) (by assumption) ?_ ?_
     rotate_left
     ·(intro w9 hS9;(try dsimp only at hS9);go_simp;try with_reducible rfl)
     try simp only [Act.put,List.setIfInBounds_toArray,List.set_cons_zero,List.set_cons_succ]
     refine wpT_take 8 (v:=?_) rfl (by kernel_rfl) (fun _ _ _ h=>h) (by rfl) (by assumption) ?_ ?_
     rotate_left
     ·(intro w9 hS9;(try dsimp only at hS9);go_simp;try with_reducible rfl)
     try simp only [Act.put,List.setIfInBounds_toArray,List.set_cons_zero,List.set_cons_succ]
     refine wpT_only 9 rfl (by kernel_rfl) (fun K hK=>?_)
     go_simp
     go_at_call 70;refine (unit_c _ e).mono ?_;rintro e' w7 ⟨rfl,hb7'⟩;have hb7:Below U.heap.size U w7:=hU0.trans hb7';obtain ⟨hc7,hf7⟩:=bcell hb7;have hown7:OwnB w7 w.heap.size i D:=hownU.kept (below_grown hb7 none) (by simp);have hl7:=look_at hown7 hrg HAT.out;have xz7:=Nat.lt_of_lt_of_le xz hb7.size;obtain ⟨w8,hrun8,hown8,hgrow8⟩:=store_any hown7 (by unfold maxLen;omega) hrg true;rw [HUE.out]
     go_wp2_with fail
     have hOld:=hHeld
     clear hHeld
     refine hK.out _ _ ?_ (fun hHeld=>?_)
     ·(try dsimp only);go_keep
     clear hOld hK K
     try simp only [Act.put,List.setIfInBounds_toArray,List.set_cons_zero,List.set_cons_succ]
     refine wpT_take 10 (v:=?_) rfl (by kernel_rfl) (fun _ _ _ h=>h) (by rfl) (by assumption) ?_ ?_
     rotate_left
     ·(intro w9 hS9;(try dsimp only at hS9);go_simp;try with_reducible rfl)
     try simp only [Act.put,List.setIfInBounds_toArray,List.set_cons_zero,List.set_cons_succ]
     refine wpT_last 11 rfl rfl (by kernel_rfl) (fun K hK=>?_)
     go_simp
     refine hK.out _ _ ?_
     clear hK K
     try simp only [Act.put,List.setIfInBounds_toArray,List.set_cons_zero,List.set_cons_succ]
     refine wpT_done (by kernel_rfl) ?_ _
     have hb8:Below w.heap.size w w8:=Below.grown (hbU.trans (hb7.mono hbU.size)) hgrow8 (Nat.le_of_lt hown7.lt) (fun j hj=>by cases hj;exact Nat.le_refl _)
     go_wp2_with fail
     go_roundw
     case rel=>exact ⟨i+1,_,by omega,by go_num,hown8,HSM2,HT2,hb8⟩
     case measure=>simp [intOf];omega
    ·have HR:Hid (decide (Tw es)=true):=(decide_eq_true (tw_mono (m:=es.length) (n:=i+1) ((tw_step HE.out).2 (Or.inr ⟨HUE.out,of_decide_eq_true HSB.out.symm⟩)) (by have:=HL.out;omega)):decide (Tw es)=true)
     go_wp2_with fail
     go_ret
     exact ⟨by rw [HR.out];rfl,hbU⟩
  ·have HR:Hid (decide (Tw es)=false):=(decide_eq_false (fun h9=>HT.out (tw_mono (n:=es.length) h9 (by have:=HL.out;omega))):decide (Tw es)=false)
   go_wp2_with fail
   go_ret
   exact ⟨by rw [HR.out];rfl,hb⟩
end
end Go.Proofs.YtnegdhjdienjlaaGreatDoor
