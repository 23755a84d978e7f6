import Derived.Test.YtefdjbknmfeooaaGreatDoorGO6
import Derived.Test.YtefdjbknmfeooaaGreatDoorGO7
set_option linter.all false
namespace Go.Proofs.YtefdjbknmfeooaaGreatDoor
open Go.RowKit
def plusV:Bool→List (Int × Rat)→Int→Rat→List (Int × Rat)
 | d,[],v,c=>if d then [] else put1 v c
 | d,t::F,v,c=>if t.1=v then put1 t.1 (t.2+c)++plusV true F v c else if d=false∧v<t.1 then put1 v c++(put1 t.1 t.2++plusV true F v c) else put1 t.1 t.2++plusV d F v c
theorem plusV_eq{d:Bool}{t:Int × Rat}{F:List (Int × Rat)}{v:Int}{c:Rat}(h:t.1=v):plusV d (t::F) v c=put1 t.1 (t.2+c)++plusV true F v c:=by rw [plusV,if_pos h]
theorem plusV_gt{t:Int × Rat}{F:List (Int × Rat)}{v:Int}{c:Rat}(h:v<t.1):plusV false (t::F) v c=put1 v c++(put1 t.1 t.2++plusV true F v c):=by rw [plusV,if_neg (by omega),if_pos ⟨rfl,h⟩]
theorem plusV_lt{d:Bool}{t:Int × Rat}{F:List (Int × Rat)}{v:Int}{c:Rat}(h:t.1≠v)(h2:d=true∨t.1<v):plusV d (t::F) v c=put1 t.1 t.2++plusV d F v c:=by
 rw [plusV,if_neg h,if_neg (fun h9=>by rcases h2 with h2|h2;rw [h2] at h9;exact absurd h9.1 (by simp);omega)]
theorem put1_len(v:Int)(q:Rat):(put1 v q).length≤1:=by unfold put1;split <;>simp
def addV(F G:List (Int × Rat)):List (Int × Rat):=G.foldl (fun l t=>plusV false l t.1 t.2) F
theorem plusV_true_len:∀(F:List (Int × Rat)) (v:Int) (q:Rat),(plusV true F v q).length≤F.length
 | [],v,q=>by simp [plusV]
 | t::F,v,q=>by
   have h1:=plusV_true_len F v q
   have h3:=put1_len t.1 (t.2+q)
   have h4:=put1_len t.1 t.2
   rw [plusV]
   split
   ·rw [List.length_append,List.length_cons];omega
   ·split
    ·rename_i h7;exact absurd h7.1 (by simp)
    ·rw [List.length_append,List.length_cons];omega
theorem plusV_len:∀(d:Bool) (F:List (Int × Rat)) (v:Int) (q:Rat),(plusV d F v q).length≤F.length+1
 | d,[],v,q=>by rw [plusV];split;simp;exact Nat.le_trans (put1_len v q) (by simp)
 | d,t::F,v,q=>by
   have h1:=plusV_len true F v q
   have h2:=plusV_len d F v q
   have h3:=put1_len t.1 (t.2+q)
   have h4:=put1_len t.1 t.2
   have h5:=put1_len v q
   have h6:d=false∧v<t.1→(plusV true F v q).length≤F.length:=fun _=>plusV_true_len F v q
   rw [plusV]
   split
   ·rw [List.length_append,List.length_cons];omega
   ·split
    ·rename_i h7;have:=h6 h7;rw [List.length_append,List.length_append,List.length_cons];omega
    ·rw [List.length_append,List.length_cons];omega
theorem put1_mem{v:Int}{q:Rat}{x:Int × Rat}(h:x∈put1 v q):x=(v,q)∧q≠0:=by
 unfold put1 at h
 split at h
 ·cases h
 ·rename_i h0;simp at h;exact ⟨h,h0⟩
def plO:Bool→List (Int × Rat)→Int→Rat→List (Int × Rat)
 | _,[],_,_=>[]
 | d,t::F,v,c=>if t.1=v then put1 t.1 (t.2+c)++plO true F v c else if d=false∧v<t.1 then put1 v c++(put1 t.1 t.2++plO true F v c) else put1 t.1 t.2++plO d F v c
def plD:Bool→List (Int × Rat)→Int→Bool
 | d,[],_=>d
 | d,t::F,v=>if t.1=v then plD true F v else if d=false∧v<t.1 then plD true F v else plD d F v
theorem plusV_plO:∀(d:Bool) (F:List (Int × Rat)) (v:Int) (c:Rat),plusV d F v c=plO d F v c++if plD d F v then [] else put1 v c
 | d,[],v,c=>by cases d <;>simp [plusV,plO,plD]
 | d,t::F,v,c=>by
   rw [plusV,plO,plD]
   split
   ·rw [plusV_plO true F v c,List.append_assoc]
   ·split
    ·rw [plusV_plO true F v c];simp [List.append_assoc]
    ·rw [plusV_plO d F v c,List.append_assoc]
theorem plO_len(v:Int)(c:Rat):∀(d:Bool) (R:List (Int × Rat)),(plO d R v c).length≤2*R.length
 | d,[]=>by simp [plO]
 | d,t::R=>by
   have h1:=put1_len v c
   have h2:=put1_len t.1 t.2
   have h3:=put1_len t.1 (t.2+c)
   have h4:=plO_len v c true R
   have h5:=plO_len v c d R
   rw [plO]
   split
   ·rw [List.length_append,List.length_cons];omega
   ·split
    ·rw [List.length_append,List.length_append,List.length_cons];omega
    ·rw [List.length_append,List.length_cons];omega
def TmB(m:Nat)(F:List (Int × Rat)):Prop:=∀t∈F,t.2≠0∧H t.2≤m
theorem TmB.mono{m n:Nat}{F:List (Int × Rat)}(h:TmB m F)(hn:m≤n):TmB n F:=fun t ht=>⟨(h t ht).1,Nat.le_trans (h t ht).2 hn⟩
theorem TmB.app{m:Nat}{F G:List (Int × Rat)}(h:TmB m F)(h2:TmB m G):TmB m (F++G):=fun t ht=>(List.mem_append.1 ht).elim (h t) (h2 t)
theorem TmB.put{m:Nat}{q:Rat}(v:Int)(h:H q≤m):TmB m (put1 v q):=fun t ht=>by
 unfold put1 at ht
 split at ht
 ·cases ht
 ·rename_i h0
  cases List.mem_singleton.1 ht
  exact ⟨h0,h⟩
theorem TmB.plus{m b:Nat}{v:Int}{c:Rat}(hc:H c≤b):∀{d:Bool} {F:List (Int × Rat)},TmB m F→TmB (m+b+1) (plusV d F v c)
 | true,[],_=>fun t ht=>by simp [plusV] at ht
 | false,[],_=>by
   have e:plusV false [] v c=put1 v c:=by simp [plusV]
   rw [e]
   exact TmB.put v (by omega)
 | d,t::F,h=>by
   have ht:=(h t List.mem_cons_self).2
   have hF:TmB m F:=fun t ht=>h t (List.mem_cons_of_mem _ ht)
   have ha:=H_add t.2 c
   rw [plusV]
   split
   ·exact (TmB.put _ (by omega)).app (TmB.plus hc hF)
   ·split
    ·exact (TmB.put _ (by omega)).app ((TmB.put _ (by omega)).app (TmB.plus hc hF))
    ·exact (TmB.put _ (by omega)).app (TmB.plus hc hF)
def sclV(F:List (Int × Rat))(c:Rat):List (Int × Rat):=F.flatMap fun t=>put1 t.1 (t.2*c)
theorem sclV_len(c:Rat):∀F:List (Int × Rat),(sclV F c).length≤F.length
 | []=>by simp [sclV]
 | t::F=>by
   have h1:=sclV_len c F
   have h2:=put1_len t.1 (t.2*c)
   have e:sclV (t::F) c=put1 t.1 (t.2*c)++sclV F c:=rfl
   rw [e,List.length_append,List.length_cons]
   omega
end Go.Proofs.YtefdjbknmfeooaaGreatDoor
