import Derived.Test.YtdaonnnlgfhlaaaGreatDoorGH6
import Derived.Test.YtdaonnnlgfhlaaaGreatDoorGH7
set_option linter.all false
namespace Go.Proofs.YtdaonnnlgfhlaaaGreatDoor
open Go.RowKit
def Z4:Bool→List (Int × Rat)→Int→Rat→List (Int × Rat)
 | d,[],v,c=>if d then [] else Ya v c
 | d,t::F,v,c=>if t.1=v then Ya t.1 (t.2+c)++Z4 true F v c else if d=false∧v<t.1 then Ya v c++(Ya t.1 t.2++Z4 true F v c) else Ya t.1 t.2++Z4 d F v c
theorem Zhi{d:Bool}{t:Int × Rat}{F:List (Int × Rat)}{v:Int}{c:Rat}(h:t.1=v):Z4 d (t::F) v c=Ya t.1 (t.2+c)++Z4 true F v c:=by rw [Z4,if_pos h]
theorem Zgg{t:Int × Rat}{F:List (Int × Rat)}{v:Int}{c:Rat}(h:v<t.1):Z4 false (t::F) v c=Ya v c++(Ya t.1 t.2++Z4 true F v c):=by rw [Z4,if_neg (by omega),if_pos ⟨rfl,h⟩]
theorem Zdn{d:Bool}{t:Int × Rat}{F:List (Int × Rat)}{v:Int}{c:Rat}(h:t.1≠v)(h2:d=true∨t.1<v):Z4 d (t::F) v c=Ya t.1 t.2++Z4 d F v c:=by
 rw [Z4,if_neg h,if_neg (fun h9=>by rcases h2 with h2|h2;rw [h2] at h9;exact absurd h9.1 (by simp);omega)]
theorem Y6(v:Int)(q:Rat):(Ya v q).length≤1:=by unfold Ya;split <;>simp
def Wp(F G:List (Int × Rat)):List (Int × Rat):=G.foldl (fun l t=>Z4 false l t.1 t.2) F
theorem KK:∀(F:List (Int × Rat)) (v:Int) (q:Rat),(Z4 true F v q).length≤F.length
 | [],v,q=>by simp [Z4]
 | t::F,v,q=>by
   have h1:=KK F v q
   have h3:=Y6 t.1 (t.2+q)
   have h4:=Y6 t.1 t.2
   rw [Z4]
   split
   ·rw [List.length_append,List.length_cons];omega
   ·split
    ·rename_i h7;exact absurd h7.1 (by simp)
    ·rw [List.length_append,List.length_cons];omega
theorem Uj:∀(d:Bool) (F:List (Int × Rat)) (v:Int) (q:Rat),(Z4 d F v q).length≤F.length+1
 | d,[],v,q=>by rw [Z4];split;simp;exact Nat.le_trans (Y6 v q) (by simp)
 | d,t::F,v,q=>by
   have h1:=Uj true F v q
   have h2:=Uj d F v q
   have h3:=Y6 t.1 (t.2+q)
   have h4:=Y6 t.1 t.2
   have h5:=Y6 v q
   have h6:d=false∧v<t.1→(Z4 true F v q).length≤F.length:=fun _=>KK F v q
   rw [Z4]
   split
   ·rw [List.length_append,List.length_cons];omega
   ·split
    ·rename_i h7;have:=h6 h7;rw [List.length_append,List.length_append,List.length_cons];omega
    ·rw [List.length_append,List.length_cons];omega
theorem ZaR{v:Int}{q:Rat}{x:Int × Rat}(h:x∈Ya v q):x=(v,q)∧q≠0:=by
 unfold Ya at h
 split at h
 ·cases h
 ·rename_i h0;simp at h;exact ⟨h,h0⟩
def plO:Bool→List (Int × Rat)→Int→Rat→List (Int × Rat)
 | _,[],_,_=>[]
 | d,t::F,v,c=>if t.1=v then Ya t.1 (t.2+c)++plO true F v c else if d=false∧v<t.1 then Ya v c++(Ya t.1 t.2++plO true F v c) else Ya t.1 t.2++plO d F v c
def plD:Bool→List (Int × Rat)→Int→Bool
 | d,[],_=>d
 | d,t::F,v=>if t.1=v then plD true F v else if d=false∧v<t.1 then plD true F v else plD d F v
theorem Jk:∀(d:Bool) (F:List (Int × Rat)) (v:Int) (c:Rat),Z4 d F v c=plO d F v c++if plD d F v then [] else Ya v c
 | d,[],v,c=>by cases d <;>simp [Z4,plO,plD]
 | d,t::F,v,c=>by
   rw [Z4,plO,plD]
   split
   ·rw [Jk true F v c,List.append_assoc]
   ·split
    ·rw [Jk true F v c];simp [List.append_assoc]
    ·rw [Jk d F v c,List.append_assoc]
theorem ZfV(v:Int)(c:Rat):∀(d:Bool) (R:List (Int × Rat)),(plO d R v c).length≤2*R.length
 | d,[]=>by simp [plO]
 | d,t::R=>by
   have h1:=Y6 v c
   have h2:=Y6 t.1 t.2
   have h3:=Y6 t.1 (t.2+c)
   have h4:=ZfV v c true R
   have h5:=ZfV v c d R
   rw [plO]
   split
   ·rw [List.length_append,List.length_cons];omega
   ·split
    ·rw [List.length_append,List.length_append,List.length_cons];omega
    ·rw [List.length_append,List.length_cons];omega
def TmB(m:Nat)(F:List (Int × Rat)):Prop:=∀t∈F,t.2≠0∧H t.2≤m
theorem TmB.mono{m n:Nat}{F:List (Int × Rat)}(h:TmB m F)(hn:m≤n):TmB n F:=fun t ht=>⟨(h t ht).1,Nat.le_trans (h t ht).2 hn⟩
theorem TmB.app{m:Nat}{F G:List (Int × Rat)}(h:TmB m F)(h2:TmB m G):TmB m (F++G):=fun t ht=>(List.mem_append.1 ht).elim (h t) (h2 t)
theorem TmB.put{m:Nat}{q:Rat}(v:Int)(h:H q≤m):TmB m (Ya v q):=fun t ht=>by
 unfold Ya at ht
 split at ht
 ·cases ht
 ·rename_i h0
  cases List.mem_singleton.1 ht
  exact ⟨h0,h⟩
theorem TmB.plus{m b:Nat}{v:Int}{c:Rat}(hc:H c≤b):∀{d:Bool} {F:List (Int × Rat)},TmB m F→TmB (m+b+1) (Z4 d F v c)
 | true,[],_=>fun t ht=>by simp [Z4] at ht
 | false,[],_=>by
   have e:Z4 false [] v c=Ya v c:=by simp [Z4]
   rw [e]
   exact TmB.put v (by omega)
 | d,t::F,h=>by
   have ht:=(h t List.mem_cons_self).2
   have hF:TmB m F:=fun t ht=>h t (List.mem_cons_of_mem _ ht)
   have ha:=Zek t.2 c
   rw [Z4]
   split
   ·exact (TmB.put _ (by omega)).app (TmB.plus hc hF)
   ·split
    ·exact (TmB.put _ (by omega)).app ((TmB.put _ (by omega)).app (TmB.plus hc hF))
    ·exact (TmB.put _ (by omega)).app (TmB.plus hc hF)
def Yh(F:List (Int × Rat))(c:Rat):List (Int × Rat):=F.flatMap fun t=>Ya t.1 (t.2*c)
theorem Zgc(c:Rat):∀F:List (Int × Rat),(Yh F c).length≤F.length
 | []=>by simp [Yh]
 | t::F=>by
   have h1:=Zgc c F
   have h2:=Y6 t.1 (t.2*c)
   have e:Yh (t::F) c=Ya t.1 (t.2*c)++Yh F c:=rfl
   rw [e,List.length_append,List.length_cons]
   omega
end Go.Proofs.YtdaonnnlgfhlaaaGreatDoor
