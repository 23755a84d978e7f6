import Derived.Test.YtnegdhjdienjlaaGreatDoorGQ6
import Derived.Test.YtnegdhjdienjlaaGreatDoorGQ10
set_option linter.all false
namespace Go.Proofs.YtnegdhjdienjlaaGreatDoor
section
open Go.RowKit
def plusV:Bool→List (Int × Rat)→Int→Rat→List (Int × Rat)
 | d,[],v,c=>if d then [] else put1 v c
 | d,t::F,v,c=>if t.1=v then put1 t.1 (t.2+c)++plusV true F v c else if d=false∧v<t.1 then put1 v c++(put1 t.1 t.2++plusV true F v c) else put1 t.1 t.2++plusV d F v c
def TmB(m:Nat)(F:List (Int × Rat)):Prop:=∀t∈F,t.2≠0∧H t.2≤m
theorem TmB.mono{m n:Nat}{F:List (Int × Rat)}(h:TmB m F)(hn:m≤n):TmB n F:=fun t ht=>⟨(h t ht).1,Nat.le_trans (h t ht).2 hn⟩
theorem TmB.app{m:Nat}{F G:List (Int × Rat)}(h:TmB m F)(h2:TmB m G):TmB m (F++G):=fun t ht=>(List.mem_append.1 ht).elim (h t) (h2 t)
theorem TmB.put{m:Nat}{q:Rat}(v:Int)(h:H q≤m):TmB m (put1 v q):=fun t ht=>by
 unfold put1 at ht
 split at ht
 ·cases ht
 ·rename_i h0
  cases List.mem_singleton.1 ht
  exact ⟨h0,h⟩
theorem TmB.plus{m b:Nat}{v:Int}{c:Rat}(hc:H c≤b):∀{d:Bool} {F:List (Int × Rat)},TmB m F→TmB (m+b+1) (plusV d F v c)
 | true,[],_=>fun t ht=>by simp [plusV] at ht
 | false,[],_=>by
   have e:plusV false [] v c=put1 v c:=by simp [plusV]
   rw [e]
   exact TmB.put v (by omega)
 | d,t::F,h=>by
   have ht:=(h t List.mem_cons_self).2
   have hF:TmB m F:=fun t ht=>h t (List.mem_cons_of_mem _ ht)
   have ha:=H_add t.2 c
   rw [plusV]
   split
   ·exact (TmB.put _ (by omega)).app (TmB.plus hc hF)
   ·split
    ·exact (TmB.put _ (by omega)).app ((TmB.put _ (by omega)).app (TmB.plus hc hF))
    ·exact (TmB.put _ (by omega)).app (TmB.plus hc hF)
end
end Go.Proofs.YtnegdhjdienjlaaGreatDoor
