import Derived.Test.YtdaonnnlgfhlaaaGreatDoorGF6
import Derived.Test.YtdaonnnlgfhlaaaGreatDoorGF7
set_option linter.all false
namespace Go.Proofs.YtdaonnnlgfhlaaaGreatDoor
section
open Go.RowKit
def ZZ:Bool→List (Int × Rat)→Int→Rat→List (Int × Rat)
 | d,[],v,c=>if d then [] else Z4 v c
 | d,t::F,v,c=>if t.1=v then Z4 t.1 (t.2+c)++ZZ true F v c else if d=false∧v<t.1 then Z4 v c++(Z4 t.1 t.2++ZZ true F v c) else Z4 t.1 t.2++ZZ d F v c
theorem Zg9{d:Bool}{t:Int × Rat}{F:List (Int × Rat)}{v:Int}{c:Rat}(h:t.1=v):ZZ d (t::F) v c=Z4 t.1 (t.2+c)++ZZ true F v c:=by rw [ZZ,if_pos h]
theorem Zg1{t:Int × Rat}{F:List (Int × Rat)}{v:Int}{c:Rat}(h:v<t.1):ZZ false (t::F) v c=Z4 v c++(Z4 t.1 t.2++ZZ true F v c):=by rw [ZZ,if_neg (by omega),if_pos ⟨rfl,h⟩]
theorem Zdl{d:Bool}{t:Int × Rat}{F:List (Int × Rat)}{v:Int}{c:Rat}(h:t.1≠v)(h2:d=true∨t.1<v):ZZ d (t::F) v c=Z4 t.1 t.2++ZZ d F v c:=by
 rw [ZZ,if_neg h,if_neg (fun h9=>by rcases h2 with h2|h2;rw [h2] at h9;exact absurd h9.1 (by simp);omega)]
theorem YT(v:Int)(q:Rat):(Z4 v q).length≤1:=by unfold Z4;split <;>simp
def X7(F G:List (Int × Rat)):List (Int × Rat):=G.foldl (fun l t=>ZZ false l t.1 t.2) F
theorem Kd:∀(F:List (Int × Rat)) (v:Int) (q:Rat),(ZZ true F v q).length≤F.length
 | [],v,q=>by simp [ZZ]
 | t::F,v,q=>by
   have h1:=Kd F v q
   have h3:=YT t.1 (t.2+q)
   have h4:=YT t.1 t.2
   rw [ZZ]
   split
   ·rw [List.length_append,List.length_cons];omega
   ·split
    ·rename_i h7;exact absurd h7.1 (by simp)
    ·rw [List.length_append,List.length_cons];omega
theorem Uj:∀(d:Bool) (F:List (Int × Rat)) (v:Int) (q:Rat),(ZZ d F v q).length≤F.length+1
 | d,[],v,q=>by rw [ZZ];split;simp;exact Nat.le_trans (YT v q) (by simp)
 | d,t::F,v,q=>by
   have h1:=Uj true F v q
   have h2:=Uj d F v q
   have h3:=YT t.1 (t.2+q)
   have h4:=YT t.1 t.2
   have h5:=YT v q
   have h6:d=false∧v<t.1→(ZZ true F v q).length≤F.length:=fun _=>Kd F v q
   rw [ZZ]
   split
   ·rw [List.length_append,List.length_cons];omega
   ·split
    ·rename_i h7;have:=h6 h7;rw [List.length_append,List.length_append,List.length_cons];omega
    ·rw [List.length_append,List.length_cons];omega
theorem Zaq{v:Int}{q:Rat}{x:Int × Rat}(h:x∈Z4 v q):x=(v,q)∧q≠0:=by
 unfold Z4 at h
 split at h
 ·cases h
 ·rename_i h0;simp at h;exact ⟨h,h0⟩
def plO:Bool→List (Int × Rat)→Int→Rat→List (Int × Rat)
 | _,[],_,_=>[]
 | d,t::F,v,c=>if t.1=v then Z4 t.1 (t.2+c)++plO true F v c else if d=false∧v<t.1 then Z4 v c++(Z4 t.1 t.2++plO true F v c) else Z4 t.1 t.2++plO d F v c
def plD:Bool→List (Int × Rat)→Int→Bool
 | d,[],_=>d
 | d,t::F,v=>if t.1=v then plD true F v else if d=false∧v<t.1 then plD true F v else plD d F v
theorem Jf:∀(d:Bool) (F:List (Int × Rat)) (v:Int) (c:Rat),ZZ d F v c=plO d F v c++if plD d F v then [] else Z4 v c
 | d,[],v,c=>by cases d <;>simp [ZZ,plO,plD]
 | d,t::F,v,c=>by
   rw [ZZ,plO,plD]
   split
   ·rw [Jf true F v c,List.append_assoc]
   ·split
    ·rw [Jf true F v c];simp [List.append_assoc]
    ·rw [Jf d F v c,List.append_assoc]
theorem ZeN(v:Int)(c:Rat):∀(d:Bool) (R:List (Int × Rat)),(plO d R v c).length≤2*R.length
 | d,[]=>by simp [plO]
 | d,t::R=>by
   have h1:=YT v c
   have h2:=YT t.1 t.2
   have h3:=YT t.1 (t.2+c)
   have h4:=ZeN v c true R
   have h5:=ZeN v c d R
   rw [plO]
   split
   ·rw [List.length_append,List.length_cons];omega
   ·split
    ·rw [List.length_append,List.length_append,List.length_cons];omega
    ·rw [List.length_append,List.length_cons];omega
def TmB(m:Nat)(F:List (Int × Rat)):Prop:=∀t∈F,t.2≠0∧H t.2≤m
theorem TmB.mono{m n:Nat}{F:List (Int × Rat)}(h:TmB m F)(hn:m≤n):TmB n F:=fun t ht=>⟨(h t ht).1,Nat.le_trans (h t ht).2 hn⟩
theorem TmB.app{m:Nat}{F G:List (Int × Rat)}(h:TmB m F)(h2:TmB m G):TmB m (F++G):=fun t ht=>(List.mem_append.1 ht).elim (h t) (h2 t)
theorem TmB.put{m:Nat}{q:Rat}(v:Int)(h:H q≤m):TmB m (Z4 v q):=fun t ht=>by
 unfold Z4 at ht
 split at ht
 ·cases ht
 ·rename_i h0
  cases List.mem_singleton.1 ht
  exact ⟨h0,h⟩
theorem TmB.plus{m b:Nat}{v:Int}{c:Rat}(hc:H c≤b):∀{d:Bool} {F:List (Int × Rat)},TmB m F→TmB (m+b+1) (ZZ d F v c)
 | true,[],_=>fun t ht=>by simp [ZZ] at ht
 | false,[],_=>by
   have e:ZZ false [] v c=Z4 v c:=by simp [ZZ]
   rw [e]
   exact TmB.put v (by omega)
 | d,t::F,h=>by
   have ht:=(h t List.mem_cons_self).2
   have hF:TmB m F:=fun t ht=>h t (List.mem_cons_of_mem _ ht)
   have ha:=Zd2 t.2 c
   rw [ZZ]
   split
   ·exact (TmB.put _ (by omega)).app (TmB.plus hc hF)
   ·split
    ·exact (TmB.put _ (by omega)).app ((TmB.put _ (by omega)).app (TmB.plus hc hF))
    ·exact (TmB.put _ (by omega)).app (TmB.plus hc hF)
def Yf(F:List (Int × Rat))(c:Rat):List (Int × Rat):=F.flatMap fun t=>Z4 t.1 (t.2*c)
theorem Zga(c:Rat):∀F:List (Int × Rat),(Yf F c).length≤F.length
 | []=>by simp [Yf]
 | t::F=>by
   have h1:=Zga c F
   have h2:=YT t.1 (t.2*c)
   have e:Yf (t::F) c=Z4 t.1 (t.2*c)++Yf F c:=rfl
   rw [e,List.length_append,List.length_cons]
   omega
end
end Go.Proofs.YtdaonnnlgfhlaaaGreatDoor
