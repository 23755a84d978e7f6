import Derived.KernelRfl
set_option linter.all false
namespace Go.Proofs.YtefdjbknmfeooaaGreatDoor
def put1(v:Int)(q:Rat):List (Int × Rat):=if q=0 then [] else [(v,q)]
def mergeF(c:Rat):Nat→List (Int × Rat)→List (Int × Rat)→List (Int × Rat)
 | 0,_,_=>[]
 | _+1,[],[]=>[]
 | k+1,a::as,[]=>put1 a.1 a.2++mergeF c k as []
 | k+1,[],b::bs=>put1 b.1 (b.2*c)++mergeF c k [] bs
 | k+1,a::as,b::bs=>
   if a.1<b.1 then put1 a.1 a.2++mergeF c k as (b::bs)
   else if b.1<a.1 then put1 b.1 (b.2*c)++mergeF c k (a::as) bs
   else put1 a.1 (a.2+b.2*c)++mergeF c k as bs
theorem mergeF_enough(c:Rat):∀(k l:Nat) (F G:List (Int × Rat)),F.length+G.length<k→F.length+G.length<l→mergeF c k F G=mergeF c l F G:=by
 intro k
 induction k with
 | zero=>intro l F G h;omega
 | succ k ih=>
   intro l F G h1 h2
   cases l with
   | zero=>omega
   | succ l=>
     rcases F with _|⟨a,as⟩ <;>rcases G with _|⟨b,bs⟩ <;>simp only [mergeF,List.length_cons,List.length_nil] at*
     ·rw [ih l [] bs (by simp;omega) (by simp;omega)]
     ·rw [ih l as [] (by simp;omega) (by simp;omega)]
     ·rw [ih l as (b::bs) (by simp;omega) (by simp;omega),ih l (a::as) bs (by simp;omega) (by simp;omega),ih l as bs (by omega) (by omega)]
def mergeV(F G:List (Int × Rat))(c:Rat):List (Int × Rat):=mergeF c (F.length+G.length+1) F G
theorem mergeV_nil(c:Rat):mergeV [] [] c=[]:=rfl
theorem mergeV_a(a:Int × Rat)(as:List (Int × Rat))(c:Rat):mergeV (a::as) [] c=put1 a.1 a.2++mergeV as [] c:=by
 unfold mergeV
 simp only [mergeF,List.length_cons,List.length_nil]
theorem mergeV_b(b:Int × Rat)(bs:List (Int × Rat))(c:Rat):mergeV [] (b::bs) c=put1 b.1 (b.2*c)++mergeV [] bs c:=by
 unfold mergeV
 simp only [mergeF,List.length_cons,List.length_nil]
 rw [mergeF_enough c (0+(bs.length+1)) (0+bs.length+1) [] bs (by simp) (by simp)]
theorem mergeV_lt{a b:Int × Rat}(h:a.1<b.1)(as bs:List (Int × Rat))(c:Rat):mergeV (a::as) (b::bs) c=put1 a.1 a.2++mergeV as (b::bs) c:=by
 unfold mergeV
 simp only [mergeF,List.length_cons,if_pos h]
 rw [mergeF_enough c (as.length+1+(bs.length+1)) (as.length+(bs.length+1)+1) as (b::bs) (by simp;try omega) (by simp;try omega)]
theorem mergeV_gt{a b:Int × Rat}(h:b.1<a.1)(as bs:List (Int × Rat))(c:Rat):mergeV (a::as) (b::bs) c=put1 b.1 (b.2*c)++mergeV (a::as) bs c:=by
 unfold mergeV
 simp only [mergeF,List.length_cons,if_neg (show ¬a.1<b.1 by omega),if_pos h]
 rw [mergeF_enough c (as.length+1+(bs.length+1)) (as.length+1+bs.length+1) (a::as) bs (by simp;try omega) (by simp;try omega)]
theorem mergeV_eq{a b:Int × Rat}(h:a.1=b.1)(as bs:List (Int × Rat))(c:Rat):mergeV (a::as) (b::bs) c=put1 a.1 (a.2+b.2*c)++mergeV as bs c:=by
 unfold mergeV
 simp only [mergeF,List.length_cons,if_neg (show ¬a.1<b.1 by omega),if_neg (show ¬b.1<a.1 by omega)]
 rw [mergeF_enough c (as.length+1+(bs.length+1)) (as.length+bs.length+1) as bs (by omega) (by omega)]
end Go.Proofs.YtefdjbknmfeooaaGreatDoor
