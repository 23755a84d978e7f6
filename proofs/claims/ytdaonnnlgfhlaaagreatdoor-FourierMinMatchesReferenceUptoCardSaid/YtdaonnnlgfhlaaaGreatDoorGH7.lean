import Derived.KernelRfl
set_option linter.all false
namespace Go.Proofs.YtdaonnnlgfhlaaaGreatDoor
def Ya(v:Int)(q:Rat):List (Int × Rat):=if q=0 then [] else [(v,q)]
def Wl(c:Rat):Nat→List (Int × Rat)→List (Int × Rat)→List (Int × Rat)
 | 0,_,_=>[]
 | _+1,[],[]=>[]
 | k+1,a::as,[]=>Ya a.1 a.2++Wl c k as []
 | k+1,[],b::bs=>Ya b.1 (b.2*c)++Wl c k [] bs
 | k+1,a::as,b::bs=>
   if a.1<b.1 then Ya a.1 a.2++Wl c k as (b::bs)
   else if b.1<a.1 then Ya b.1 (b.2*c)++Wl c k (a::as) bs
   else Ya a.1 (a.2+b.2*c)++Wl c k as bs
theorem WO(c:Rat):∀(k l:Nat) (F G:List (Int × Rat)),F.length+G.length<k→F.length+G.length<l→Wl c k F G=Wl c l F G:=by
 intro k
 induction k with
 | zero=>intro l F G h;omega
 | succ k ih=>
   intro l F G h1 h2
   cases l with
   | zero=>omega
   | succ l=>
     rcases F with _|⟨a,as⟩ <;>rcases G with _|⟨b,bs⟩ <;>simp only [Wl,List.length_cons,List.length_nil] at*
     ·rw [ih l [] bs (by simp;omega) (by simp;omega)]
     ·rw [ih l as [] (by simp;omega) (by simp;omega)]
     ·rw [ih l as (b::bs) (by simp;omega) (by simp;omega),ih l (a::as) bs (by simp;omega) (by simp;omega),ih l as bs (by omega) (by omega)]
def Yr(F G:List (Int × Rat))(c:Rat):List (Int × Rat):=Wl c (F.length+G.length+1) F G
theorem JZ(c:Rat):Yr [] [] c=[]:=rfl
theorem Zf9(a:Int × Rat)(as:List (Int × Rat))(c:Rat):Yr (a::as) [] c=Ya a.1 a.2++Yr as [] c:=by
 unfold Yr
 simp only [Wl,List.length_cons,List.length_nil]
theorem ZcM(b:Int × Rat)(bs:List (Int × Rat))(c:Rat):Yr [] (b::bs) c=Ya b.1 (b.2*c)++Yr [] bs c:=by
 unfold Yr
 simp only [Wl,List.length_cons,List.length_nil]
 rw [WO c (0+(bs.length+1)) (0+bs.length+1) [] bs (by simp) (by simp)]
theorem Zem{a b:Int × Rat}(h:a.1<b.1)(as bs:List (Int × Rat))(c:Rat):Yr (a::as) (b::bs) c=Ya a.1 a.2++Yr as (b::bs) c:=by
 unfold Yr
 simp only [Wl,List.length_cons,if_pos h]
 rw [WO c (as.length+1+(bs.length+1)) (as.length+(bs.length+1)+1) as (b::bs) (by simp;try omega) (by simp;try omega)]
theorem ZeO{a b:Int × Rat}(h:b.1<a.1)(as bs:List (Int × Rat))(c:Rat):Yr (a::as) (b::bs) c=Ya b.1 (b.2*c)++Yr (a::as) bs c:=by
 unfold Yr
 simp only [Wl,List.length_cons,if_neg (show ¬a.1<b.1 by omega),if_pos h]
 rw [WO c (as.length+1+(bs.length+1)) (as.length+1+bs.length+1) (a::as) bs (by simp;try omega) (by simp;try omega)]
theorem Zet{a b:Int × Rat}(h:a.1=b.1)(as bs:List (Int × Rat))(c:Rat):Yr (a::as) (b::bs) c=Ya a.1 (a.2+b.2*c)++Yr as bs c:=by
 unfold Yr
 simp only [Wl,List.length_cons,if_neg (show ¬a.1<b.1 by omega),if_neg (show ¬b.1<a.1 by omega)]
 rw [WO c (as.length+1+(bs.length+1)) (as.length+bs.length+1) as bs (by omega) (by omega)]
end Go.Proofs.YtdaonnnlgfhlaaaGreatDoor
