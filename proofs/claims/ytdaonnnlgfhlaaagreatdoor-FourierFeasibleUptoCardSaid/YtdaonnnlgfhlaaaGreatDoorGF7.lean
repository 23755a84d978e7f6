import Derived.KernelRfl
set_option linter.all false
namespace Go.Proofs.YtdaonnnlgfhlaaaGreatDoor
def Z4(v:Int)(q:Rat):List (Int × Rat):=if q=0 then [] else [(v,q)]
def XN(c:Rat):Nat→List (Int × Rat)→List (Int × Rat)→List (Int × Rat)
 | 0,_,_=>[]
 | _+1,[],[]=>[]
 | k+1,a::as,[]=>Z4 a.1 a.2++XN c k as []
 | k+1,[],b::bs=>Z4 b.1 (b.2*c)++XN c k [] bs
 | k+1,a::as,b::bs=>
   if a.1<b.1 then Z4 a.1 a.2++XN c k as (b::bs)
   else if b.1<a.1 then Z4 b.1 (b.2*c)++XN c k (a::as) bs
   else Z4 a.1 (a.2+b.2*c)++XN c k as bs
theorem Ww(c:Rat):∀(k l:Nat) (F G:List (Int × Rat)),F.length+G.length<k→F.length+G.length<l→XN c k F G=XN c l F G:=by
 intro k
 induction k with
 | zero=>intro l F G h;omega
 | succ k ih=>
   intro l F G h1 h2
   cases l with
   | zero=>omega
   | succ l=>
     rcases F with _|⟨a,as⟩ <;>rcases G with _|⟨b,bs⟩ <;>simp only [XN,List.length_cons,List.length_nil] at*
     ·rw [ih l [] bs (by simp;omega) (by simp;omega)]
     ·rw [ih l as [] (by simp;omega) (by simp;omega)]
     ·rw [ih l as (b::bs) (by simp;omega) (by simp;omega),ih l (a::as) bs (by simp;omega) (by simp;omega),ih l as bs (by omega) (by omega)]
def Yl(F G:List (Int × Rat))(c:Rat):List (Int × Rat):=XN c (F.length+G.length+1) F G
theorem JL(c:Rat):Yl [] [] c=[]:=rfl
theorem ZfC(a:Int × Rat)(as:List (Int × Rat))(c:Rat):Yl (a::as) [] c=Z4 a.1 a.2++Yl as [] c:=by
 unfold Yl
 simp only [XN,List.length_cons,List.length_nil]
theorem Zco(b:Int × Rat)(bs:List (Int × Rat))(c:Rat):Yl [] (b::bs) c=Z4 b.1 (b.2*c)++Yl [] bs c:=by
 unfold Yl
 simp only [XN,List.length_cons,List.length_nil]
 rw [Ww c (0+(bs.length+1)) (0+bs.length+1) [] bs (by simp) (by simp)]
theorem Zeo{a b:Int × Rat}(h:a.1<b.1)(as bs:List (Int × Rat))(c:Rat):Yl (a::as) (b::bs) c=Z4 a.1 a.2++Yl as (b::bs) c:=by
 unfold Yl
 simp only [XN,List.length_cons,if_pos h]
 rw [Ww c (as.length+1+(bs.length+1)) (as.length+(bs.length+1)+1) as (b::bs) (by simp;try omega) (by simp;try omega)]
theorem Zd4{a b:Int × Rat}(h:b.1<a.1)(as bs:List (Int × Rat))(c:Rat):Yl (a::as) (b::bs) c=Z4 b.1 (b.2*c)++Yl (a::as) bs c:=by
 unfold Yl
 simp only [XN,List.length_cons,if_neg (show ¬a.1<b.1 by omega),if_pos h]
 rw [Ww c (as.length+1+(bs.length+1)) (as.length+1+bs.length+1) (a::as) bs (by simp;try omega) (by simp;try omega)]
theorem Zel{a b:Int × Rat}(h:a.1=b.1)(as bs:List (Int × Rat))(c:Rat):Yl (a::as) (b::bs) c=Z4 a.1 (a.2+b.2*c)++Yl as bs c:=by
 unfold Yl
 simp only [XN,List.length_cons,if_neg (show ¬a.1<b.1 by omega),if_neg (show ¬b.1<a.1 by omega)]
 rw [Ww c (as.length+1+(bs.length+1)) (as.length+bs.length+1) as bs (by omega) (by omega)]
end Go.Proofs.YtdaonnnlgfhlaaaGreatDoor
