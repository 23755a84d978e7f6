import Derived.Test.YtnegdhjdienjlaaGreatDoorGQ20
import Derived.Test.YtnegdhjdienjlaaGreatDoorGQ21
set_option linter.all false
set_option maxHeartbeats 6400000
set_option maxRecDepth 100000
namespace Go.Proofs.YtnegdhjdienjlaaGreatDoor
section
open Go.RowKit
end
section
open Go.RowKit
attribute [local irreducible] run runL loopG exec
noncomputable def tv(p:Prop):Bool:=@decide p (Classical.propDecidable p)
theorem tv_t{p:Prop}(h:p):tv p=true:=@decide_eq_true p (Classical.propDecidable p) h
theorem tv_f{p:Prop}(h:¬p):tv p=false:=@decide_eq_false p (Classical.propDecidable p) h
structure BdF (b:Nat) (f:Form):Prop where
 l:f.1.length≤100000000
 t:∀t∈f.1,H t.2≤b
 k:H f.2≤b
theorem BdF.mono{b c:Nat}{f:Form}(h:BdF b f)(hb:b≤c):BdF c f:=⟨h.l,fun t ht=>Nat.le_trans (h.t t ht) hb,Nat.le_trans h.k hb⟩
end
section
open Go.RowKit
end
section
open Go.RowKit
end
section
open Go.RowKit
open Lib (decDigits)
attribute [local irreducible] run runL loopG exec
theorem few_lmb{k:Nat}(h:(lmb k).length≤1000000):fewN (lmb k)=true:=Nat.ble_eq_true_of_le (by omega)
theorem k_div{k m:Nat}(hk:(lmb k).length≤1000000)(hm:(lmb m).length≤1000000)(h0:0<m):(oND fun x y=>.tup [natA (lmb (val x / val y)),natA (lmb (val x % val y)),.lit (.int .i64 0)]) [natA (lmb k),natA (lmb m)]=some (.tup [natA (lmb (k / m)),natA (lmb (k % m)),.lit (.int .i64 0)]):=by
 have hb:Nat.blt 0 m=true:=Nat.ble_eq_true_of_le h0
 simp only [oND,decN_nat (lim_lmb _),few_lmb hk,few_lmb hm,val_lmb,hb,Bool.and_self,if_true]
theorem k_uint{k:Nat}(h:k<18446744073709551616):(oN1 u64N fun x=>.tup [.lit (.int .u64 (val x:Nat)),.lit (.bool true)]) [natA (lmb k)]=some (.tup [.lit (.int .u64 (k:Int)),.lit (.bool true)]):=by
 have hl:(lmb k).length≤2:=lmb_len_le (by simpa using h)
 have h64:u64N (lmb k)=true:=by
  unfold u64N
  rw [val_lmb]
  exact Nat.ble_eq_true_of_le h
 simp only [oN1,decN_nat (lim_lmb _),few_lmb (show (lmb k).length≤1000000 by omega),h64,Bool.and_self,if_true,val_lmb]
theorem k_make{k:Nat}(hk:(lmb k).length≤1000000):(oN1 (fun _=>true) fun x=>natA (lmb (val x))) [natA (lmb k)]=some (natA (lmb k)):=by
 simp only [oN1,decN_nat (lim_lmb _),few_lmb hk,Bool.and_self,if_true,val_lmb]
theorem k_ofu{z:Int}(h0:0≤z)(h1:z<18446744073709551616):(oU fun k=>natA (lmb k)) [.lit (.int .u64 z)]=some (natA (lmb z.toNat)):=if_pos ⟨h0,h1⟩
end
section
open Go.RowKit
end
section
open Go.RowKit
end
section
open Go.RowKit
end
section
open Go.RowKit
end
end Go.Proofs.YtnegdhjdienjlaaGreatDoor
