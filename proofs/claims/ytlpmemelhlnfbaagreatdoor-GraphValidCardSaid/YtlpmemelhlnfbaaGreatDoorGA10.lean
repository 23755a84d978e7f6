import Derived.Test.YtlpmemelhlnfbaaGreatDoorGA5
import Derived.Test.YtlpmemelhlnfbaaGreatDoorGA7
import Derived.Lib.ItoaNum
import Derived.Lib.Repeat
import Derived.Lib.Join
set_option linter.all false
set_option maxRecDepth 100000
set_option maxHeartbeats 6400000
namespace Go.Proofs.YtlpmemelhlnfbaaGreatDoor
open Go.RowKit
end Go.Proofs.YtlpmemelhlnfbaaGreatDoor
set_option linter.all false
set_option maxRecDepth 100000
set_option maxHeartbeats 6400000
namespace Go.Proofs.YtlpmemelhlnfbaaGreatDoor
open Go.RowKit
attribute [local irreducible] run runL loopG exec
theorem list_all {α : Type} {l m : List α} (hl : l.length = m.length) : (∀ i, i < l.length → l[i]? = m[i]?) → l = m := fun h => by
  apply List.ext_getElem?
  intro i
  rcases Nat.lt_or_ge i l.length with hi | hi
  · exact h i hi
  · rw [List.getElem?_eq_none hi, List.getElem?_eq_none (by omega)]
end Go.Proofs.YtlpmemelhlnfbaaGreatDoor
set_option linter.all false
set_option maxRecDepth 100000
set_option maxHeartbeats 6400000
namespace Go.Proofs.YtlpmemelhlnfbaaGreatDoor
open Go.RowKit
end Go.Proofs.YtlpmemelhlnfbaaGreatDoor
set_option linter.all false
namespace Go.Proofs.YtlpmemelhlnfbaaGreatDoor
open Go.RowKit
@[simp ↓] theorem natA_ixT (P : Program) (t : TypeId) (l : List Nat) (i : AV) (nx : Nat) : ixT P t (natA l) i nx = match idx i with
    | some z => if 0 ≤ z then (match elOf P t with
      | some (_, _, k, _, _) => if k = 1 then (match l[z.toNat]? with | some x => .done (.mem [.lit (.int .u32 (x : Int))]) [] nx | none => .fail) else .fail
      | none => .fail) else .fail
    | none => .fail := by
  unfold ixT natA
  cases idx i with
  | none => rfl
  | some z =>
    dsimp only
    by_cases h0 : 0 ≤ z
    · rw [if_pos h0, if_pos h0]
      cases elOf P t with
      | none =>
        dsimp only
        cases arOf P t with
        | none => rfl
        | some x => rfl
      | some x =>
        obtain ⟨e1, e2, k, e4, e5⟩ := x
        dsimp only
        by_cases hk : k = 1
        · rw [if_pos hk, if_pos hk, List.getElem?_map]
          cases l[z.toNat]? <;> rfl
        · rw [if_neg hk, if_neg hk]
    · rw [if_neg h0, if_neg h0]
end Go.Proofs.YtlpmemelhlnfbaaGreatDoor
set_option linter.all false
set_option maxRecDepth 100000
set_option maxHeartbeats 6400000
namespace Go.Proofs.YtlpmemelhlnfbaaGreatDoor
open Go.RowKit
noncomputable def seq_C4 : Code := (loopsOf (bodyOf Tryz.f208)).getD 0 .skip
def seq_h4 (a0 : List Nat) (a1 : List Nat) (i_4 : Nat) : St :=
  ⟨[(0, natA a0), (1, natA a1), (12, .lit (.int .i64 (a0.length : Int))), (13, .lit (.int .i64 (i_4 : Int)))],
   [], 0⟩
def seq_o4a  : St :=
  ⟨[(4, .lit (.bool false))],
   [], 0⟩
def seq_o4b  : St :=
  ⟨[(4, .any)],
   [], 0⟩
section
variable {x5 : Nat} {i_4 : Nat} {x6 : Nat} {a1 : List Nat} {a0 : List Nat} {n : Nat}
theorem seq_r4_1 (C1 : (i_4 : Int) < (a0.length : Int)) (E2 : a0[i_4]? = some x5) (E3 : a1[i_4]? = some x6) (C4 : (x5 : Int) = (x6 : Int)) (W5 : InI ((i_4 : Int) + 1)) :
    Cont 0 (exec Tryz.prog (tab n) 0 26 (livesOf 208) big seq_C4) (livesOf 208 4) (seq_h4 a0 a1 i_4) (seq_h4 a0 a1 (i_4 + 1)) := by
  have C1_ : i_4 < a0.length := by omega
  obtain ⟨EL2, EG2⟩ := List.getElem?_eq_some_iff.1 E2
  obtain ⟨EL3, EG3⟩ := List.getElem?_eq_some_iff.1 E3
  have C4_ : ((x5 : Int) == (x6 : Int)) = true := by rw [C4]; simp
  have C4_n : ((x5 : Int) != (x6 : Int)) = false := by rw [C4]; simp
  have W5_ : IntKind.i64.wrap ((i_4 : Int) + 1) = (i_4 : Int) + 1 := wr64 W5.1 W5.2
  unfold Cont
  simp +decide [seq_h4, loopsOf, Tryz.f208, seq_C4, natA, C1, C1_, EL2, EG2, E2, EL3, EG3, E3, C4_, C4_n, W5_]
theorem seq_x4_1 (C1 : (i_4 : Int) < (a0.length : Int)) (E2 : a0[i_4]? = some x5) (E3 : a1[i_4]? = some x6) (C4 : ¬ (x5 : Int) = (x6 : Int)) :
    Leave 0 (exec Tryz.prog (tab n) 0 26 (livesOf 208) big seq_C4) (livesOf 208 (outOf 4)) (seq_h4 a0 a1 i_4) (.ret) (seq_o4a ) := by
  have C1_ : i_4 < a0.length := by omega
  obtain ⟨EL2, EG2⟩ := List.getElem?_eq_some_iff.1 E2
  obtain ⟨EL3, EG3⟩ := List.getElem?_eq_some_iff.1 E3
  have C4_ : ((x5 : Int) == (x6 : Int)) = false := by simpa using C4
  have C4_n : ((x5 : Int) != (x6 : Int)) = true := by simpa using C4
  unfold Leave
  simp +decide [seq_h4, loopsOf, Tryz.f208, seq_o4a, seq_C4, natA, C1, C1_, EL2, EG2, E2, EL3, EG3, E3, C4_, C4_n]
theorem seq_x4_2 (C1 : ¬ (i_4 : Int) < (a0.length : Int)) :
    Leave 0 (exec Tryz.prog (tab n) 0 26 (livesOf 208) big seq_C4) (livesOf 208 (outOf 4)) (seq_h4 a0 a1 i_4) (.exit 0) (seq_o4b ) := by
  have C1_ : ¬ i_4 < a0.length := by omega
  unfold Leave
  simp +decide [seq_h4, loopsOf, Tryz.f208, seq_o4b, seq_C4, natA, C1, C1_]
theorem seq_f1 (C1 : ¬ (a0.length : Int) = (a1.length : Int)) :
    run n 208 [natA a0, natA a1] = some (.lit (.bool false)) := by
  have C1_ : ((a0.length : Int) == (a1.length : Int)) = false := by simpa using C1
  have C1_n : ((a0.length : Int) != (a1.length : Int)) = true := by simpa using C1
  unfold run fnP
  simp +decide [Tryz.f208, natA, C1_, C1_n]
theorem seq_f2 (C1 : (a0.length : Int) = (a1.length : Int)) (L2 : loopG Tryz.prog (tab n) 0 26 (livesOf 208) 4 seq_C4 (seq_h4 a0 a1 0) = some (.ret, seq_o4a )) :
    run n 208 [natA a0, natA a1] = some (.lit (.bool false)) := by
  have C1_ : ((a0.length : Int) == (a1.length : Int)) = true := by rw [C1]; simp
  have C1_n : ((a0.length : Int) != (a1.length : Int)) = false := by rw [C1]; simp
  unfold run fnP
  simp +decide [Tryz.f208, natA, C1_, C1_n]
  rw [loopX_G (C' := seq_C4) (e := (seq_h4 a0 a1 0)) ?_ ?_, L2]
  rotate_left
  · kernel_rfl
  · simp +decide [seq_h4, natA, C1_, C1_n]
  simp +decide [seq_o4a, natA, C1_, C1_n]
theorem seq_f3 (C1 : (a0.length : Int) = (a1.length : Int)) (L2 : loopG Tryz.prog (tab n) 0 26 (livesOf 208) 4 seq_C4 (seq_h4 a0 a1 0) = some (.exit 0, seq_o4b )) :
    run n 208 [natA a0, natA a1] = some (.lit (.bool true)) := by
  have C1_ : ((a0.length : Int) == (a1.length : Int)) = true := by rw [C1]; simp
  have C1_n : ((a0.length : Int) != (a1.length : Int)) = false := by rw [C1]; simp
  unfold run fnP
  simp +decide [Tryz.f208, natA, C1_, C1_n]
  rw [loopX_G (C' := seq_C4) (e := (seq_h4 a0 a1 0)) ?_ ?_, L2]
  rotate_left
  · kernel_rfl
  · simp +decide [seq_h4, natA, C1_, C1_n]
  simp +decide [seq_o4b, natA, C1_, C1_n]
end
end Go.Proofs.YtlpmemelhlnfbaaGreatDoor
set_option linter.all false
set_option maxRecDepth 100000
set_option maxHeartbeats 6400000
namespace Go.Proofs.YtlpmemelhlnfbaaGreatDoor
open Go.RowKit
attribute [local irreducible] run runL loopG exec
theorem seq_c {n : Nat} {l m : List Nat} (hl : l.length ≤ 4000000000) (hm : m.length ≤ 4000000000) : run n 208 [natA l, natA m] = some (.lit (.bool (tv (l = m)))) := by
  by_cases h : l.length = m.length
  · have L := loopG_all (O := tab n) (P := Tryz.prog) (m := 0) (N := 26) (lives := livesOf 208) (r := 4) (C := seq_C4) (M := l.length) (enc := seq_h4 l m) (p := fun i => tv (l[i]? = m[i]?)) (exN := .exit 0) (exE := .ret) (out := seq_o4b) (outE := seq_o4a) (by omega) (fun h => by cases h) (fun h => by cases h)
      (fun i hi _ => by
        have hx : l[i]? = some l[i] := List.getElem?_eq_getElem hi
        have hy : m[i]? = some (m[i]'(by omega)) := List.getElem?_eq_getElem _
        refine ⟨fun hp => ?_, fun hp => ?_⟩
        · have hp := tv_true hp
          rw [hx, hy] at hp
          have e := Option.some.inj hp
          exact seq_r4_1 (by omega) hx hy (by omega) ⟨by omega, by omega⟩
        · have hp := tv_false hp
          rw [hx, hy] at hp
          exact seq_x4_1 (by omega) hx hy fun e => hp (by rw [show l[i] = (m[i]'(by omega)) by omega]))
      (seq_x4_2 (by omega))
    by_cases hA : ∀ i, i < l.length → tv (l[i]? = m[i]?) = true
    · rw [if_pos hA] at L
      rw [tv_t (list_all h fun i hi => tv_true (hA i hi))]
      exact seq_f3 (by omega) L
    · rw [if_neg hA] at L
      rw [tv_f fun e => hA fun i hi => tv_t (by rw [e])]
      exact seq_f2 (by omega) L
  · rw [tv_f fun e => h (by rw [e])]
    exact seq_f1 (by omega)
end Go.Proofs.YtlpmemelhlnfbaaGreatDoor
set_option linter.all false
namespace Go.Proofs.YtlpmemelhlnfbaaGreatDoor
open Go.RowKit
theorem ba_loop (a : ByteArray) : ∀ (k i : Nat) (r : List UInt8), k + i = a.size → ByteArray.toList.loop a i r = r.reverse ++ a.data.toList.drop i
  | 0, i, r, h => by
    rw [ByteArray.toList.loop, if_neg (by omega), List.drop_eq_nil_of_le (by have e : a.data.toList.length = a.size := Array.length_toList; omega), List.append_nil]
  | k + 1, i, r, h => by
    have hi : i < a.data.toList.length := by have e : a.data.toList.length = a.size := Array.length_toList; omega
    rw [ByteArray.toList.loop, if_pos (by omega), ba_loop a k (i + 1) _ (by omega), List.drop_eq_getElem_cons hi]
    have e : a.get! i = a.data.toList[i] := by
      unfold ByteArray.get!
      rw [Array.getElem_toList]
      exact getElem!_pos a.data i (by simpa using hi)
    rw [e]
    simp
theorem ba_toList (a : ByteArray) : a.toList = a.data.toList := by
  unfold ByteArray.toList
  rw [ba_loop a a.size 0 [] (by omega)]
  simp
theorem ba_ext {a b : ByteArray} (h : a.data.toList = b.data.toList) : a = b := by
  obtain ⟨x⟩ := a
  obtain ⟨y⟩ := b
  congr 1
  exact Array.toList_inj.1 h
theorem ba_inj {a b : ByteArray} (h : a.toList = b.toList) : a = b := ba_ext (by rw [← ba_toList, ← ba_toList, h])
def oneB (z : Int) : ByteArray := ⟨#[UInt8.ofNat z.toNat]⟩
theorem strOf_one {z : Int} (h0 : 0 ≤ z) (h1 : z < 256) : strOf [[.lit (.int .u8 z)]] = some (oneB z) := by
  unfold strOf
  simp only [bytesL]
  rw [if_pos ⟨h0, h1⟩]
  rfl
theorem cat_r {a b x : ByteArray} (h : a.size + b.size ≤ 9000000000000000000) (d : x = a ++ b) : (if ((a.size + b.size : Nat) : Int) ≤ 9223372036854775807 then some (Value.string (a ++ b)) else none) = some (Value.string x) := by
  rw [if_pos (by omega), d]
theorem cat_q {a b x : ByteArray} (h : a.size + b.size ≤ 9000000000000000000) (d : x = a ++ b) : (if ((a.size : Nat) : Int) + ((b.size : Nat) : Int) ≤ 9223372036854775807 then some (Value.string (a ++ b)) else none) = some (Value.string x) := by
  rw [if_pos (by omega), d]
theorem set_strC (l : List ByteArray) (i : Nat) (a : ByteArray) : (l.map strC).set i [.lit (.string a)] = (l.set i a).map strC := by
  rw [List.map_set]; rfl
def bs (l : List UInt8) : ByteArray := ⟨l.toArray⟩
theorem bs_data (l : List UInt8) : (bs l).data.toList = l := by simp [bs]
theorem bs_size (l : List UInt8) : (bs l).size = l.length := by
  show (bs l).data.size = _
  simp [bs]
theorem bs_app (l m : List UInt8) : bs l ++ bs m = bs (l ++ m) := ba_ext (by simp [bs])
theorem bs_inj {l m : List UInt8} (h : bs l = bs m) : l = m := by
  have := congrArg (fun a : ByteArray => a.data.toList) h
  simpa [bs] using this
end Go.Proofs.YtlpmemelhlnfbaaGreatDoor
set_option linter.all false
namespace Go.Proofs.YtlpmemelhlnfbaaGreatDoor
open Go.RowKit
open Lib (decDigits)
def dig (k : Nat) : UInt8 := UInt8.ofNat (48 + k)
theorem dd_lt {u : Nat} (h : u < 10) : decDigits u = [dig u] := by rw [decDigits, dif_pos h]; rfl
theorem dd_ge {u : Nat} (h : ¬ u < 10) : decDigits u = decDigits (u / 10) ++ [dig (u % 10)] := by rw [decDigits, dif_neg h]; rfl
def padL : Nat → Nat → List UInt8
  | 0, _ => []
  | m + 1, r => padL m (r / 10) ++ [dig (r % 10)]
theorem padL_zero : ∀ (m : Nat), padL m 0 = List.replicate m 48
  | 0 => rfl
  | m + 1 => by rw [padL, Nat.zero_div, padL_zero m, List.replicate_succ']; rfl
theorem dd_split : ∀ (m q r : Nat), 0 < q → r < 10 ^ m → decDigits (q * 10 ^ m + r) = decDigits q ++ padL m r
  | 0, q, r, hq, hr => by
    have : r = 0 := by simpa using hr
    subst this
    rw [Nat.pow_zero, Nat.mul_one, Nat.add_zero, padL, List.append_nil]
  | m + 1, q, r, hq, hr => by
    rw [Nat.pow_succ] at hr
    have hp : 0 < 10 ^ m := Nat.pow_pos (by omega)
    have e0 : q * 10 ^ (m + 1) = (q * 10 ^ m) * 10 := by rw [Nat.pow_succ, Nat.mul_assoc]
    have hge : 1 ≤ q * 10 ^ m := Nat.mul_pos hq hp
    have h1 : ¬ q * 10 ^ (m + 1) + r < 10 := by omega
    have e1 : (q * 10 ^ (m + 1) + r) / 10 = q * 10 ^ m + r / 10 := by omega
    have e2 : (q * 10 ^ (m + 1) + r) % 10 = r % 10 := by omega
    rw [dd_ge h1, e1, e2, dd_split m q (r / 10) hq (by omega), padL, List.append_assoc]
theorem dd_pad : ∀ (m r : Nat), r < 10 ^ (m + 1) → (decDigits r).length ≤ m + 1 ∧ padL (m + 1) r = List.replicate (m + 1 - (decDigits r).length) 48 ++ decDigits r
  | 0, r, h => by
    have h1 : r < 10 := by simpa using h
    rw [dd_lt h1]
    refine ⟨by simp, ?_⟩
    rw [padL, padL, Nat.mod_eq_of_lt h1]
    simp
  | m + 1, r, h => by
    by_cases h1 : r < 10
    · rw [dd_lt h1]
      refine ⟨by simp, ?_⟩
      have e : padL (m + 1 + 1) r = padL (m + 1) (r / 10) ++ [dig (r % 10)] := rfl
      rw [e, Nat.div_eq_of_lt h1, Nat.mod_eq_of_lt h1, padL_zero]
      simp
    · rw [Nat.pow_succ] at h
      obtain ⟨i1, i2⟩ := dd_pad m (r / 10) (by omega)
      rw [dd_ge h1, List.length_append, List.length_singleton]
      refine ⟨by omega, ?_⟩
      have e : padL (m + 1 + 1) r = padL (m + 1) (r / 10) ++ [dig (r % 10)] := rfl
      rw [e, i2, ← List.append_assoc, show m + 1 + 1 - ((decDigits (r / 10)).length + 1) = m + 1 - (decDigits (r / 10)).length by omega]
theorem dd_ne (k : Nat) : decDigits k ≠ [] := by
  by_cases h : k < 10
  · rw [dd_lt h]; simp
  · rw [dd_ge h]; simp
theorem dd_pos (k : Nat) : 0 < (decDigits k).length := List.length_pos_iff.2 (dd_ne k)
theorem repL (c : Nat) : Lib.repeatL [48] c = List.replicate c 48 := by
  induction c with
  | zero => rfl
  | succ c ih => rw [Lib.repeatL, ih, List.replicate_succ]; rfl
theorem joinL (xs : List (List UInt8)) : Lib.join xs [] = xs.flatten := by
  unfold Lib.join List.intercalate
  induction xs with
  | nil => rfl
  | cons x xs ih =>
    cases xs with
    | nil => simp [List.intersperse]
    | cons y ys =>
      rw [List.intersperse, List.flatten_cons, List.flatten_cons, ih]
      · simp
      · intro h
        cases h
def rnd : Nat → Nat → Nat
  | 0, _ => 0
  | f + 1, k => if k = 0 then 0 else rnd f (k / 1000000000) + 1
theorem rnd_le : ∀ (f k : Nat), rnd f k ≤ f
  | 0, _ => Nat.le_refl _
  | f + 1, k => by rw [rnd]; split; omega; have := rnd_le f (k / 1000000000); omega
theorem rnd_zero (f : Nat) : rnd f 0 = 0 := by cases f <;> simp [rnd]
theorem rnd_enough : ∀ (f g k : Nat), k < 2 ^ f → k < 2 ^ g → rnd f k = rnd g k
  | 0, g, k, h, _ => by
    have : k = 0 := by simpa using h
    subst this
    rw [rnd_zero, rnd_zero]
  | f + 1, 0, k, _, h => by
    have : k = 0 := by simpa using h
    subst this
    rw [rnd_zero, rnd_zero]
  | f + 1, g + 1, k, h, h2 => by
    rw [Nat.pow_succ] at h h2
    rw [rnd, rnd, rnd_enough f g _ (by omega) (by omega)]
def dd0 (k : Nat) : List UInt8 := if k = 0 then [] else decDigits k
theorem dd0_step {k : Nat} (h : 0 < k) : dd0 k = dd0 (k / 1000000000) ++ (if 0 < k / 1000000000 then List.replicate (9 - (decDigits (k % 1000000000)).length) 48 ++ decDigits (k % 1000000000) else decDigits (k % 1000000000)) ∧ (decDigits (k % 1000000000)).length ≤ 9 := by
  have hr : k % 1000000000 < 10 ^ (8 + 1) := Nat.mod_lt _ (by decide)
  obtain ⟨p1, p2⟩ := dd_pad 8 _ hr
  refine ⟨?_, p1⟩
  unfold dd0
  rw [if_neg (by omega)]
  by_cases hq : 0 < k / 1000000000
  · rw [if_neg (by omega), if_pos hq, ← p2]
    have e := dd_split 9 (k / 1000000000) (k % 1000000000) hq hr
    have e2 : k / 1000000000 * 10 ^ 9 + k % 1000000000 = k := by
      have : (10 : Nat) ^ 9 = 1000000000 := by decide
      rw [this]; omega
    rw [e2] at e
    exact e
  · rw [if_pos (by omega), if_neg hq, List.nil_append]
    congr 1
    omega
theorem dd_bits : ∀ (m k : Nat), k < 2 ^ m → (decDigits k).length ≤ m + 1
  | 0, k, h => by
    have : k = 0 := by simpa using h
    subst this
    rw [dd_lt (by omega)]; simp
  | m + 1, k, h => by
    by_cases h1 : k < 10
    · rw [dd_lt h1]; simp
    · rw [Nat.pow_succ] at h
      rw [dd_ge h1, List.length_append, List.length_singleton]
      have := dd_bits m (k / 10) (by omega)
      omega
end Go.Proofs.YtlpmemelhlnfbaaGreatDoor
set_option linter.all false
set_option maxRecDepth 100000
set_option maxHeartbeats 6400000
namespace Go.Proofs.YtlpmemelhlnfbaaGreatDoor
open Go.RowKit
noncomputable def ldc_C5 : Code := (loopsOf (bodyOf Tryz.f176)).getD 0 .skip
def ldc_h5 (nat_5 : List Nat) (r : List Nat) (out_5 : List ByteArray) : St :=
  ⟨[(0, natA nat_5), (3, natA r), (4, .own 0 out_5.length)],
   [(0, some (.row 9 1 (out_5.map strC) 0))], 1⟩
def ldc_o5a (out_5 : List ByteArray) : St :=
  ⟨[(4, .own 0 out_5.length)],
   [(0, some (.row 9 1 (out_5.map strC) 0))], 1⟩
section
variable {r16 : List Nat} {r18 : Int} {r22 : ByteArray} {cat3 : ByteArray} {r21 : ByteArray} {r19 : Int} {nat_5 : List Nat} {out_5 : List ByteArray} {r : List Nat} {r20 : Bool} {r17 : List Nat} {n : Nat} {a0 : List Nat} {r23 : ByteArray} {R : List ByteArray}
theorem ldc_r5_1 (C1 : 0 < (nat_5.length : Int)) (K2 : (oND fun x y => .tup [natA (lmb (val x / val y)), natA (lmb (val x % val y)), .lit (.int .i64 0)]) [natA nat_5, natA r] = some (.tup [natA r16, natA r17, .lit (.int .i64 r18)])) (K3 : (oN1 u64N fun x => .tup [.lit (.int .u64 (val x : Nat)), .lit (.bool true)]) [natA r17] = some (.tup [.lit (.int .u64 r19), .lit (.bool r20)])) (K4 : (oFU) [.lit (.int .u64 r19), .lit (.int .i64 10)] = some (.lit (.string r21))) (C5 : 0 < (r16.length : Int)) (W6 : InI (9 - (r21.size : Int))) (K7 : (oRepeat) [.lit (.string (⟨#[48]⟩ : ByteArray)), .lit (.int .i64 (9 - (r21.size : Int)))] = some (.lit (.string r22))) (S8 : r22.size + r21.size ≤ 9000000000000000000) (D8 : cat3 = r22 ++ r21) (M9 : out_5.length + 1 ≤ 100000000) :
    Cont 0 (exec Tryz.prog (tab (n + 5)) 0 50 (livesOf 176) big ldc_C5) (livesOf 176 5) (ldc_h5 nat_5 r out_5) (ldc_h5 r16 r (out_5 ++ [cat3])) := by
  have C1_ : 0 < nat_5.length := by omega
  have C1_z : (nat_5.length : Int) ≠ 0 := by omega
  have C1_e : ((nat_5.length : Int) == 0) = false := by simpa using C1_z
  have C1_g : ((nat_5.length : Int) != 0) = true := by simpa using C1_z
  have C5_ : 0 < r16.length := by omega
  have C5_z : (r16.length : Int) ≠ 0 := by omega
  have C5_e : ((r16.length : Int) == 0) = false := by simpa using C5_z
  have C5_g : ((r16.length : Int) != 0) = true := by simpa using C5_z
  have W6_ : IntKind.i64.wrap (9 - (r21.size : Int)) = 9 - (r21.size : Int) := wr64 W6.1 W6.2
  have S8_r := cat_r S8 D8
  have S8_q := cat_q S8 D8
  have M9_ : ∀ b, b ≤ 10000 → roomy (out_5.length + 1) b = true := fun b hb => roomy_s M9 hb
  unfold Cont
  simp +decide [ldc_h5, loopsOf, Tryz.f176, ldc_C5, C1, C1_, C1_e, C1_g, K2, K3, K4, C5, C5_, C5_e, C5_g, W6_, K7, ↓S8_r, S8_q, M9_]
theorem ldc_r5_2 (C1 : 0 < (nat_5.length : Int)) (K2 : (oND fun x y => .tup [natA (lmb (val x / val y)), natA (lmb (val x % val y)), .lit (.int .i64 0)]) [natA nat_5, natA r] = some (.tup [natA r16, natA r17, .lit (.int .i64 r18)])) (K3 : (oN1 u64N fun x => .tup [.lit (.int .u64 (val x : Nat)), .lit (.bool true)]) [natA r17] = some (.tup [.lit (.int .u64 r19), .lit (.bool r20)])) (K4 : (oFU) [.lit (.int .u64 r19), .lit (.int .i64 10)] = some (.lit (.string r21))) (C5 : ¬ 0 < (r16.length : Int)) (M6 : out_5.length + 1 ≤ 100000000) :
    Cont 0 (exec Tryz.prog (tab (n + 5)) 0 50 (livesOf 176) big ldc_C5) (livesOf 176 5) (ldc_h5 nat_5 r out_5) (ldc_h5 r16 r (out_5 ++ [r21])) := by
  have C1_ : 0 < nat_5.length := by omega
  have C1_z : (nat_5.length : Int) ≠ 0 := by omega
  have C1_e : ((nat_5.length : Int) == 0) = false := by simpa using C1_z
  have C1_g : ((nat_5.length : Int) != 0) = true := by simpa using C1_z
  have C5_ : ¬ 0 < r16.length := by omega
  have C5_z : (r16.length : Int) = 0 := by omega
  have C5_e : ((r16.length : Int) == 0) = true := by rw [C5_z]; simp
  have C5_g : ((r16.length : Int) != 0) = false := by rw [C5_z]; simp
  have M6_ : ∀ b, b ≤ 10000 → roomy (out_5.length + 1) b = true := fun b hb => roomy_s M6 hb
  unfold Cont
  simp +decide [ldc_h5, loopsOf, Tryz.f176, ldc_C5, C1, C1_, C1_e, C1_g, K2, K3, K4, C5, C5_, C5_e, C5_g, M6_]
theorem ldc_x5_1 (C1 : ¬ 0 < (nat_5.length : Int)) :
    Leave 0 (exec Tryz.prog (tab (n + 5)) 0 50 (livesOf 176) big ldc_C5) (livesOf 176 (outOf 5)) (ldc_h5 nat_5 r out_5) (.exit 0) (ldc_o5a out_5) := by
  have C1_ : ¬ 0 < nat_5.length := by omega
  have C1_z : (nat_5.length : Int) = 0 := by omega
  have C1_e : ((nat_5.length : Int) == 0) = true := by rw [C1_z]; simp
  have C1_g : ((nat_5.length : Int) != 0) = false := by rw [C1_z]; simp
  unfold Leave
  simp +decide [ldc_h5, loopsOf, Tryz.f176, ldc_o5a, ldc_C5, C1, C1_, C1_e, C1_g]
theorem ldc_f1 (C1 : (a0.length : Int) = 0) :
    run (n + 5) 176 [natA a0] = some (.lit (.string (⟨#[48]⟩ : ByteArray))) := by
  have C1_ : ((a0.length : Int) == 0) = true := by rw [C1]; simp
  have C1_n : ((a0.length : Int) != 0) = false := by rw [C1]; simp
  have C1_l : ¬ 0 < (a0.length : Int) := by omega
  unfold run fnP
  simp +decide [Tryz.f176, C1_, C1_n, C1_l]
theorem ldc_f2 (HR : R.length = out_5.length) (C1 : ¬ (a0.length : Int) = 0) (K2 : (oU fun k => natA (lmb k)) [.lit (.int .u64 1000000000)] = some (natA r)) (L3 : loopG Tryz.prog (tab (n + 5)) 0 50 (livesOf 176) 5 ldc_C5 (ldc_h5 a0 r []) = some (.exit 0, ldc_o5a out_5)) (K4 : runL (n + 4) 212 [.own 0 out_5.length] [.row 9 1 (out_5.map strC) 0] = some (.tup [], [(0, .row 9 1 (R.map strC) 0)])) (K5 : (oJoin) [.sl 1 (R.map strC), .lit (.string (⟨#[]⟩ : ByteArray))] = some (.lit (.string r23))) :
    run (n + 5) 176 [natA a0] = some (.lit (.string r23)) := by
  have C1_ : ((a0.length : Int) == 0) = false := by simpa using C1
  have C1_n : ((a0.length : Int) != 0) = true := by simpa using C1
  have C1_l : 0 < (a0.length : Int) := by omega
  unfold run fnP
  simp +decide [Tryz.f176, C1_, C1_n, C1_l, HR, K2, K4, K5]
  rw [loopX_G (C' := ldc_C5) (e := (ldc_h5 a0 r [])) ?_ ?_, L3]
  rotate_left
  · kernel_rfl
  · simp +decide [ldc_h5, C1_, C1_n, C1_l, HR, K2, K4, K5]
  simp +decide [ldc_o5a, C1_, C1_n, C1_l, HR, K2, K4, K5]
end
end Go.Proofs.YtlpmemelhlnfbaaGreatDoor
set_option linter.all false
set_option maxRecDepth 100000
set_option maxHeartbeats 6400000
namespace Go.Proofs.YtlpmemelhlnfbaaGreatDoor
open Go.RowKit
noncomputable def srv_C1 : Code := (loopsOf (bodyOf Tryz.f212)).getD 0 .skip
def srv_h1 (out_1 : List ByteArray) (i_1 : Nat) (i2_1 : Int) : St :=
  ⟨[(0, .own 0 out_1.length), (2, .lit (.int .i64 (i_1 : Int))), (3, .lit (.int .i64 i2_1))],
   [(0, some (.row 9 1 (out_1.map strC) 0))], 1⟩
def srv_o1a (out_1 : List ByteArray) : St :=
  ⟨[],
   [(0, some (.row 9 1 (out_1.map strC) 0))], 1⟩
section
variable {x5 : ByteArray} {x6 : ByteArray} {i2_1 : Int} {out_1 : List ByteArray} {n : Nat} {i_1 : Nat} {a0 : List ByteArray}
theorem srv_r1_1 (C1 : (i_1 : Int) < i2_1) (G2 : i2_1.toNat < out_1.length) (Z2 : 0 ≤ i2_1) (E3 : out_1[i2_1.toNat]? = some x5) (Z3 : 0 ≤ i2_1) (G4 : i_1 < out_1.length) (E5 : out_1[i_1]? = some x6) (W10 : InI ((i_1 : Int) + 1)) (W11 : InI (i2_1 - 1)) :
    Cont 1 (exec Tryz.prog (tab n) 1 28 (livesOf 212) big srv_C1) (livesOf 212 1) (srv_h1 out_1 i_1 i2_1) (srv_h1 ((out_1.set i_1 x5).set i2_1.toNat x6) (i_1 + 1) (i2_1 - 1)) := by
  obtain ⟨EL3, EG3⟩ := List.getElem?_eq_some_iff.1 E3
  obtain ⟨EL5, EG5⟩ := List.getElem?_eq_some_iff.1 E5
  have W10_ : IntKind.i64.wrap ((i_1 : Int) + 1) = (i_1 : Int) + 1 := wr64 W10.1 W10.2
  have W11_ : IntKind.i64.wrap (i2_1 - 1) = i2_1 - 1 := wr64 W11.1 W11.2
  unfold Cont
  simp +decide [srv_h1, loopsOf, Tryz.f212, srv_C1, C1, G2, Z2, EL3, EG3, E3, Z3, G4, EL5, EG5, E5, set_strC, -List.map_set, W10_, W11_]
theorem srv_x1_1 (C1 : ¬ (i_1 : Int) < i2_1) :
    Leave 1 (exec Tryz.prog (tab n) 1 28 (livesOf 212) big srv_C1) (livesOf 212 (outOf 1)) (srv_h1 out_1 i_1 i2_1) (.exit 0) (srv_o1a out_1) := by
  unfold Leave
  simp +decide [srv_h1, loopsOf, Tryz.f212, srv_o1a, srv_C1, C1]
theorem srv_f1 (W1 : InI ((a0.length : Int) - 1)) (L2 : loopG Tryz.prog (tab n) 1 28 (livesOf 212) 1 srv_C1 (srv_h1 a0 0 ((a0.length : Int) - 1)) = some (.exit 0, srv_o1a out_1)) :
    runL n 212 [.own 0 a0.length] [.row 9 1 (a0.map strC) 0] = some (.tup [], [(0, .row 9 1 (out_1.map strC) 0)]) := by
  have W1_ : IntKind.i64.wrap ((a0.length : Int) - 1) = (a0.length : Int) - 1 := wr64 W1.1 W1.2
  unfold runL fnL
  simp +decide [Tryz.f212, W1_]
  rw [loopX_G (C' := srv_C1) (e := (srv_h1 a0 0 ((a0.length : Int) - 1))) ?_ ?_, L2]
  rotate_left
  · kernel_rfl
  · simp +decide [srv_h1, W1_]
  simp +decide [srv_o1a, W1_]
end
end Go.Proofs.YtlpmemelhlnfbaaGreatDoor
