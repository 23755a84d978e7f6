import Derived.Test.YtjpoanaoaeaneaaGreatDoorGB5
import Derived.Lib.ItoaNum
import Derived.Lib.Repeat
import Derived.Lib.Join
set_option linter.all false
namespace Go.Proofs.YtjpoanaoaeaneaaGreatDoor
open Go.RowKit
theorem ba_loop (a : ByteArray) : ∀ (k i : Nat) (r : List UInt8), k + i = a.size → ByteArray.toList.loop a i r = r.reverse ++ a.data.toList.drop i
  | 0, i, r, h => by
    rw [ByteArray.toList.loop, if_neg (by omega), List.drop_eq_nil_of_le (by have e : a.data.toList.length = a.size := Array.length_toList; omega), List.append_nil]
  | k + 1, i, r, h => by
    have hi : i < a.data.toList.length := by have e : a.data.toList.length = a.size := Array.length_toList; omega
    rw [ByteArray.toList.loop, if_pos (by omega), ba_loop a k (i + 1) _ (by omega), List.drop_eq_getElem_cons hi]
    have e : a.get! i = a.data.toList[i] := by
      unfold ByteArray.get!
      rw [Array.getElem_toList]
      exact getElem!_pos a.data i (by simpa using hi)
    rw [e]
    simp
theorem ba_toList (a : ByteArray) : a.toList = a.data.toList := by
  unfold ByteArray.toList
  rw [ba_loop a a.size 0 [] (by omega)]
  simp
theorem ba_ext {a b : ByteArray} (h : a.data.toList = b.data.toList) : a = b := by
  obtain ⟨x⟩ := a
  obtain ⟨y⟩ := b
  congr 1
  exact Array.toList_inj.1 h
theorem ba_inj {a b : ByteArray} (h : a.toList = b.toList) : a = b := ba_ext (by rw [← ba_toList, ← ba_toList, h])
def oneB (z : Int) : ByteArray := ⟨#[UInt8.ofNat z.toNat]⟩
theorem strOf_one {z : Int} (h0 : 0 ≤ z) (h1 : z < 256) : strOf [[.lit (.int .u8 z)]] = some (oneB z) := by
  unfold strOf
  simp only [bytesL]
  rw [if_pos ⟨h0, h1⟩]
  rfl
theorem cat_r {a b x : ByteArray} (h : a.size + b.size ≤ 9000000000000000000) (d : x = a ++ b) : (if ((a.size + b.size : Nat) : Int) ≤ 9223372036854775807 then some (Value.string (a ++ b)) else none) = some (Value.string x) := by
  rw [if_pos (by omega), d]
theorem cat_q {a b x : ByteArray} (h : a.size + b.size ≤ 9000000000000000000) (d : x = a ++ b) : (if ((a.size : Nat) : Int) + ((b.size : Nat) : Int) ≤ 9223372036854775807 then some (Value.string (a ++ b)) else none) = some (Value.string x) := by
  rw [if_pos (by omega), d]
theorem set_strC (l : List ByteArray) (i : Nat) (a : ByteArray) : (l.map strC).set i [.lit (.string a)] = (l.set i a).map strC := by
  rw [List.map_set]; rfl
def bs (l : List UInt8) : ByteArray := ⟨l.toArray⟩
theorem bs_data (l : List UInt8) : (bs l).data.toList = l := by simp [bs]
theorem bs_size (l : List UInt8) : (bs l).size = l.length := by
  show (bs l).data.size = _
  simp [bs]
theorem bs_app (l m : List UInt8) : bs l ++ bs m = bs (l ++ m) := ba_ext (by simp [bs])
theorem bs_inj {l m : List UInt8} (h : bs l = bs m) : l = m := by
  have := congrArg (fun a : ByteArray => a.data.toList) h
  simpa [bs] using this
def byL (s : ByteArray) : List Int := s.data.toList.map fun b => (b.toNat : Int)
theorem strEls_by (s : ByteArray) : strEls s = (byL s).map intU8C := by
  unfold strEls byL
  rw [List.map_map]
  rfl
end Go.Proofs.YtjpoanaoaeaneaaGreatDoor
set_option linter.all false
namespace Go.Proofs.YtjpoanaoaeaneaaGreatDoor
open Go.RowKit
open Lib (decDigits)
def dig (k : Nat) : UInt8 := UInt8.ofNat (48 + k)
theorem dd_lt {u : Nat} (h : u < 10) : decDigits u = [dig u] := by rw [decDigits, dif_pos h]; rfl
theorem dd_ge {u : Nat} (h : ¬ u < 10) : decDigits u = decDigits (u / 10) ++ [dig (u % 10)] := by rw [decDigits, dif_neg h]; rfl
def padL : Nat → Nat → List UInt8
  | 0, _ => []
  | m + 1, r => padL m (r / 10) ++ [dig (r % 10)]
theorem padL_zero : ∀ (m : Nat), padL m 0 = List.replicate m 48
  | 0 => rfl
  | m + 1 => by rw [padL, Nat.zero_div, padL_zero m, List.replicate_succ']; rfl
theorem dd_split : ∀ (m q r : Nat), 0 < q → r < 10 ^ m → decDigits (q * 10 ^ m + r) = decDigits q ++ padL m r
  | 0, q, r, hq, hr => by
    have : r = 0 := by simpa using hr
    subst this
    rw [Nat.pow_zero, Nat.mul_one, Nat.add_zero, padL, List.append_nil]
  | m + 1, q, r, hq, hr => by
    rw [Nat.pow_succ] at hr
    have hp : 0 < 10 ^ m := Nat.pow_pos (by omega)
    have e0 : q * 10 ^ (m + 1) = (q * 10 ^ m) * 10 := by rw [Nat.pow_succ, Nat.mul_assoc]
    have hge : 1 ≤ q * 10 ^ m := Nat.mul_pos hq hp
    have h1 : ¬ q * 10 ^ (m + 1) + r < 10 := by omega
    have e1 : (q * 10 ^ (m + 1) + r) / 10 = q * 10 ^ m + r / 10 := by omega
    have e2 : (q * 10 ^ (m + 1) + r) % 10 = r % 10 := by omega
    rw [dd_ge h1, e1, e2, dd_split m q (r / 10) hq (by omega), padL, List.append_assoc]
theorem dd_pad : ∀ (m r : Nat), r < 10 ^ (m + 1) → (decDigits r).length ≤ m + 1 ∧ padL (m + 1) r = List.replicate (m + 1 - (decDigits r).length) 48 ++ decDigits r
  | 0, r, h => by
    have h1 : r < 10 := by simpa using h
    rw [dd_lt h1]
    refine ⟨by simp, ?_⟩
    rw [padL, padL, Nat.mod_eq_of_lt h1]
    simp
  | m + 1, r, h => by
    by_cases h1 : r < 10
    · rw [dd_lt h1]
      refine ⟨by simp, ?_⟩
      have e : padL (m + 1 + 1) r = padL (m + 1) (r / 10) ++ [dig (r % 10)] := rfl
      rw [e, Nat.div_eq_of_lt h1, Nat.mod_eq_of_lt h1, padL_zero]
      simp
    · rw [Nat.pow_succ] at h
      obtain ⟨i1, i2⟩ := dd_pad m (r / 10) (by omega)
      rw [dd_ge h1, List.length_append, List.length_singleton]
      refine ⟨by omega, ?_⟩
      have e : padL (m + 1 + 1) r = padL (m + 1) (r / 10) ++ [dig (r % 10)] := rfl
      rw [e, i2, ← List.append_assoc, show m + 1 + 1 - ((decDigits (r / 10)).length + 1) = m + 1 - (decDigits (r / 10)).length by omega]
theorem dd_ne (k : Nat) : decDigits k ≠ [] := by
  by_cases h : k < 10
  · rw [dd_lt h]; simp
  · rw [dd_ge h]; simp
theorem dd_pos (k : Nat) : 0 < (decDigits k).length := List.length_pos_iff.2 (dd_ne k)
theorem repL (c : Nat) : Lib.repeatL [48] c = List.replicate c 48 := by
  induction c with
  | zero => rfl
  | succ c ih => rw [Lib.repeatL, ih, List.replicate_succ]; rfl
theorem joinL (xs : List (List UInt8)) : Lib.join xs [] = xs.flatten := by
  unfold Lib.join List.intercalate
  induction xs with
  | nil => rfl
  | cons x xs ih =>
    cases xs with
    | nil => simp [List.intersperse]
    | cons y ys =>
      rw [List.intersperse, List.flatten_cons, List.flatten_cons, ih]
      · simp
      · intro h
        cases h
def rnd : Nat → Nat → Nat
  | 0, _ => 0
  | f + 1, k => if k = 0 then 0 else rnd f (k / 1000000000) + 1
theorem rnd_le : ∀ (f k : Nat), rnd f k ≤ f
  | 0, _ => Nat.le_refl _
  | f + 1, k => by rw [rnd]; split; omega; have := rnd_le f (k / 1000000000); omega
theorem rnd_zero (f : Nat) : rnd f 0 = 0 := by cases f <;> simp [rnd]
theorem rnd_enough : ∀ (f g k : Nat), k < 2 ^ f → k < 2 ^ g → rnd f k = rnd g k
  | 0, g, k, h, _ => by
    have : k = 0 := by simpa using h
    subst this
    rw [rnd_zero, rnd_zero]
  | f + 1, 0, k, _, h => by
    have : k = 0 := by simpa using h
    subst this
    rw [rnd_zero, rnd_zero]
  | f + 1, g + 1, k, h, h2 => by
    rw [Nat.pow_succ] at h h2
    rw [rnd, rnd, rnd_enough f g _ (by omega) (by omega)]
def dd0 (k : Nat) : List UInt8 := if k = 0 then [] else decDigits k
theorem dd0_step {k : Nat} (h : 0 < k) : dd0 k = dd0 (k / 1000000000) ++ (if 0 < k / 1000000000 then List.replicate (9 - (decDigits (k % 1000000000)).length) 48 ++ decDigits (k % 1000000000) else decDigits (k % 1000000000)) ∧ (decDigits (k % 1000000000)).length ≤ 9 := by
  have hr : k % 1000000000 < 10 ^ (8 + 1) := Nat.mod_lt _ (by decide)
  obtain ⟨p1, p2⟩ := dd_pad 8 _ hr
  refine ⟨?_, p1⟩
  unfold dd0
  rw [if_neg (by omega)]
  by_cases hq : 0 < k / 1000000000
  · rw [if_neg (by omega), if_pos hq, ← p2]
    have e := dd_split 9 (k / 1000000000) (k % 1000000000) hq hr
    have e2 : k / 1000000000 * 10 ^ 9 + k % 1000000000 = k := by
      have : (10 : Nat) ^ 9 = 1000000000 := by decide
      rw [this]; omega
    rw [e2] at e
    exact e
  · rw [if_pos (by omega), if_neg hq, List.nil_append]
    congr 1
    omega
theorem dd_bits : ∀ (m k : Nat), k < 2 ^ m → (decDigits k).length ≤ m + 1
  | 0, k, h => by
    have : k = 0 := by simpa using h
    subst this
    rw [dd_lt (by omega)]; simp
  | m + 1, k, h => by
    by_cases h1 : k < 10
    · rw [dd_lt h1]; simp
    · rw [Nat.pow_succ] at h
      rw [dd_ge h1, List.length_append, List.length_singleton]
      have := dd_bits m (k / 10) (by omega)
      omega
end Go.Proofs.YtjpoanaoaeaneaaGreatDoor
set_option linter.all false
set_option maxRecDepth 100000
set_option maxHeartbeats 6400000
namespace Go.Proofs.YtjpoanaoaeaneaaGreatDoor
open Go.RowKit
end Go.Proofs.YtjpoanaoaeaneaaGreatDoor
set_option linter.all false
set_option maxRecDepth 100000
set_option maxHeartbeats 6400000
namespace Go.Proofs.YtjpoanaoaeaneaaGreatDoor
open Go.RowKit
end Go.Proofs.YtjpoanaoaeaneaaGreatDoor
set_option linter.all false
set_option maxRecDepth 100000
set_option maxHeartbeats 6400000
namespace Go.Proofs.YtjpoanaoaeaneaaGreatDoor
open Go.RowKit
end Go.Proofs.YtjpoanaoaeaneaaGreatDoor
set_option linter.all false
set_option maxRecDepth 100000
set_option maxHeartbeats 6400000
namespace Go.Proofs.YtjpoanaoaeaneaaGreatDoor
open Go.RowKit
end Go.Proofs.YtjpoanaoaeaneaaGreatDoor
