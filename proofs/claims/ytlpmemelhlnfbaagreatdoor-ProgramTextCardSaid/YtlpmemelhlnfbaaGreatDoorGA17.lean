/- Decimal digits, plainly. linear.decimal, size; slices.Reverse of strings; relucertref07.Digits, absolute, join: what they return. relucertref07.Digits, absolute, join; linear.size: what they return. linear.Text, relucertref07.Text: the same text. -/
import Derived.Test.YtlpmemelhlnfbaaGreatDoorGA6
import Derived.Lib.ItoaNum
import Derived.Lib.Repeat
import Derived.Lib.Join
import Derived.Test.YtlpmemelhlnfbaaGreatDoorGA16
import Derived.Test.YtlpmemelhlnfbaaGreatDoorGA8
import Derived.Test.YtlpmemelhlnfbaaGreatDoorGA10
import Derived.Test.YtlpmemelhlnfbaaGreatDoorGA15
set_option linter.all false
set_option linter.all false
namespace Go.Proofs.YtlpmemelhlnfbaaGreatDoor
open Go.RowKit
open Lib (decDigits)

def dig (k : Nat) : UInt8 := UInt8.ofNat (48 + k)
theorem dd_lt {u : Nat} (h : u < 10) : decDigits u = [dig u] := by rw [decDigits, dif_pos h]; rfl
theorem dd_ge {u : Nat} (h : ¬ u < 10) : decDigits u = decDigits (u / 10) ++ [dig (u % 10)] := by rw [decDigits, dif_neg h]; rfl
/-- m digits -/
def padL : Nat → Nat → List UInt8
  | 0, _ => []
  | m + 1, r => padL m (r / 10) ++ [dig (r % 10)]
theorem padL_zero : ∀ (m : Nat), padL m 0 = List.replicate m 48
  | 0 => rfl
  | m + 1 => by rw [padL, Nat.zero_div, padL_zero m, List.replicate_succ']; rfl
theorem dd_split : ∀ (m q r : Nat), 0 < q → r < 10 ^ m → decDigits (q * 10 ^ m + r) = decDigits q ++ padL m r
  | 0, q, r, hq, hr => by
    have : r = 0 := by simpa using hr
    subst this
    rw [Nat.pow_zero, Nat.mul_one, Nat.add_zero, padL, List.append_nil]
  | m + 1, q, r, hq, hr => by
    rw [Nat.pow_succ] at hr
    have hp : 0 < 10 ^ m := Nat.pow_pos (by omega)
    have e0 : q * 10 ^ (m + 1) = (q * 10 ^ m) * 10 := by rw [Nat.pow_succ, Nat.mul_assoc]
    have hge : 1 ≤ q * 10 ^ m := Nat.mul_pos hq hp
    have h1 : ¬ q * 10 ^ (m + 1) + r < 10 := by omega
    have e1 : (q * 10 ^ (m + 1) + r) / 10 = q * 10 ^ m + r / 10 := by omega
    have e2 : (q * 10 ^ (m + 1) + r) % 10 = r % 10 := by omega
    rw [dd_ge h1, e1, e2, dd_split m q (r / 10) hq (by omega), padL, List.append_assoc]
theorem dd_pad : ∀ (m r : Nat), r < 10 ^ (m + 1) → (decDigits r).length ≤ m + 1 ∧ padL (m + 1) r = List.replicate (m + 1 - (decDigits r).length) 48 ++ decDigits r
  | 0, r, h => by
    have h1 : r < 10 := by simpa using h
    rw [dd_lt h1]
    refine ⟨by simp, ?_⟩
    rw [padL, padL, Nat.mod_eq_of_lt h1]
    simp
  | m + 1, r, h => by
    by_cases h1 : r < 10
    · rw [dd_lt h1]
      refine ⟨by simp, ?_⟩
      have e : padL (m + 1 + 1) r = padL (m + 1) (r / 10) ++ [dig (r % 10)] := rfl
      rw [e, Nat.div_eq_of_lt h1, Nat.mod_eq_of_lt h1, padL_zero]
      simp
    · rw [Nat.pow_succ] at h
      obtain ⟨i1, i2⟩ := dd_pad m (r / 10) (by omega)
      rw [dd_ge h1, List.length_append, List.length_singleton]
      refine ⟨by omega, ?_⟩
      have e : padL (m + 1 + 1) r = padL (m + 1) (r / 10) ++ [dig (r % 10)] := rfl
      rw [e, i2, ← List.append_assoc, show m + 1 + 1 - ((decDigits (r / 10)).length + 1) = m + 1 - (decDigits (r / 10)).length by omega]
theorem dd_ne (k : Nat) : decDigits k ≠ [] := by
  by_cases h : k < 10
  · rw [dd_lt h]; simp
  · rw [dd_ge h]; simp
theorem dd_pos (k : Nat) : 0 < (decDigits k).length := List.length_pos_iff.2 (dd_ne k)
theorem repL (c : Nat) : Lib.repeatL [48] c = List.replicate c 48 := by
  induction c with
  | zero => rfl
  | succ c ih => rw [Lib.repeatL, ih, List.replicate_succ]; rfl
theorem joinL (xs : List (List UInt8)) : Lib.join xs [] = xs.flatten := by
  unfold Lib.join List.intercalate
  induction xs with
  | nil => rfl
  | cons x xs ih =>
    cases xs with
    | nil => simp [List.intersperse]
    | cons y ys =>
      rw [List.intersperse, List.flatten_cons, List.flatten_cons, ih]
      · simp
      · intro h
        cases h
/-- the chunks of nine digits -/
def rnd : Nat → Nat → Nat
  | 0, _ => 0
  | f + 1, k => if k = 0 then 0 else rnd f (k / 1000000000) + 1
theorem rnd_le : ∀ (f k : Nat), rnd f k ≤ f
  | 0, _ => Nat.le_refl _
  | f + 1, k => by rw [rnd]; split; omega; have := rnd_le f (k / 1000000000); omega
theorem rnd_zero (f : Nat) : rnd f 0 = 0 := by cases f <;> simp [rnd]
theorem rnd_enough : ∀ (f g k : Nat), k < 2 ^ f → k < 2 ^ g → rnd f k = rnd g k
  | 0, g, k, h, _ => by
    have : k = 0 := by simpa using h
    subst this
    rw [rnd_zero, rnd_zero]
  | f + 1, 0, k, _, h => by
    have : k = 0 := by simpa using h
    subst this
    rw [rnd_zero, rnd_zero]
  | f + 1, g + 1, k, h, h2 => by
    rw [Nat.pow_succ] at h h2
    rw [rnd, rnd, rnd_enough f g _ (by omega) (by omega)]
/-- the digits, none for 0 -/
def dd0 (k : Nat) : List UInt8 := if k = 0 then [] else decDigits k
theorem dd0_step {k : Nat} (h : 0 < k) : dd0 k = dd0 (k / 1000000000) ++ (if 0 < k / 1000000000 then List.replicate (9 - (decDigits (k % 1000000000)).length) 48 ++ decDigits (k % 1000000000) else decDigits (k % 1000000000)) ∧ (decDigits (k % 1000000000)).length ≤ 9 := by
  have hr : k % 1000000000 < 10 ^ (8 + 1) := Nat.mod_lt _ (by decide)
  obtain ⟨p1, p2⟩ := dd_pad 8 _ hr
  refine ⟨?_, p1⟩
  unfold dd0
  rw [if_neg (by omega)]
  by_cases hq : 0 < k / 1000000000
  · rw [if_neg (by omega), if_pos hq, ← p2]
    have e := dd_split 9 (k / 1000000000) (k % 1000000000) hq hr
    have e2 : k / 1000000000 * 10 ^ 9 + k % 1000000000 = k := by
      have : (10 : Nat) ^ 9 = 1000000000 := by decide
      rw [this]; omega
    rw [e2] at e
    exact e
  · rw [if_pos (by omega), if_neg hq, List.nil_append]
    congr 1
    omega
theorem dd_bits : ∀ (m k : Nat), k < 2 ^ m → (decDigits k).length ≤ m + 1
  | 0, k, h => by
    have : k = 0 := by simpa using h
    subst this
    rw [dd_lt (by omega)]; simp
  | m + 1, k, h => by
    by_cases h1 : k < 10
    · rw [dd_lt h1]; simp
    · rw [Nat.pow_succ] at h
      rw [dd_ge h1, List.length_append, List.length_singleton]
      have := dd_bits m (k / 10) (by omega)
      omega
end Go.Proofs.YtlpmemelhlnfbaaGreatDoor
set_option linter.all false
set_option maxRecDepth 100000
set_option maxHeartbeats 6400000
namespace Go.Proofs.YtlpmemelhlnfbaaGreatDoor
open Go.RowKit
open Lib (decDigits)
attribute [local irreducible] run runL loopG exec

theorem few_lmb {k : Nat} (h : (lmb k).length ≤ 1000000) : fewN (lmb k) = true := Nat.ble_eq_true_of_le (by omega)
theorem k_div {k m : Nat} (hk : (lmb k).length ≤ 1000000) (hm : (lmb m).length ≤ 1000000) (h0 : 0 < m) : (oND fun x y => .tup [natA (lmb (val x / val y)), natA (lmb (val x % val y)), .lit (.int .i64 0)]) [natA (lmb k), natA (lmb m)] = some (.tup [natA (lmb (k / m)), natA (lmb (k % m)), .lit (.int .i64 0)]) := by
  have hb : Nat.blt 0 m = true := Nat.ble_eq_true_of_le h0
  simp only [oND, decN_nat (lim_lmb _), few_lmb hk, few_lmb hm, val_lmb, hb, Bool.and_self, if_true]
theorem k_div10 {k : Nat} (hk : (lmb k).length ≤ 1000000) : (oND fun x y => .tup [natA (lmb (val x / val y)), natA (lmb (val x % val y)), .lit (.int .i64 0)]) [natA (lmb k), .sl 1 [[.lit (.int .u32 10)]]] = some (.tup [natA (lmb (k / 10)), natA (lmb (k % 10)), .lit (.int .i64 0)]) := by
  have e : AV.sl 1 [[.lit (.int .u32 10)]] = natA (lmb 10) := by
    have : lmb 10 = [10] := by decide +kernel
    rw [this]; rfl
  rw [e]
  exact k_div hk (by decide +kernel) (by omega)
theorem k_uint {k : Nat} (h : k < 18446744073709551616) : (oN1 u64N fun x => .tup [.lit (.int .u64 (val x : Nat)), .lit (.bool true)]) [natA (lmb k)] = some (.tup [.lit (.int .u64 (k : Int)), .lit (.bool true)]) := by
  have hl : (lmb k).length ≤ 2 := lmb_len_le (by simpa using h)
  have h64 : u64N (lmb k) = true := by
    unfold u64N
    rw [val_lmb]
    exact Nat.ble_eq_true_of_le h
  simp only [oN1, decN_nat (lim_lmb _), few_lmb (show (lmb k).length ≤ 1000000 by omega), h64, Bool.and_self, if_true, val_lmb]
theorem k_make {k : Nat} (hk : (lmb k).length ≤ 1000000) : (oN1 (fun _ => true) fun x => natA (lmb (val x))) [natA (lmb k)] = some (natA (lmb k)) := by
  simp only [oN1, decN_nat (lim_lmb _), few_lmb hk, Bool.and_self, if_true, val_lmb]
theorem k_ofu {z : Int} (h0 : 0 ≤ z) (h1 : z < 18446744073709551616) : (oU fun k => natA (lmb k)) [.lit (.int .u64 z)] = some (natA (lmb z.toNat)) := if_pos ⟨h0, h1⟩
theorem k_fu {d : Nat} (h : d < 18446744073709551616) : oFU [.lit (.int .u64 (d : Int)), .lit (.int .i64 10)] = some (.lit (.string (bs (decDigits d)))) := by
  have h1 : (0 : Int) ≤ (d : Int) ∧ (d : Int) < 18446744073709551616 := ⟨by omega, by omega⟩
  simp only [oFU]
  rw [if_pos h1, Int.toNat_natCast]
  rfl
theorem k_rep {l : List UInt8} (h : l.length ≤ 9) : oRepeat [.lit (.string (⟨#[48]⟩ : ByteArray)), .lit (.int .i64 (9 - ((bs l).size : Int)))] = some (.lit (.string (bs (List.replicate (9 - l.length) 48)))) := by
  have e : (9 - ((bs l).size : Int)).toNat = 9 - l.length := by rw [bs_size]; omega
  have e2 : (⟨#[48]⟩ : ByteArray).size = 1 := rfl
  unfold oRepeat
  dsimp only
  rw [if_pos ⟨by rw [bs_size]; omega, by rw [bs_size]; omega, by rw [e, e2]; omega⟩, e]
  rw [repL]
  rfl
theorem strsL_map (l : List ByteArray) : strsL (l.map strC) = some l := by
  induction l with
  | nil => rfl
  | cons a l ih => simp [strsL, ih]
theorem k_join {P : List (List UInt8)} (h1 : P.length ≤ 100000000) (h2 : P.flatten.length ≤ 100000000) : oJoin [.sl 1 ((P.map bs).map strC), .lit (.string (⟨#[]⟩ : ByteArray))] = some (.lit (.string (bs P.flatten))) := by
  have e : (P.map bs).map (fun (a : ByteArray) => a.data.toList) = P := by
    rw [List.map_map]
    conv => rhs; rw [← List.map_id P]
    apply List.map_congr_left
    intro x _
    exact bs_data x
  have e2 : (⟨#[]⟩ : ByteArray).data.toList = [] := rfl
  simp only [oJoin, strsL_map, e2, e, joinL]
  rw [if_pos ⟨by rw [List.length_map]; omega, by omega⟩]
  rfl
/-- the first i and the last i elements exchanged -/
def rv (L : List ByteArray) (i : Nat) : List ByteArray := (List.range L.length).map fun t => if t < i ∨ L.length ≤ t + i then L.getD (L.length - 1 - t) ByteArray.empty else L.getD t ByteArray.empty
theorem rv_len (L : List ByteArray) (i : Nat) : (rv L i).length = L.length := by
  unfold rv
  rw [List.length_map, List.length_range]
theorem rv_get {L : List ByteArray} {i t : Nat} (ht : t < L.length) : (rv L i)[t]? = some (if t < i ∨ L.length ≤ t + i then L.getD (L.length - 1 - t) ByteArray.empty else L.getD t ByteArray.empty) := by
  unfold rv
  rw [List.getElem?_map, List.getElem?_range ht]
  rfl
theorem rv_zero (L : List ByteArray) : rv L 0 = L := by
  apply List.ext_getElem?
  intro t
  rcases Nat.lt_or_ge t L.length with ht | ht
  · rw [rv_get ht, if_neg (by omega), List.getD_eq_getElem?_getD, List.getElem?_eq_getElem ht]; rfl
  · rw [List.getElem?_eq_none (by rw [rv_len]; exact ht), List.getElem?_eq_none ht]
theorem rv_full {L : List ByteArray} {i : Nat} (h : L.length ≤ 2 * i + 1) : rv L i = L.reverse := by
  apply List.ext_getElem?
  intro t
  rcases Nat.lt_or_ge t L.length with ht | ht
  · have e : L.reverse[t]? = some (L.getD (L.length - 1 - t) ByteArray.empty) := by
      rw [List.getElem?_reverse ht, List.getD_eq_getElem?_getD, List.getElem?_eq_getElem (show L.length - 1 - t < L.length by omega)]; rfl
    rw [rv_get ht, e]
    split
    · rfl
    · rename_i h1
      have : L.length - 1 - t = t := by omega
      rw [this]
  · rw [List.getElem?_eq_none (by rw [rv_len]; exact ht), List.getElem?_eq_none (by rw [List.length_reverse]; exact ht)]
theorem rv_step {L : List ByteArray} {i : Nat} (h : i + i + 1 < L.length) : ((rv L i).set i (L.getD (L.length - 1 - i) ByteArray.empty)).set (L.length - 1 - i) (L.getD i ByteArray.empty) = rv L (i + 1) := by
  apply List.ext_getElem?
  intro t
  rcases Nat.lt_or_ge t L.length with ht | ht
  · rw [rv_get ht]
    by_cases h1 : t = L.length - 1 - i
    · subst h1
      rw [List.getElem?_set_self (by rw [List.length_set, rv_len]; exact ht), if_pos (.inr (by omega))]
      congr 2
      omega
    · rw [List.getElem?_set_ne (fun e => h1 e.symm)]
      by_cases h2 : t = i
      · subst h2
        rw [List.getElem?_set_self (by rw [rv_len]; exact ht), if_pos (.inl (by omega))]
      · rw [List.getElem?_set_ne (fun e => h2 e.symm), rv_get ht]
        by_cases h3 : t < i ∨ L.length ≤ t + i
        · rw [if_pos h3, if_pos (by omega)]
        · rw [if_neg h3, if_neg (by omega)]
  · rw [List.getElem?_eq_none (by rw [List.length_set, List.length_set, rv_len]; exact ht), List.getElem?_eq_none (by rw [rv_len]; exact ht)]
theorem srv_c {n : Nat} {L : List ByteArray} (hl : L.length ≤ 100000000) : runL n 212 [.own 0 L.length] [.row 9 1 (L.map strC) 0] = some (.tup [], [(0, .row 9 1 (L.reverse.map strC) 0)]) := by
  obtain ⟨b, hL, hI⟩ := loopG_R (O := tab n) (P := Tryz.prog) (m := 1) (N := 28) (lives := livesOf 212) (r := 1) (C := srv_C1) (exN := .exit 0) (M := L.length / 2) (enc := fun i (_ : Unit) => srv_h1 (rv L i) i ((L.length : Int) - 1 - (i : Int))) (out := fun _ => srv_o1a L.reverse)
    (fun i _ => i ≤ L.length / 2) () (by omega) (by omega) (fun h => by cases h)
    (fun i _ hi hI => by
      have e : ((L.length : Int) - 1 - (i : Int)).toNat = L.length - 1 - i := by omega
      have h1 : (rv L i)[((L.length : Int) - 1 - (i : Int)).toNat]? = some (L.getD (L.length - 1 - i) ByteArray.empty) := by
        rw [e, rv_get (by omega), if_neg (by omega)]
      have h2 : (rv L i)[i]? = some (L.getD i ByteArray.empty) := by rw [rv_get (by omega), if_neg (by omega)]
      have R := srv_r1_1 (n := n) (i_1 := i) (i2_1 := (L.length : Int) - 1 - (i : Int)) (out_1 := rv L i) (by omega) (by rw [rv_len]; omega) (by omega) h1 (by omega) (by rw [rv_len]; omega) h2 ⟨by omega, by omega⟩ ⟨by omega, by omega⟩
      rw [e, rv_step (by omega)] at R
      have e2 : (L.length : Int) - 1 - (i : Int) - 1 = (L.length : Int) - 1 - ((i + 1 : Nat) : Int) := by omega
      rw [e2] at R
      exact ⟨(), R, by omega⟩)
    (fun _ _ => by
      have R := srv_x1_1 (n := n) (i_1 := L.length / 2) (i2_1 := (L.length : Int) - 1 - ((L.length / 2 : Nat) : Int)) (out_1 := rv L (L.length / 2)) (by omega)
      have e : srv_o1a (rv L (L.length / 2)) = srv_o1a L.reverse := by rw [rv_full (by omega)]
      rw [e] at R
      exact R)
  rw [rv_zero] at hL
  have e : (L.length : Int) - 1 - ((0 : Nat) : Int) = (L.length : Int) - 1 := by omega
  rw [e] at hL
  exact srv_f1 ⟨by omega, by omega⟩ hL
/-- linear.decimal -/
theorem ldc_c {n K : Nat} (hK : (lmb K).length ≤ 100000) : run (n + 5) 176 [natA (lmb K)] = some (.lit (.string (bs (decDigits K)))) := by
  by_cases h0 : K = 0
  · subst h0
    have e : bs (decDigits 0) = (⟨#[48]⟩ : ByteArray) := by rw [dd_lt (by omega)]; rfl
    rw [e]
    exact ldc_f1 (by rw [lmb_zero]; rfl)
  have h9 : (lmb 1000000000).length ≤ 1000000 := by decide +kernel
  have hbits : K < 2 ^ (32 * (lmb K).length) := by
    have := val_lt (lim_lmb K)
    rw [val_lmb] at this
    rwa [Nat.pow_mul]
  have hM := rnd_le (32 * (lmb K).length) K
  have hdd := dd_bits _ K hbits
  obtain ⟨s, hL, hI⟩ := loopG_R (O := tab (n + 5)) (P := Tryz.prog) (m := 0) (N := 50) (lives := livesOf 176) (r := 5) (C := ldc_C5) (exN := .exit 0) (M := rnd (32 * (lmb K).length) K) (enc := fun i (s : Nat × List (List UInt8)) => ldc_h5 (lmb s.1) (lmb 1000000000) (s.2.map bs)) (out := fun s => ldc_o5a (s.2.map bs))
    (fun i s => s.1 ≤ K ∧ rnd (32 * (lmb K).length) s.1 + i = rnd (32 * (lmb K).length) K ∧ s.2.length = i ∧ dd0 s.1 ++ s.2.reverse.flatten = dd0 K) (K, []) ⟨Nat.le_refl _, rfl, rfl, by simp⟩ (by omega) (fun h => by cases h)
    (fun i s hi hI => by
      obtain ⟨k, parts⟩ := s
      obtain ⟨i1, i2, i3, i4⟩ := hI
      dsimp only at i1 i2 i3 i4 ⊢
      have hk0 : 0 < k := by
        rcases Nat.eq_zero_or_pos k with h | h
        · subst h; rw [rnd_zero] at i2; omega
        · exact h
      have hkl : (lmb k).length ≤ (lmb K).length := lmb_len_mono i1
      have hp : 0 < (lmb k).length := by rw [lmb_pos hk0]; simp
      have hlim : k < 2 ^ (32 * (lmb K).length) := Nat.lt_of_le_of_lt i1 hbits
      have hr : rnd (32 * (lmb K).length) k = rnd (32 * (lmb K).length) (k / 1000000000) + 1 := by
        obtain ⟨f, hf⟩ : ∃ f, 32 * (lmb K).length = f + 1 := ⟨32 * (lmb K).length - 1, by omega⟩
        rw [hf] at hlim ⊢
        rw [rnd, if_neg (by omega)]
        congr 1
        rw [Nat.pow_succ] at hlim
        exact rnd_enough f (f + 1) _ (by omega) (by rw [Nat.pow_succ]; omega)
      obtain ⟨d1, d2⟩ := dd0_step hk0
      have K2 := k_div (k := k) (m := 1000000000) (by omega) h9 (by omega)
      have hrm : k % 1000000000 < 18446744073709551616 := by omega
      have K3 := k_uint hrm
      have K4 := k_fu hrm
      by_cases hq : 0 < k / 1000000000
      · rw [if_pos hq] at d1
        have hql : 0 < (lmb (k / 1000000000)).length := by rw [lmb_pos hq]; simp
        refine ⟨(k / 1000000000, parts ++ [List.replicate (9 - (decDigits (k % 1000000000)).length) 48 ++ decDigits (k % 1000000000)]), ?_, Nat.le_trans (Nat.div_le_self _ _) i1, by dsimp only; omega, by simp [i3], ?_⟩
        · have R := ldc_r5_1 (n := n) (out_5 := parts.map bs) (by omega) K2 K3 K4 (by omega) ⟨by rw [bs_size]; omega, by rw [bs_size]; omega⟩ (k_rep d2) (by rw [bs_size, bs_size, List.length_replicate]; omega) (bs_app _ _).symm (by rw [List.length_map]; omega)
          have e : parts.map bs ++ [bs (List.replicate (9 - (decDigits (k % 1000000000)).length) 48 ++ decDigits (k % 1000000000))] = (parts ++ [List.replicate (9 - (decDigits (k % 1000000000)).length) 48 ++ decDigits (k % 1000000000)]).map bs := by simp
          rw [e] at R
          exact R
        · dsimp only
          rw [List.reverse_append, List.reverse_singleton, List.singleton_append, List.flatten_cons, ← List.append_assoc, ← d1]
          exact i4
      · rw [if_neg hq] at d1
        have hq0 : k / 1000000000 = 0 := by omega
        refine ⟨(k / 1000000000, parts ++ [decDigits (k % 1000000000)]), ?_, Nat.le_trans (Nat.div_le_self _ _) i1, by dsimp only; omega, by simp [i3], ?_⟩
        · have R := ldc_r5_2 (n := n) (out_5 := parts.map bs) (by omega) K2 K3 K4 (by rw [hq0, lmb_zero]; simp) (by rw [List.length_map]; omega)
          have e : parts.map bs ++ [bs (decDigits (k % 1000000000))] = (parts ++ [decDigits (k % 1000000000)]).map bs := by simp
          rw [e] at R
          exact R
        · dsimp only
          rw [List.reverse_append, List.reverse_singleton, List.singleton_append, List.flatten_cons, ← List.append_assoc, ← d1]
          exact i4)
    (fun s hI => by
      obtain ⟨k, parts⟩ := s
      obtain ⟨i1, i2, i3, i4⟩ := hI
      dsimp only at i1 i2 i3 i4 ⊢
      have hk0 : k = 0 := by
        rcases Nat.eq_zero_or_pos k with h | h
        · exact h
        · exfalso
          have hp : 0 < 32 * (lmb K).length := by
            have hkl : (lmb k).length ≤ (lmb K).length := lmb_len_mono i1
            have : 0 < (lmb k).length := by rw [lmb_pos h]; simp
            omega
          obtain ⟨f, hf⟩ : ∃ f, 32 * (lmb K).length = f + 1 := ⟨32 * (lmb K).length - 1, by omega⟩
          rw [hf, rnd, if_neg (by omega)] at i2
          omega
      subst hk0
      exact ldc_x5_1 (by rw [lmb_zero]; simp))
  obtain ⟨k, parts⟩ := s
  obtain ⟨i1, i2, i3, i4⟩ := hI
  dsimp only at i1 i2 i3 i4 hL
  have hk0 : k = 0 := by
    rcases Nat.eq_zero_or_pos k with h | h
    · exact h
    · exfalso
      have hp : 0 < 32 * (lmb K).length := by
        have hkl : (lmb k).length ≤ (lmb K).length := lmb_len_mono i1
        have : 0 < (lmb k).length := by rw [lmb_pos h]; simp
        omega
      obtain ⟨f, hf⟩ : ∃ f, 32 * (lmb K).length = f + 1 := ⟨32 * (lmb K).length - 1, by omega⟩
      rw [hf] at i2
      have e : rnd (f + 1) k = rnd f (k / 1000000000) + 1 := by rw [rnd, if_neg (by omega)]
      omega
  subst hk0
  have e0 : dd0 0 = [] := rfl
  have e1 : dd0 K = decDigits K := if_neg h0
  rw [e0, List.nil_append, e1] at i4
  have V := srv_c (n := n + 4) (L := parts.map bs) (by rw [List.length_map]; omega)
  have J := k_join (P := parts.reverse) (by rw [List.length_reverse]; omega) (by rw [i4]; omega)
  rw [i4, List.map_reverse] at J
  exact ldc_f2 (by have : 0 < (lmb K).length := by rw [lmb_pos (by omega)]; simp
                   omega) (HR := by rw [List.length_reverse]) (k_ofu (z := 1000000000) (by omega) (by omega)) hL V J
end Go.Proofs.YtlpmemelhlnfbaaGreatDoor
set_option linter.all false
set_option maxRecDepth 100000
set_option maxHeartbeats 6400000
namespace Go.Proofs.YtlpmemelhlnfbaaGreatDoor
open Go.RowKit
open Lib (decDigits)
attribute [local irreducible] run runL loopG exec

theorem dd0_10 {k : Nat} (h : 0 < k) : dd0 k = dd0 (k / 10) ++ [dig (k % 10)] := by
  unfold dd0
  rw [if_neg (by omega)]
  by_cases h1 : k < 10
  · rw [if_pos (by omega), dd_lt h1, Nat.mod_eq_of_lt h1]; rfl
  · rw [if_neg (by omega), dd_ge h1]
theorem oneB_dig (d : Nat) : oneB (48 + (d : Int)) = bs [dig d] := by
  unfold oneB bs dig
  have e : (48 + (d : Int)).toNat = 48 + d := by omega
  rw [e]
theorem bs_ne {l : List UInt8} (h : l ≠ []) : ¬ bs l = (⟨#[]⟩ : ByteArray) := fun e => h (bs_inj e)
theorem fdg_c {n K : Nat} (hK : (lmb K).length ≤ 100000) : run (n + 4) 127 [natA (lmb K)] = some (.lit (.string (bs (decDigits K)))) := by
  have hbits : K < 2 ^ (32 * (lmb K).length) := by
    have := val_lt (lim_lmb K)
    rw [val_lmb] at this
    rwa [Nat.pow_mul]
  have hdd := dd_bits _ K hbits
  have hpos := dd_pos K
  have rnd1 : ∀ (k : Nat) (l : List UInt8), k ≤ K → l.length ≤ 4000000 → (lmb k).length ≤ 100000 ∧ ((48 : Int) + ((k % 10 : Nat) : Int) < 256) ∧ k % 10 < 18446744073709551616 := fun k l h _ => ⟨Nat.le_trans (lmb_len_mono h) hK, by omega, by omega⟩
  obtain ⟨s, hL, hI⟩ := loopG_R (O := tab (n + 4)) (P := Tryz.prog) (m := 0) (N := 39) (lives := livesOf 127) (r := 3) (C := fdg_C3) (exN := .exit 0) (M := (decDigits K).length) (enc := fun _ (s : Nat × List UInt8) => fdg_h3 (lmb s.1) (bs s.2)) (out := fun s => fdg_o3a (bs s.2))
    (fun i s => s.1 ≤ K ∧ s.2.length = i ∧ ((i = 0 ∧ s.1 = K) ∨ (0 < i ∧ dd0 s.1 ++ s.2 = decDigits K))) (K, []) ⟨Nat.le_refl _, rfl, .inl ⟨rfl, rfl⟩⟩ (by omega) (fun h => by cases h)
    (fun i s hi hI => by
      obtain ⟨k, l⟩ := s
      obtain ⟨i1, i2, i3⟩ := hI
      dsimp only at i1 i2 i3 ⊢
      obtain ⟨b1, b2, b3⟩ := rnd1 k l i1 (by omega)
      have K2 := k_div10 (k := k) (by omega)
      have K3 := k_uint b3
      have w1 : IntKind.u64.wrap (48 + ((k % 10 : Nat) : Int)) = 48 + ((k % 10 : Nat) : Int) := by rw [wrapU64]; omega
      have w2 : IntKind.u8.wrap (48 + ((k % 10 : Nat) : Int)) = 48 + ((k % 10 : Nat) : Int) := by simp [IntKind.wrap, IntKind.signed, IntKind.bits]; omega
      have hs : (oneB (48 + ((k % 10 : Nat) : Int))).size + (bs l).size ≤ 9000000000000000000 := by rw [oneB_dig, bs_size, bs_size, List.length_singleton]; omega
      have e9 : oneB (48 + ((k % 10 : Nat) : Int)) ++ bs l = bs (dig (k % 10) :: l) := by rw [oneB_dig, bs_app]; rfl
      by_cases hk : 0 < k
      · have hp : 0 < (lmb k).length := by rw [lmb_pos hk]; simp
        have R := fdg_r3_1 (n := n) (nat_3 := lmb k) (str_3 := bs l) (by omega) K2 K3 w1 w2 ⟨by omega, b2⟩ hs e9.symm
        refine ⟨(k / 10, dig (k % 10) :: l), R, Nat.le_trans (Nat.div_le_self _ _) i1, by simp [i2], .inr ⟨by omega, ?_⟩⟩
        dsimp only
        have e := dd0_10 hk
        rcases i3 with ⟨h0, hk'⟩ | ⟨h0, h1⟩
        · have hl : l = [] := List.eq_nil_of_length_eq_zero (by omega)
          subst hl hk'
          rw [← e]
          unfold dd0
          rw [if_neg (by omega)]
        · rw [← h1, e]; simp
      · have hk0 : k = 0 := by omega
        subst hk0
        have hi0 : i = 0 := by
          rcases i3 with ⟨h0, _⟩ | ⟨h0, h1⟩
          · exact h0
          · exfalso
            have e : dd0 0 = [] := rfl
            rw [e, List.nil_append] at h1
            rw [← h1] at hi
            omega
        subst hi0
        have hl : l = [] := List.eq_nil_of_length_eq_zero i2
        subst hl
        have R := fdg_r3_2 (n := n) (nat_3 := lmb 0) (str_3 := bs []) (by rw [lmb_zero]; simp) rfl K2 K3 w1 w2 ⟨by omega, b2⟩ hs e9.symm
        refine ⟨(0 / 10, dig (0 % 10) :: []), R, by simp, by simp, .inr ⟨by omega, ?_⟩⟩
        rcases i3 with ⟨_, h1⟩ | ⟨h0, _⟩
        · subst h1
          rw [dd_lt (by omega)]
          rfl
        · omega)
    (fun s hI => by
      obtain ⟨k, l⟩ := s
      obtain ⟨i1, i2, i3⟩ := hI
      dsimp only at i1 i2 i3 ⊢
      have hl : l ≠ [] := fun e => by subst e; simp at i2; omega
      have hk0 : k = 0 := by
        rcases i3 with ⟨h0, _⟩ | ⟨_, h1⟩
        · omega
        · rcases Nat.eq_zero_or_pos k with h | h
          · exact h
          · exfalso
            have e := congrArg List.length h1
            have : 0 < (dd0 k).length := by unfold dd0; rw [if_neg (by omega)]; exact dd_pos k
            rw [List.length_append] at e
            omega
      subst hk0
      exact fdg_x3_1 (by rw [lmb_zero]; simp) (bs_ne hl))
  obtain ⟨k, l⟩ := s
  obtain ⟨i1, i2, i3⟩ := hI
  dsimp only at i1 i2 i3 hL
  have hl : l = decDigits K := by
    rcases i3 with ⟨h0, _⟩ | ⟨_, h1⟩
    · omega
    · have e := congrArg List.length h1
      rw [List.length_append] at e
      have : dd0 k = [] := List.eq_nil_of_length_eq_zero (by omega)
      rw [this, List.nil_append] at h1
      exact h1
  subst hl
  exact fdg_f1 (k_make (by omega)) hL
/-- the text of a number without its sign -/
def absT (q : Rat) : List UInt8 := decDigits q.num.natAbs ++ if q.den = 1 then [] else 47 :: decDigits q.den
theorem absT_len {q : Rat} (h : H q ≤ 100000) : (absT q).length ≤ 7000000 := by
  have bits : ∀ K : Nat, K < 2 ^ (32 * (lmb K).length) := fun K => by
    have := val_lt (lim_lmb K)
    rw [val_lmb] at this
    rwa [Nat.pow_mul]
  have h1 := dd_bits _ _ (bits q.num.natAbs)
  have h2 := dd_bits _ _ (bits q.den)
  have a1 : (lmb q.num.natAbs).length ≤ H q := Nat.le_max_left _ _
  have a2 : (lmb q.den).length ≤ H q := Nat.le_max_right _ _
  unfold absT
  rw [List.length_append]
  split
  · simp; omega
  · simp; omega
theorem rawQ_parts (q : Rat) : (rawQ q).l1 = lmb q.num.natAbs ∧ (rawQ q).l2 = (if q.den = 1 then [] else lmb q.den) ∧ (rawQ q).s = decide (q.num < 0) := ⟨rfl, rfl, rfl⟩
theorem den_pos (q : Rat) : 0 < (lmb q.den).length := by rw [lmb_pos q.den_pos]; simp
theorem fab_c {n : Nat} {q : Rat} (hq : H q ≤ 100000) : run (n + 5) 125 [ratV q] = some (.lit (.string (bs (absT q)))) := by
  have a1 : (lmb q.num.natAbs).length ≤ H q := Nat.le_max_left _ _
  have a2 : (lmb q.den).length ≤ H q := Nat.le_max_right _ _
  have ht := absT_len hq
  have K1 := fdg_c (n := n) (K := q.num.natAbs) (by omega)
  by_cases h : q.den = 1
  · have e : absT q = decDigits q.num.natAbs := by unfold absT; rw [if_pos h, List.append_nil]
    rw [e]
    exact fab_f2 K1 (by rw [(rawQ_parts q).2.1, if_pos h]; simp)
  · have e : bs (absT q) = bs (decDigits q.num.natAbs) ++ ((⟨#[47]⟩ : ByteArray) ++ bs (decDigits q.den)) := by
      unfold absT
      rw [if_neg h]
      have e2 : (⟨#[47]⟩ : ByteArray) = bs [47] := rfl
      rw [e2, bs_app, bs_app]; rfl
    have el : (rawQ q).l2 = lmb q.den := by rw [(rawQ_parts q).2.1, if_neg h]
    have K3 := fdg_c (n := n) (K := q.den) (by omega)
    rw [← el] at K3
    have hl := congrArg ByteArray.size e
    have hd := den_pos q
    unfold absT at ht
    rw [if_neg h, List.length_append, List.length_cons] at ht
    have s1 : (⟨#[47]⟩ : ByteArray).size + (bs (decDigits q.den)).size ≤ 9000000000000000000 := by rw [bs_size]; show 1 + _ ≤ _; omega
    have s2 : (bs (decDigits q.num.natAbs)).size + ((⟨#[47]⟩ : ByteArray) ++ bs (decDigits q.den)).size ≤ 9000000000000000000 := by
      have e2 : (⟨#[47]⟩ : ByteArray) = bs [47] := rfl
      rw [e2, bs_app, bs_size, bs_size]; simp; omega
    exact fab_f1 K1 (by rw [el]; omega) K3 s1 rfl s2 e
theorem lsz_c {n : Nat} {q : Rat} (hq : H q ≤ 100000) : run (n + 6) 121 [ratV q] = some (.lit (.string (bs (absT q)))) := by
  have a1 : (lmb q.num.natAbs).length ≤ H q := Nat.le_max_left _ _
  have a2 : (lmb q.den).length ≤ H q := Nat.le_max_right _ _
  have ht := absT_len hq
  have K1 := ldc_c (n := n) (K := q.num.natAbs) (by omega)
  by_cases h : q.den = 1
  · have e : absT q = decDigits q.num.natAbs := by unfold absT; rw [if_pos h, List.append_nil]
    rw [e]
    exact lsz_f2 K1 (by rw [(rawQ_parts q).2.1, if_pos h]; simp)
  · have e : bs (absT q) = bs (decDigits q.num.natAbs) ++ ((⟨#[47]⟩ : ByteArray) ++ bs (decDigits q.den)) := by
      unfold absT
      rw [if_neg h]
      have e2 : (⟨#[47]⟩ : ByteArray) = bs [47] := rfl
      rw [e2, bs_app, bs_app]; rfl
    have el : (rawQ q).l2 = lmb q.den := by rw [(rawQ_parts q).2.1, if_neg h]
    have K3 := ldc_c (n := n) (K := q.den) (by omega)
    rw [← el] at K3
    have hd := den_pos q
    unfold absT at ht
    rw [if_neg h, List.length_append, List.length_cons] at ht
    have s1 : (⟨#[47]⟩ : ByteArray).size + (bs (decDigits q.den)).size ≤ 9000000000000000000 := by rw [bs_size]; show 1 + _ ≤ _; omega
    have s2 : (bs (decDigits q.num.natAbs)).size + ((⟨#[47]⟩ : ByteArray) ++ bs (decDigits q.den)).size ≤ 9000000000000000000 := by
      have e2 : (⟨#[47]⟩ : ByteArray) = bs [47] := rfl
      rw [e2, bs_app, bs_size, bs_size]; simp; omega
    exact lsz_f1 K1 (by rw [el]; omega) K3 s1 rfl s2 e
/-- a text with a part more -/
def jn (a : List UInt8) (neg : Bool) (p : List UInt8) : List UInt8 := if a = [] then (if neg = true then 45 :: p else p) else a ++ ((if neg = true then [32, 45, 32] else [32, 43, 32]) ++ p)
theorem jn_len (a : List UInt8) (neg : Bool) (p : List UInt8) : (jn a neg p).length ≤ a.length + p.length + 3 := by
  unfold jn
  split
  · split
    · rw [List.length_cons]; omega
    · omega
  · rw [List.length_append, List.length_append]
    split <;> simp <;> omega
theorem fjn_c {n : Nat} {a p : List UInt8} {neg : Bool} (h : a.length + p.length ≤ 1000000000000) : run n 126 [.lit (.string (bs a)), .lit (.bool neg), .lit (.string (bs p))] = some (.lit (.string (bs (jn a neg p)))) := by
  have c1 : (⟨#[45]⟩ : ByteArray) = bs [45] := rfl
  have c2 : (⟨#[32, 45, 32]⟩ : ByteArray) = bs [32, 45, 32] := rfl
  have c3 : (⟨#[32, 43, 32]⟩ : ByteArray) = bs [32, 43, 32] := rfl
  unfold jn
  by_cases ha : a = []
  · subst ha
    rw [if_pos rfl]
    cases neg with
    | true =>
      exact fjn_f1 (n := n) (a0 := bs []) (a1 := true) (a2 := bs p) rfl rfl (by rw [c1, bs_size, bs_size]; simp; omega) (by rw [c1, bs_app]; rfl)
    | false => exact fjn_f2 (n := n) (a0 := bs []) (a1 := false) (a2 := bs p) rfl rfl
  · rw [if_neg ha]
    cases neg with
    | true =>
      exact fjn_f3 (n := n) (a0 := bs a) (a1 := true) (a2 := bs p) (bs_ne ha) rfl (by rw [c2, bs_size, bs_size]; simp; omega) rfl (by rw [c2, bs_app, bs_size, bs_size]; simp; omega) (by rw [c2, bs_app, bs_app, List.append_assoc]; rfl)
    | false =>
      exact fjn_f4 (n := n) (a0 := bs a) (a1 := false) (a2 := bs p) (bs_ne ha) rfl (by rw [c3, bs_size, bs_size]; simp; omega) rfl (by rw [c3, bs_app, bs_size, bs_size]; simp; omega) (by rw [c3, bs_app, bs_app, List.append_assoc]; rfl)
end Go.Proofs.YtlpmemelhlnfbaaGreatDoor
set_option linter.all false
set_option maxRecDepth 100000
set_option maxHeartbeats 6400000
namespace Go.Proofs.YtlpmemelhlnfbaaGreatDoor
open Go.RowKit
open Lib (decDigits)
attribute [local irreducible] run runL loopG exec

/-- the part of a term -/
def prt (t : Int × Rat) : List UInt8 := (if absT t.2 = [49] then [] else absT t.2 ++ [42]) ++ 120 :: decDigits t.1.toNat
def ngT (q : Rat) : Bool := (rawQ q).s
def txS (a : List UInt8) (t : Int × Rat) : List UInt8 := jn a (ngT t.2) (prt t)
def txL (l : List (Int × Rat)) : List UInt8 := l.foldl txS []
/-- the text of a form -/
def txt (f : Form) : List UInt8 := if f.2 ≠ 0 ∨ txL f.1 = [] then jn (txL f.1) (ngT f.2) (absT f.2) else txL f.1
theorem jn_ne {a p : List UInt8} {neg : Bool} (h : p ≠ []) : jn a neg p ≠ [] := by
  unfold jn
  split
  · split
    · simp
    · exact h
  · intro e
    have e2 := (List.append_eq_nil_iff.1 e).1
    contradiction
theorem prt_ne (t : Int × Rat) : prt t ≠ [] := fun e => by
  have := (List.append_eq_nil_iff.1 e).2
  cases this
theorem absT_ne (q : Rat) : absT q ≠ [] := fun e => dd_ne _ (List.append_eq_nil_iff.1 e).1
theorem txL_snoc (l : List (Int × Rat)) (t : Int × Rat) : txL (l ++ [t]) = txS (txL l) t := by
  unfold txL
  rw [List.foldl_append]
  rfl
/-- the bounds of a form with a short text -/
structure TxB (f : Form) : Prop where
  l : f.1.length ≤ 100
  t : ∀ t ∈ f.1, H t.2 ≤ 100 ∧ 0 ≤ t.1 ∧ t.1 < 9223372036854775808
  k : H f.2 ≤ 100
theorem dd_small {K m : Nat} (h : (lmb K).length ≤ m) : (decDigits K).length ≤ 32 * m + 1 := by
  have hb : K < 2 ^ (32 * (lmb K).length) := by
    have := val_lt (lim_lmb K)
    rw [val_lmb] at this
    rwa [Nat.pow_mul]
  have := dd_bits _ K hb
  omega
theorem absT_len2 {q : Rat} (h : H q ≤ 100) : (absT q).length ≤ 6500 := by
  have a1 : (lmb q.num.natAbs).length ≤ H q := Nat.le_max_left _ _
  have a2 : (lmb q.den).length ≤ H q := Nat.le_max_right _ _
  have h1 := dd_small (K := q.num.natAbs) (m := 100) (by omega)
  have h2 := dd_small (K := q.den) (m := 100) (by omega)
  unfold absT
  rw [List.length_append]
  split
  · simp; omega
  · simp; omega
theorem prt_len {t : Int × Rat} (h : H t.2 ≤ 100) (h0 : 0 ≤ t.1) (h1 : t.1 < 9223372036854775808) : (prt t).length ≤ 6700 := by
  have a1 := absT_len2 h
  have a2 : (lmb t.1.toNat).length ≤ 2 := lmb_len_le (by omega)
  have a3 := dd_small a2
  unfold prt
  rw [List.length_append, List.length_cons]
  split
  · simp; omega
  · rw [List.length_append]; simp; omega
theorem txS_len {a : List UInt8} {t : Int × Rat} (h : H t.2 ≤ 100 ∧ 0 ≤ t.1 ∧ t.1 < 9223372036854775808) : (txS a t).length ≤ a.length + 6703 := by
  have := jn_len a (ngT t.2) (prt t)
  have := prt_len h.1 h.2.1 h.2.2
  unfold txS
  omega
theorem txL_len : ∀ {l : List (Int × Rat)} {a : List UInt8}, (∀ t ∈ l, H t.2 ≤ 100 ∧ 0 ≤ t.1 ∧ t.1 < 9223372036854775808) → (l.foldl txS a).length ≤ a.length + l.length * 6703
  | [], a, _ => by simp
  | t :: l, a, h => by
    have h1 := txS_len (a := a) (h t (by simp))
    have h2 := txL_len (l := l) (a := txS a t) (fun u hu => h u (by simp [hu]))
    rw [List.foldl_cons, List.length_cons, Nat.add_mul]
    omega
/-! the closure of linear.Text -/
theorem jn_e0 (p : List UInt8) : jn [] false p = p := by simp [jn]
theorem jn_e1 (p : List UInt8) : jn [] true p = 45 :: p := by simp [jn]
theorem jn_n0 {a : List UInt8} (h : a ≠ []) (p : List UInt8) : jn a false p = a ++ [32, 43, 32] ++ p := by simp [jn, h]
theorem jn_n1 {a : List UInt8} (h : a ≠ []) (p : List UInt8) : jn a true p = a ++ [32, 45, 32] ++ p := by simp [jn, h]
section
variable {n : Nat}
theorem partE0 {neg : Bool} {p : List UInt8} (hs : neg = false) (hp : p.length ≤ 90000000) : runL (n + 6) 119 [.lit (.bool neg), .lit (.string (bs p)), .ptr 0 0] [.box 88 [.lit (.pointer none), .nl 1] false] = some (.tup [], [(0, .box 88 [.ptr 0 0, .own 1 (bs (jn [] neg p)).size] false), (1, .row 5 1 (strEls (bs (jn [] neg p))) 0)]) := by
  subst hs
  rw [jn_e0]
  exact bpart_0 (n := n + 4) (roomy_s (by rw [bs_size]; omega) (by omega))
theorem partE1 {neg : Bool} {p : List UInt8} (hs : neg = true) (hp : p.length ≤ 90000000) : runL (n + 6) 119 [.lit (.bool neg), .lit (.string (bs p)), .ptr 0 0] [.box 88 [.lit (.pointer none), .nl 1] false] = some (.tup [], [(0, .box 88 [.ptr 0 0, .own 2 (bs (jn [] neg p)).size] false), (2, .row 5 1 (strEls (bs (jn [] neg p))) 0)]) := by
  subst hs
  have h := bpart_1 (n := n + 4) (s := bs p) (roomy_s (by omega) (by omega)) (roomy_s (by rw [bs_size]; omega) (by omega))
  have h1 : (⟨#[45]⟩ : ByteArray) ++ bs p = bs (45 :: p) := bs_app [45] p
  have h2 : 1 + (bs p).size = (bs (45 :: p)).size := by rw [bs_size, bs_size, List.length_cons]; omega
  rw [h1, h2] at h
  rw [jn_e1]
  exact h
theorem partN {a p : List UInt8} {neg : Bool} (ha : a ≠ []) (hp : a.length + p.length ≤ 90000000) : runL (n + 6) 119 [.lit (.bool neg), .lit (.string (bs p)), .ptr 0 0] [.box 88 [.ptr 0 0, .own 1 (bs a).size] false, .row 5 1 (strEls (bs a)) 0] = some (.tup [], [(0, .box 88 [.ptr 0 0, .own 3 (bs (jn a neg p)).size] false), (3, .row 5 1 (strEls (bs (jn a neg p))) 0)]) := by
  have hs : 0 < (bs a).size := by rw [bs_size]; exact List.length_pos_iff.2 ha
  have c2 : (⟨#[32, 45, 32]⟩ : ByteArray) = bs [32, 45, 32] := rfl
  have c3 : (⟨#[32, 43, 32]⟩ : ByteArray) = bs [32, 43, 32] := rfl
  cases neg with
  | false =>
    have h := bpart_2 (n := n + 4) (a := bs a) (s := bs p) hs (roomy_s (by rw [bs_size]; omega) (by omega)) (roomy_s (by rw [bs_size, bs_size]; omega) (by omega))
    have h2 : (bs a).size + 3 + (bs p).size = (bs (a ++ [32, 43, 32] ++ p)).size := by rw [bs_size, bs_size, bs_size, List.length_append, List.length_append]; rfl
    rw [c3, bs_app, bs_app, h2] at h
    rw [jn_n0 ha]
    exact h
  | true =>
    have h := bpart_3 (n := n + 4) (a := bs a) (s := bs p) hs (roomy_s (by rw [bs_size]; omega) (by omega)) (roomy_s (by rw [bs_size, bs_size]; omega) (by omega))
    have h2 : (bs a).size + 3 + (bs p).size = (bs (a ++ [32, 45, 32] ++ p)).size := by rw [bs_size, bs_size, bs_size, List.length_append, List.length_append]; rfl
    rw [c2, bs_app, bs_app, h2] at h
    rw [jn_n1 ha]
    exact h
theorem bstr_c {a : List UInt8} (ha : a ≠ []) (hl : a.length ≤ 90000000) : runL (n + 6) 70 [.ptr 0 0] [.box 88 [.ptr 0 0, .own 1 (bs a).size] false, .row 5 1 (strEls (bs a)) 0] = some (.lit (.string (bs a)), [(0, .box 88 [.ptr 0 0, .own 1 (bs a).size] false)]) :=
  bstr_1 (n := n + 6) (by rw [bs_size]; exact List.length_pos_iff.2 ha) (by rw [bs_size]; omega)
theorem k_itoa {v : Int} (h0 : 0 ≤ v) (h1 : v < 9223372036854775808) : oItoa [.lit (.int .i64 v)] = some (.lit (.string (bs (decDigits v.toNat)))) := by
  simp only [oItoa]
  rw [if_pos ⟨by omega, by omega⟩]
  have e : Lib.itoa v = decDigits v.toNat := by
    unfold Lib.itoa
    rw [if_neg (by omega)]
  rw [e]
  rfl
/-- the string of a term -/
theorem prt_bs {t : Int × Rat} : (absT t.2 = [49] → bs (prt t) = (⟨#[120]⟩ : ByteArray) ++ bs (decDigits t.1.toNat)) ∧ (absT t.2 ≠ [49] → bs (prt t) = (bs (absT t.2) ++ (⟨#[42]⟩ : ByteArray)) ++ ((⟨#[120]⟩ : ByteArray) ++ bs (decDigits t.1.toNat))) := by
  have c1 : (⟨#[120]⟩ : ByteArray) = bs [120] := rfl
  have c2 : (⟨#[42]⟩ : ByteArray) = bs [42] := rfl
  unfold prt
  refine ⟨fun h => ?_, fun h => ?_⟩
  · rw [if_pos h, c1, bs_app]; rfl
  · rw [if_neg h, c1, c2, bs_app, bs_app, bs_app]; rfl
theorem ltx_c {f : Form} (hf : TxB f) : run (n + 7) 52 [formV f] = some (.lit (.string (bs (txt f)))) := by
  have hl := hf.l
  have hT : ∀ i, i ≤ f.1.length → (txL (f.1.take i)).length ≤ i * 6703 := fun i hi => by
    have h := txL_len (l := f.1.take i) (a := []) (fun t ht => hf.t t (List.mem_of_mem_take ht))
    rw [List.length_take] at h
    simp only [List.length_nil, Nat.zero_add] at h
    have : min i f.1.length * 6703 = i * 6703 := by rw [Nat.min_eq_left hi]
    unfold txL
    omega
  obtain ⟨b, hL, hI1, hI2⟩ := loopG_R (O := tab (n + 7)) (P := Tryz.prog) (m := 0) (N := 55) (lives := livesOf 52) (r := 4) (C := ltx_C4) (exN := .exit 0) (M := f.1.length)
    (enc := fun i (b : List UInt8) => if b = [] then ltx_h4 f i else ltx_hN f i (bs b)) (out := fun b => if b = [] then ltx_o4a f else ltx_oN f (bs b))
    (fun i b => b = txL (f.1.take i) ∧ i ≤ f.1.length) [] ⟨rfl, Nat.zero_le _⟩ (by omega) (fun h => by cases h)
    (fun i b hi hI => by
      obtain ⟨hb, hle⟩ := hI
      have hx : f.1[i]? = some f.1[i] := List.getElem?_eq_getElem hi
      obtain ⟨t, ht⟩ : ∃ t, f.1[i] = t := ⟨_, rfl⟩
      rw [ht] at hx
      have htk : f.1.take (i + 1) = f.1.take i ++ [t] := by rw [List.take_add_one, hx]; rfl
      obtain ⟨v, q⟩ := t
      obtain ⟨hq, hv0, hv1⟩ := hf.t _ (List.mem_of_getElem? hx)
      dsimp only at hq hv0 hv1
      have hbl := hT i hle
      rw [← hb] at hbl
      have hi6 : i * 6703 ≤ 100 * 6703 := Nat.mul_le_mul_right _ (by omega)
      have hpl := prt_len (t := (v, q)) hq hv0 hv1
      have hal := absT_len2 hq
      have hdl := dd_small (K := v.toNat) (m := 2) (lmb_len_le (by omega))
      have K3 := k_itoa hv0 hv1
      have K5 := lsz_c (n := n) (q := q) (by omega)
      have C1 : (i : Int) < (f.1.length : Int) := by omega
      have W : InI ((i : Int) + 1) := ⟨by omega, by omega⟩
      have e1 : (⟨#[120]⟩ : ByteArray).size = 1 := rfl
      have e2 : (⟨#[42]⟩ : ByteArray).size = 1 := rfl
      have c1 : (⟨#[49]⟩ : ByteArray) = bs [49] := rfl
      have S4 : (⟨#[120]⟩ : ByteArray).size + (bs (decDigits v.toNat)).size ≤ 9000000000000000000 := by rw [e1, bs_size]; omega
      have S7 : (bs (absT q)).size + (⟨#[42]⟩ : ByteArray).size ≤ 9000000000000000000 := by rw [e2, bs_size]; omega
      have c4 : (⟨#[120]⟩ : ByteArray) ++ bs (decDigits v.toNat) = bs (120 :: decDigits v.toNat) := bs_app [120] _
      have c5 : bs (absT q) ++ (⟨#[42]⟩ : ByteArray) = bs (absT q ++ [42]) := bs_app _ [42]
      have S8 : (bs (absT q) ++ (⟨#[42]⟩ : ByteArray)).size + ((⟨#[120]⟩ : ByteArray) ++ bs (decDigits v.toNat)).size ≤ 9000000000000000000 := by
        rw [c4, c5, bs_size, bs_size, List.length_append, List.length_cons]; simp; omega
      have hne : jn b (rawQ q).s (prt (v, q)) ≠ [] := jn_ne (prt_ne _)
      refine ⟨jn b (rawQ q).s (prt (v, q)), ?_, by rw [htk, txL_snoc, ← hb]; rfl, hi⟩
      rw [if_neg hne]
      by_cases h0 : b = []
      · subst h0
        rw [if_pos rfl]
        rcases (Bool.eq_false_or_eq_true (rawQ q).s).symm with hs | hs
        · have P0 := partE0 (n := n) (p := prt (v, q)) hs (by omega)
          by_cases h1 : absT q = [49]
          · have e := prt_bs (t := (v, q)).1 h1
            exact ltE1_2 C1 hx K3 S4 e K5 (by rw [h1]; rfl) P0 W
          · have e := prt_bs (t := (v, q)).2 h1
            exact ltE1_1 C1 hx K3 S4 rfl K5 (fun h => h1 (bs_inj (h.trans c1))) S7 rfl S8 e P0 W
        · have P0 := partE1 (n := n) (p := prt (v, q)) hs (by omega)
          by_cases h1 : absT q = [49]
          · have e := prt_bs (t := (v, q)).1 h1
            exact ltE2_2 C1 hx K3 S4 e K5 (by rw [h1]; rfl) P0 W
          · have e := prt_bs (t := (v, q)).2 h1
            exact ltE2_1 C1 hx K3 S4 rfl K5 (fun h => h1 (bs_inj (h.trans c1))) S7 rfl S8 e P0 W
      · rw [if_neg h0]
        have P0 := partN (n := n) (a := b) (p := prt (v, q)) (neg := (rawQ q).s) h0 (by omega)
        by_cases h1 : absT q = [49]
        · have e := prt_bs (t := (v, q)).1 h1
          exact ltN_2 C1 hx K3 S4 e K5 (by rw [h1]; rfl) P0 W
        · have e := prt_bs (t := (v, q)).2 h1
          exact ltN_1 C1 hx K3 S4 rfl K5 (fun h => h1 (bs_inj (h.trans c1))) S7 rfl S8 e P0 W)
    (fun b hI => by
      by_cases h0 : b = []
      · rw [if_pos h0, if_pos h0]; exact ltx_x4_1 (by omega)
      · rw [if_neg h0, if_neg h0]; exact ltN_x (by omega))
  rw [List.take_length] at hI1
  rw [if_pos rfl] at hL
  have hbl := hT f.1.length (Nat.le_refl _)
  rw [List.take_length, ← hI1] at hbl
  have hi6 : f.1.length * 6703 ≤ 100 * 6703 := Nat.mul_le_mul_right _ hl
  have hkl := absT_len2 hf.k
  have K3 := lsz_c (n := n) (q := f.2) (by have := hf.k; omega)
  have hn0 : (0 < ((rawQ f.2).l1.length : Int)) ↔ f.2 ≠ 0 := by
    have h9 : (rawQ f.2).l1 = lmb f.2.num.natAbs := rfl
    rw [h9]
    constructor
    · intro h e
      rw [e] at h
      simp [lmb_zero] at h
    · intro h
      have : 0 < f.2.num.natAbs := by
        rcases Nat.eq_zero_or_pos f.2.num.natAbs with h1 | h1
        · exact absurd (Rat.num_eq_zero.1 (Int.natAbs_eq_zero.1 h1)) h
        · exact h1
      rw [lmb_pos this]
      simp
  unfold txt ngT
  rw [← hI1]
  have hne : jn b (rawQ f.2).s (absT f.2) ≠ [] := jn_ne (absT_ne _)
  have hjl := jn_len b (rawQ f.2).s (absT f.2)
  have Z := bstr_c (n := n) hne (by omega)
  by_cases h0 : b = []
  · rw [if_pos (.inr h0)]
    subst h0
    rw [if_pos rfl] at hL
    by_cases h2 : f.2 = 0
    · have hs : (rawQ f.2).s = false := by rw [h2]; decide +kernel
      have P0 := partE0 (n := n) (p := absT f.2) hs (by omega)
      exact ltFE3 hL (fun h => hn0.1 h h2) (blen_0 (n := n + 6)) rfl K3 P0 Z
    · rcases (Bool.eq_false_or_eq_true (rawQ f.2).s).symm with hs | hs
      · have P0 := partE0 (n := n) (p := absT f.2) hs (by omega)
        exact ltFE1 hL (hn0.2 h2) K3 P0 Z
      · have P0 := partE1 (n := n) (p := absT f.2) hs (by omega)
        exact ltFE2 hL (hn0.2 h2) K3 P0 Z
  · rw [if_neg h0] at hL
    by_cases h2 : f.2 = 0
    · rw [if_neg (fun h => h.elim (fun h => h h2) h0)]
      have L0 := blen_1 (n := n + 6) (k := (bs b).size) (es := strEls (bs b))
      exact ltFN2 hL (fun h => hn0.1 h h2) L0 (by rw [bs_size]; have := List.length_pos_iff.2 h0; omega) (bstr_c (n := n) h0 (by omega))
    · rw [if_pos (.inl h2)]
      exact ltFN1 hL (hn0.2 h2) K3 (partN (n := n) h0 (by omega)) Z
theorem ftx_c {f : Form} (hf : TxB f) : run (n + 6) 54 [formV f] = some (.lit (.string (bs (txt f)))) := by
  have hl := hf.l
  have hT : ∀ i, i ≤ f.1.length → (txL (f.1.take i)).length ≤ i * 6703 := fun i hi => by
    have h := txL_len (l := f.1.take i) (a := []) (fun t ht => hf.t t (List.mem_of_mem_take ht))
    rw [List.length_take] at h
    simp only [List.length_nil, Nat.zero_add] at h
    have : min i f.1.length * 6703 = i * 6703 := by rw [Nat.min_eq_left hi]
    unfold txL
    omega
  obtain ⟨b, hL, hI1, hI2⟩ := loopG_R (O := tab (n + 6)) (P := Tryz.prog) (m := 0) (N := 55) (lives := livesOf 54) (r := 3) (C := ftx_C3) (exN := .exit 0) (M := f.1.length)
    (enc := fun i (b : List UInt8) => ftx_h3 f (bs b) i) (out := fun b => ftx_o3a f (bs b))
    (fun i b => b = txL (f.1.take i) ∧ i ≤ f.1.length) [] ⟨rfl, Nat.zero_le _⟩ (by omega) (fun h => by cases h)
    (fun i b hi hI => by
      obtain ⟨hb, hle⟩ := hI
      have hx : f.1[i]? = some f.1[i] := List.getElem?_eq_getElem hi
      obtain ⟨t, ht⟩ : ∃ t, f.1[i] = t := ⟨_, rfl⟩
      rw [ht] at hx
      have htk : f.1.take (i + 1) = f.1.take i ++ [t] := by rw [List.take_add_one, hx]; rfl
      obtain ⟨v, q⟩ := t
      obtain ⟨hq, hv0, hv1⟩ := hf.t _ (List.mem_of_getElem? hx)
      dsimp only at hq hv0 hv1
      have hbl := hT i hle
      rw [← hb] at hbl
      have hi6 : i * 6703 ≤ 100 * 6703 := Nat.mul_le_mul_right _ (by omega)
      have hpl := prt_len (t := (v, q)) hq hv0 hv1
      have hal := absT_len2 hq
      have hv2 : (lmb v.toNat).length ≤ 2 := lmb_len_le (by omega)
      have hdl := dd_small (K := v.toNat) (m := 2) hv2
      have K3 := fab_c (n := n) (q := q) (by omega)
      have K8 := k_ofu (z := v) hv0 (by omega)
      have K9 := fdg_c (n := n + 1) (K := v.toNat) (by omega)
      have C1 : (i : Int) < (f.1.length : Int) := by omega
      have W : InI ((i : Int) + 1) := ⟨by omega, by omega⟩
      have w7 : IntKind.u64.wrap v = v := by rw [wrapU64]; omega
      have e1 : (⟨#[120]⟩ : ByteArray).size = 1 := rfl
      have e2 : (⟨#[42]⟩ : ByteArray).size = 1 := rfl
      have c1 : (⟨#[49, 42]⟩ : ByteArray) = bs [49, 42] := rfl
      have S4 : (bs (absT q)).size + (⟨#[42]⟩ : ByteArray).size ≤ 9000000000000000000 := by rw [e2, bs_size]; omega
      have c5 : bs (absT q) ++ (⟨#[42]⟩ : ByteArray) = bs (absT q ++ [42]) := bs_app _ [42]
      have c6 : (⟨#[]⟩ : ByteArray) ++ (⟨#[120]⟩ : ByteArray) = bs [120] := bs_app [] [120]
      have c7 : bs (absT q ++ [42]) ++ (⟨#[120]⟩ : ByteArray) = bs (absT q ++ [42] ++ [120]) := bs_app _ [120]
      have J := fjn_c (n := n + 5) (a := b) (p := prt (v, q)) (neg := (rawQ q).s) (by omega)
      refine ⟨jn b (rawQ q).s (prt (v, q)), ?_, by rw [htk, txL_snoc, ← hb]; rfl, hi⟩
      by_cases h1 : absT q = [49]
      · have e : bs (prt (v, q)) = bs [120] ++ bs (decDigits v.toNat) := by
          rw [bs_app]; unfold prt; rw [if_pos h1]; rfl
        exact ftx_r3_1 C1 hx K3 S4 rfl (by rw [h1]; rfl) (by decide) c6.symm w7 K8 K9 (by rw [bs_size, bs_size, List.length_singleton]; omega) e J W
      · have e : bs (prt (v, q)) = bs (absT q ++ [42] ++ [120]) ++ bs (decDigits v.toNat) := by
          rw [bs_app]; unfold prt; rw [if_neg h1]; simp
        refine ftx_r3_2 C1 hx K3 S4 c5.symm (fun h => h1 ?_) (by rw [bs_size, e1, List.length_append]; simp; omega) c7.symm w7 K8 K9 (by rw [bs_size, bs_size, List.length_append, List.length_append]; simp; omega) e J W
        have h9 := bs_inj (h.trans c1)
        have h8 : absT q ++ [42] = [49] ++ [42] := h9
        exact List.append_cancel_right h8)
    (fun b hI => ftx_x3_1 (by omega))
  rw [List.take_length] at hI1
  have hbl := hT f.1.length (Nat.le_refl _)
  rw [List.take_length, ← hI1] at hbl
  have hi6 : f.1.length * 6703 ≤ 100 * 6703 := Nat.mul_le_mul_right _ hl
  have hkl := absT_len2 hf.k
  have hk := hf.k
  have K3 := fab_c (n := n) (q := f.2) (by omega)
  have J := fjn_c (n := n + 5) (a := b) (p := absT f.2) (neg := (rawQ f.2).s) (by omega)
  unfold txt ngT
  rw [← hI1]
  by_cases h0 : b = []
  · rw [if_pos (.inr h0)]
    exact ftx_f1 hL (by rw [h0]; rfl) K3 J
  · by_cases h2 : f.2 = 0
    · rw [if_neg (fun h => h.elim (fun h => h h2) h0)]
      exact ftx_f3 hL (bs_ne h0) (by omega) (sgR_eq_zero.2 h2)
    · rw [if_pos (.inl h2)]
      exact ftx_f2 hL (bs_ne h0) (by omega) (fun h => h2 (sgR_eq_zero.1 h)) K3 J
end
end Go.Proofs.YtlpmemelhlnfbaaGreatDoor
