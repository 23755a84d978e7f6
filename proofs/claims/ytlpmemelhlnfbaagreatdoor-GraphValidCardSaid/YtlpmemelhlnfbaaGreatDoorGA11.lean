import Derived.Test.YtlpmemelhlnfbaaGreatDoorGA10
import Derived.Test.YtlpmemelhlnfbaaGreatDoorGA7
import Derived.Test.YtlpmemelhlnfbaaGreatDoorGA5
set_option linter.all false
set_option maxRecDepth 100000
set_option maxHeartbeats 6400000
namespace Go.Proofs.YtlpmemelhlnfbaaGreatDoor
open Go.RowKit
open Lib (decDigits)
attribute [local irreducible] run runL loopG exec
theorem few_lmb {k : Nat} (h : (lmb k).length ≤ 1000000) : fewN (lmb k) = true := Nat.ble_eq_true_of_le (by omega)
theorem k_div {k m : Nat} (hk : (lmb k).length ≤ 1000000) (hm : (lmb m).length ≤ 1000000) (h0 : 0 < m) : (oND fun x y => .tup [natA (lmb (val x / val y)), natA (lmb (val x % val y)), .lit (.int .i64 0)]) [natA (lmb k), natA (lmb m)] = some (.tup [natA (lmb (k / m)), natA (lmb (k % m)), .lit (.int .i64 0)]) := by
  have hb : Nat.blt 0 m = true := Nat.ble_eq_true_of_le h0
  simp only [oND, decN_nat (lim_lmb _), few_lmb hk, few_lmb hm, val_lmb, hb, Bool.and_self, if_true]
theorem k_div10 {k : Nat} (hk : (lmb k).length ≤ 1000000) : (oND fun x y => .tup [natA (lmb (val x / val y)), natA (lmb (val x % val y)), .lit (.int .i64 0)]) [natA (lmb k), .sl 1 [[.lit (.int .u32 10)]]] = some (.tup [natA (lmb (k / 10)), natA (lmb (k % 10)), .lit (.int .i64 0)]) := by
  have e : AV.sl 1 [[.lit (.int .u32 10)]] = natA (lmb 10) := by
    have : lmb 10 = [10] := by decide +kernel
    rw [this]; rfl
  rw [e]
  exact k_div hk (by decide +kernel) (by omega)
theorem k_uint {k : Nat} (h : k < 18446744073709551616) : (oN1 u64N fun x => .tup [.lit (.int .u64 (val x : Nat)), .lit (.bool true)]) [natA (lmb k)] = some (.tup [.lit (.int .u64 (k : Int)), .lit (.bool true)]) := by
  have hl : (lmb k).length ≤ 2 := lmb_len_le (by simpa using h)
  have h64 : u64N (lmb k) = true := by
    unfold u64N
    rw [val_lmb]
    exact Nat.ble_eq_true_of_le h
  simp only [oN1, decN_nat (lim_lmb _), few_lmb (show (lmb k).length ≤ 1000000 by omega), h64, Bool.and_self, if_true, val_lmb]
theorem k_make {k : Nat} (hk : (lmb k).length ≤ 1000000) : (oN1 (fun _ => true) fun x => natA (lmb (val x))) [natA (lmb k)] = some (natA (lmb k)) := by
  simp only [oN1, decN_nat (lim_lmb _), few_lmb hk, Bool.and_self, if_true, val_lmb]
theorem k_ofu {z : Int} (h0 : 0 ≤ z) (h1 : z < 18446744073709551616) : (oU fun k => natA (lmb k)) [.lit (.int .u64 z)] = some (natA (lmb z.toNat)) := if_pos ⟨h0, h1⟩
theorem k_fu {d : Nat} (h : d < 18446744073709551616) : oFU [.lit (.int .u64 (d : Int)), .lit (.int .i64 10)] = some (.lit (.string (bs (decDigits d)))) := by
  have h1 : (0 : Int) ≤ (d : Int) ∧ (d : Int) < 18446744073709551616 := ⟨by omega, by omega⟩
  simp only [oFU]
  rw [if_pos h1, Int.toNat_natCast]
  rfl
theorem k_rep {l : List UInt8} (h : l.length ≤ 9) : oRepeat [.lit (.string (⟨#[48]⟩ : ByteArray)), .lit (.int .i64 (9 - ((bs l).size : Int)))] = some (.lit (.string (bs (List.replicate (9 - l.length) 48)))) := by
  have e : (9 - ((bs l).size : Int)).toNat = 9 - l.length := by rw [bs_size]; omega
  have e2 : (⟨#[48]⟩ : ByteArray).size = 1 := rfl
  unfold oRepeat
  dsimp only
  rw [if_pos ⟨by rw [bs_size]; omega, by rw [bs_size]; omega, by rw [e, e2]; omega⟩, e]
  rw [repL]
  rfl
theorem strsL_map (l : List ByteArray) : strsL (l.map strC) = some l := by
  induction l with
  | nil => rfl
  | cons a l ih => simp [strsL, ih]
theorem k_join {P : List (List UInt8)} (h1 : P.length ≤ 100000000) (h2 : P.flatten.length ≤ 100000000) : oJoin [.sl 1 ((P.map bs).map strC), .lit (.string (⟨#[]⟩ : ByteArray))] = some (.lit (.string (bs P.flatten))) := by
  have e : (P.map bs).map (fun (a : ByteArray) => a.data.toList) = P := by
    rw [List.map_map]
    conv => rhs; rw [← List.map_id P]
    apply List.map_congr_left
    intro x _
    exact bs_data x
  have e2 : (⟨#[]⟩ : ByteArray).data.toList = [] := rfl
  simp only [oJoin, strsL_map, e2, e, joinL]
  rw [if_pos ⟨by rw [List.length_map]; omega, by omega⟩]
  rfl
def rv (L : List ByteArray) (i : Nat) : List ByteArray := (List.range L.length).map fun t => if t < i ∨ L.length ≤ t + i then L.getD (L.length - 1 - t) ByteArray.empty else L.getD t ByteArray.empty
theorem rv_len (L : List ByteArray) (i : Nat) : (rv L i).length = L.length := by
  unfold rv
  rw [List.length_map, List.length_range]
theorem rv_get {L : List ByteArray} {i t : Nat} (ht : t < L.length) : (rv L i)[t]? = some (if t < i ∨ L.length ≤ t + i then L.getD (L.length - 1 - t) ByteArray.empty else L.getD t ByteArray.empty) := by
  unfold rv
  rw [List.getElem?_map, List.getElem?_range ht]
  rfl
theorem rv_zero (L : List ByteArray) : rv L 0 = L := by
  apply List.ext_getElem?
  intro t
  rcases Nat.lt_or_ge t L.length with ht | ht
  · rw [rv_get ht, if_neg (by omega), List.getD_eq_getElem?_getD, List.getElem?_eq_getElem ht]; rfl
  · rw [List.getElem?_eq_none (by rw [rv_len]; exact ht), List.getElem?_eq_none ht]
theorem rv_full {L : List ByteArray} {i : Nat} (h : L.length ≤ 2 * i + 1) : rv L i = L.reverse := by
  apply List.ext_getElem?
  intro t
  rcases Nat.lt_or_ge t L.length with ht | ht
  · have e : L.reverse[t]? = some (L.getD (L.length - 1 - t) ByteArray.empty) := by
      rw [List.getElem?_reverse ht, List.getD_eq_getElem?_getD, List.getElem?_eq_getElem (show L.length - 1 - t < L.length by omega)]; rfl
    rw [rv_get ht, e]
    split
    · rfl
    · rename_i h1
      have : L.length - 1 - t = t := by omega
      rw [this]
  · rw [List.getElem?_eq_none (by rw [rv_len]; exact ht), List.getElem?_eq_none (by rw [List.length_reverse]; exact ht)]
theorem rv_step {L : List ByteArray} {i : Nat} (h : i + i + 1 < L.length) : ((rv L i).set i (L.getD (L.length - 1 - i) ByteArray.empty)).set (L.length - 1 - i) (L.getD i ByteArray.empty) = rv L (i + 1) := by
  apply List.ext_getElem?
  intro t
  rcases Nat.lt_or_ge t L.length with ht | ht
  · rw [rv_get ht]
    by_cases h1 : t = L.length - 1 - i
    · subst h1
      rw [List.getElem?_set_self (by rw [List.length_set, rv_len]; exact ht), if_pos (.inr (by omega))]
      congr 2
      omega
    · rw [List.getElem?_set_ne (fun e => h1 e.symm)]
      by_cases h2 : t = i
      · subst h2
        rw [List.getElem?_set_self (by rw [rv_len]; exact ht), if_pos (.inl (by omega))]
      · rw [List.getElem?_set_ne (fun e => h2 e.symm), rv_get ht]
        by_cases h3 : t < i ∨ L.length ≤ t + i
        · rw [if_pos h3, if_pos (by omega)]
        · rw [if_neg h3, if_neg (by omega)]
  · rw [List.getElem?_eq_none (by rw [List.length_set, List.length_set, rv_len]; exact ht), List.getElem?_eq_none (by rw [rv_len]; exact ht)]
theorem srv_c {n : Nat} {L : List ByteArray} (hl : L.length ≤ 100000000) : runL n 212 [.own 0 L.length] [.row 9 1 (L.map strC) 0] = some (.tup [], [(0, .row 9 1 (L.reverse.map strC) 0)]) := by
  obtain ⟨b, hL, hI⟩ := loopG_R (O := tab n) (P := Tryz.prog) (m := 1) (N := 28) (lives := livesOf 212) (r := 1) (C := srv_C1) (exN := .exit 0) (M := L.length / 2) (enc := fun i (_ : Unit) => srv_h1 (rv L i) i ((L.length : Int) - 1 - (i : Int))) (out := fun _ => srv_o1a L.reverse)
    (fun i _ => i ≤ L.length / 2) () (by omega) (by omega) (fun h => by cases h)
    (fun i _ hi hI => by
      have e : ((L.length : Int) - 1 - (i : Int)).toNat = L.length - 1 - i := by omega
      have h1 : (rv L i)[((L.length : Int) - 1 - (i : Int)).toNat]? = some (L.getD (L.length - 1 - i) ByteArray.empty) := by
        rw [e, rv_get (by omega), if_neg (by omega)]
      have h2 : (rv L i)[i]? = some (L.getD i ByteArray.empty) := by rw [rv_get (by omega), if_neg (by omega)]
      have R := srv_r1_1 (n := n) (i_1 := i) (i2_1 := (L.length : Int) - 1 - (i : Int)) (out_1 := rv L i) (by omega) (by rw [rv_len]; omega) (by omega) h1 (by omega) (by rw [rv_len]; omega) h2 ⟨by omega, by omega⟩ ⟨by omega, by omega⟩
      rw [e, rv_step (by omega)] at R
      have e2 : (L.length : Int) - 1 - (i : Int) - 1 = (L.length : Int) - 1 - ((i + 1 : Nat) : Int) := by omega
      rw [e2] at R
      exact ⟨(), R, by omega⟩)
    (fun _ _ => by
      have R := srv_x1_1 (n := n) (i_1 := L.length / 2) (i2_1 := (L.length : Int) - 1 - ((L.length / 2 : Nat) : Int)) (out_1 := rv L (L.length / 2)) (by omega)
      have e : srv_o1a (rv L (L.length / 2)) = srv_o1a L.reverse := by rw [rv_full (by omega)]
      rw [e] at R
      exact R)
  rw [rv_zero] at hL
  have e : (L.length : Int) - 1 - ((0 : Nat) : Int) = (L.length : Int) - 1 := by omega
  rw [e] at hL
  exact srv_f1 ⟨by omega, by omega⟩ hL
theorem ldc_c {n K : Nat} (hK : (lmb K).length ≤ 100000) : run (n + 5) 176 [natA (lmb K)] = some (.lit (.string (bs (decDigits K)))) := by
  by_cases h0 : K = 0
  · subst h0
    have e : bs (decDigits 0) = (⟨#[48]⟩ : ByteArray) := by rw [dd_lt (by omega)]; rfl
    rw [e]
    exact ldc_f1 (by rw [lmb_zero]; rfl)
  have h9 : (lmb 1000000000).length ≤ 1000000 := by decide +kernel
  have hbits : K < 2 ^ (32 * (lmb K).length) := by
    have := val_lt (lim_lmb K)
    rw [val_lmb] at this
    rwa [Nat.pow_mul]
  have hM := rnd_le (32 * (lmb K).length) K
  have hdd := dd_bits _ K hbits
  obtain ⟨s, hL, hI⟩ := loopG_R (O := tab (n + 5)) (P := Tryz.prog) (m := 0) (N := 50) (lives := livesOf 176) (r := 5) (C := ldc_C5) (exN := .exit 0) (M := rnd (32 * (lmb K).length) K) (enc := fun i (s : Nat × List (List UInt8)) => ldc_h5 (lmb s.1) (lmb 1000000000) (s.2.map bs)) (out := fun s => ldc_o5a (s.2.map bs))
    (fun i s => s.1 ≤ K ∧ rnd (32 * (lmb K).length) s.1 + i = rnd (32 * (lmb K).length) K ∧ s.2.length = i ∧ dd0 s.1 ++ s.2.reverse.flatten = dd0 K) (K, []) ⟨Nat.le_refl _, rfl, rfl, by simp⟩ (by omega) (fun h => by cases h)
    (fun i s hi hI => by
      obtain ⟨k, parts⟩ := s
      obtain ⟨i1, i2, i3, i4⟩ := hI
      dsimp only at i1 i2 i3 i4 ⊢
      have hk0 : 0 < k := by
        rcases Nat.eq_zero_or_pos k with h | h
        · subst h; rw [rnd_zero] at i2; omega
        · exact h
      have hkl : (lmb k).length ≤ (lmb K).length := lmb_len_mono i1
      have hp : 0 < (lmb k).length := by rw [lmb_pos hk0]; simp
      have hlim : k < 2 ^ (32 * (lmb K).length) := Nat.lt_of_le_of_lt i1 hbits
      have hr : rnd (32 * (lmb K).length) k = rnd (32 * (lmb K).length) (k / 1000000000) + 1 := by
        obtain ⟨f, hf⟩ : ∃ f, 32 * (lmb K).length = f + 1 := ⟨32 * (lmb K).length - 1, by omega⟩
        rw [hf] at hlim ⊢
        rw [rnd, if_neg (by omega)]
        congr 1
        rw [Nat.pow_succ] at hlim
        exact rnd_enough f (f + 1) _ (by omega) (by rw [Nat.pow_succ]; omega)
      obtain ⟨d1, d2⟩ := dd0_step hk0
      have K2 := k_div (k := k) (m := 1000000000) (by omega) h9 (by omega)
      have hrm : k % 1000000000 < 18446744073709551616 := by omega
      have K3 := k_uint hrm
      have K4 := k_fu hrm
      by_cases hq : 0 < k / 1000000000
      · rw [if_pos hq] at d1
        have hql : 0 < (lmb (k / 1000000000)).length := by rw [lmb_pos hq]; simp
        refine ⟨(k / 1000000000, parts ++ [List.replicate (9 - (decDigits (k % 1000000000)).length) 48 ++ decDigits (k % 1000000000)]), ?_, Nat.le_trans (Nat.div_le_self _ _) i1, by dsimp only; omega, by simp [i3], ?_⟩
        · have R := ldc_r5_1 (n := n) (out_5 := parts.map bs) (by omega) K2 K3 K4 (by omega) ⟨by rw [bs_size]; omega, by rw [bs_size]; omega⟩ (k_rep d2) (by rw [bs_size, bs_size, List.length_replicate]; omega) (bs_app _ _).symm (by rw [List.length_map]; omega)
          have e : parts.map bs ++ [bs (List.replicate (9 - (decDigits (k % 1000000000)).length) 48 ++ decDigits (k % 1000000000))] = (parts ++ [List.replicate (9 - (decDigits (k % 1000000000)).length) 48 ++ decDigits (k % 1000000000)]).map bs := by simp
          rw [e] at R
          exact R
        · dsimp only
          rw [List.reverse_append, List.reverse_singleton, List.singleton_append, List.flatten_cons, ← List.append_assoc, ← d1]
          exact i4
      · rw [if_neg hq] at d1
        have hq0 : k / 1000000000 = 0 := by omega
        refine ⟨(k / 1000000000, parts ++ [decDigits (k % 1000000000)]), ?_, Nat.le_trans (Nat.div_le_self _ _) i1, by dsimp only; omega, by simp [i3], ?_⟩
        · have R := ldc_r5_2 (n := n) (out_5 := parts.map bs) (by omega) K2 K3 K4 (by rw [hq0, lmb_zero]; simp) (by rw [List.length_map]; omega)
          have e : parts.map bs ++ [bs (decDigits (k % 1000000000))] = (parts ++ [decDigits (k % 1000000000)]).map bs := by simp
          rw [e] at R
          exact R
        · dsimp only
          rw [List.reverse_append, List.reverse_singleton, List.singleton_append, List.flatten_cons, ← List.append_assoc, ← d1]
          exact i4)
    (fun s hI => by
      obtain ⟨k, parts⟩ := s
      obtain ⟨i1, i2, i3, i4⟩ := hI
      dsimp only at i1 i2 i3 i4 ⊢
      have hk0 : k = 0 := by
        rcases Nat.eq_zero_or_pos k with h | h
        · exact h
        · exfalso
          have hp : 0 < 32 * (lmb K).length := by
            have hkl : (lmb k).length ≤ (lmb K).length := lmb_len_mono i1
            have : 0 < (lmb k).length := by rw [lmb_pos h]; simp
            omega
          obtain ⟨f, hf⟩ : ∃ f, 32 * (lmb K).length = f + 1 := ⟨32 * (lmb K).length - 1, by omega⟩
          rw [hf, rnd, if_neg (by omega)] at i2
          omega
      subst hk0
      exact ldc_x5_1 (by rw [lmb_zero]; simp))
  obtain ⟨k, parts⟩ := s
  obtain ⟨i1, i2, i3, i4⟩ := hI
  dsimp only at i1 i2 i3 i4 hL
  have hk0 : k = 0 := by
    rcases Nat.eq_zero_or_pos k with h | h
    · exact h
    · exfalso
      have hp : 0 < 32 * (lmb K).length := by
        have hkl : (lmb k).length ≤ (lmb K).length := lmb_len_mono i1
        have : 0 < (lmb k).length := by rw [lmb_pos h]; simp
        omega
      obtain ⟨f, hf⟩ : ∃ f, 32 * (lmb K).length = f + 1 := ⟨32 * (lmb K).length - 1, by omega⟩
      rw [hf] at i2
      have e : rnd (f + 1) k = rnd f (k / 1000000000) + 1 := by rw [rnd, if_neg (by omega)]
      omega
  subst hk0
  have e0 : dd0 0 = [] := rfl
  have e1 : dd0 K = decDigits K := if_neg h0
  rw [e0, List.nil_append, e1] at i4
  have V := srv_c (n := n + 4) (L := parts.map bs) (by rw [List.length_map]; omega)
  have J := k_join (P := parts.reverse) (by rw [List.length_reverse]; omega) (by rw [i4]; omega)
  rw [i4, List.map_reverse] at J
  exact ldc_f2 (by have : 0 < (lmb K).length := by rw [lmb_pos (by omega)]; simp
                   omega) (HR := by rw [List.length_reverse]) (k_ofu (z := 1000000000) (by omega) (by omega)) hL V J
end Go.Proofs.YtlpmemelhlnfbaaGreatDoor
set_option linter.all false
set_option maxRecDepth 100000
set_option maxHeartbeats 6400000
namespace Go.Proofs.YtlpmemelhlnfbaaGreatDoor
open Go.RowKit
section
variable {cat2 : ByteArray} {cat : ByteArray} {r2 : ByteArray} {a0 : Rat} {r : ByteArray} {n : Nat}
theorem lsz_f1 (K1 : run (n + 5) 176 [natA (rawQ a0).l1] = some (.lit (.string r))) (C2 : 0 < ((rawQ a0).l2.length : Int)) (K3 : run (n + 5) 176 [natA (rawQ a0).l2] = some (.lit (.string r2))) (S4 : (⟨#[47]⟩ : ByteArray).size + r2.size ≤ 9000000000000000000) (D4 : cat = (⟨#[47]⟩ : ByteArray) ++ r2) (S5 : r.size + cat.size ≤ 9000000000000000000) (D5 : cat2 = r ++ cat) :
    run (n + 6) 121 [ratV a0] = some (.lit (.string cat2)) := by
  have C2_ : 0 < (rawQ a0).l2.length := by omega
  have C2_z : ((rawQ a0).l2.length : Int) ≠ 0 := by omega
  have C2_e : (((rawQ a0).l2.length : Int) == 0) = false := by simpa using C2_z
  have C2_g : (((rawQ a0).l2.length : Int) != 0) = true := by simpa using C2_z
  have S4_r := cat_r S4 D4
  have S4_q := cat_q S4 D4
  have S5_r := cat_r S5 D5
  have S5_q := cat_q S5 D5
  unfold run fnP
  simp +decide [Tryz.f121, K1, C2, C2_, C2_e, C2_g, K3, ↓S4_r, S4_q, ↓S5_r, S5_q]
theorem lsz_f2 (K1 : run (n + 5) 176 [natA (rawQ a0).l1] = some (.lit (.string r))) (C2 : ¬ 0 < ((rawQ a0).l2.length : Int)) :
    run (n + 6) 121 [ratV a0] = some (.lit (.string r)) := by
  have C2_ : ¬ 0 < (rawQ a0).l2.length := by omega
  have C2_z : ((rawQ a0).l2.length : Int) = 0 := by omega
  have C2_e : (((rawQ a0).l2.length : Int) == 0) = true := by rw [C2_z]; simp
  have C2_g : (((rawQ a0).l2.length : Int) != 0) = false := by rw [C2_z]; simp
  unfold run fnP
  simp +decide [Tryz.f121, K1, C2, C2_, C2_e, C2_g]
end
end Go.Proofs.YtlpmemelhlnfbaaGreatDoor
set_option linter.all false
set_option maxRecDepth 100000
set_option maxHeartbeats 6400000
namespace Go.Proofs.YtlpmemelhlnfbaaGreatDoor
open Go.RowKit
noncomputable def fdg_C3 : Code := (loopsOf (bodyOf Tryz.f127)).getD 0 .skip
def fdg_h3 (nat_3 : List Nat) (str_3 : ByteArray) : St :=
  ⟨[(0, natA nat_3), (3, .lit (.string str_3))],
   [], 0⟩
def fdg_o3a (str_3 : ByteArray) : St :=
  ⟨[(3, .lit (.string str_3))],
   [], 0⟩
section
variable {r23 : List Nat} {r22 : List Nat} {cat5 : ByteArray} {str_3 : ByteArray} {r25 : Int} {r26 : Bool} {r24 : Int} {nat_3 : List Nat} {n : Nat} {cat6 : ByteArray} {r28 : List Nat} {r31 : Bool} {r29 : Int} {r30 : Int} {r27 : List Nat} {a0 : List Nat} {r : List Nat}
theorem fdg_r3_1 (C1 : 0 < (nat_3.length : Int)) (K2 : (oND fun x y => .tup [natA (lmb (val x / val y)), natA (lmb (val x % val y)), .lit (.int .i64 0)]) [natA nat_3, .sl 1 [[.lit (.int .u32 10)]]] = some (.tup [natA r22, natA r23, .lit (.int .i64 r24)])) (K3 : (oN1 u64N fun x => .tup [.lit (.int .u64 (val x : Nat)), .lit (.bool true)]) [natA r23] = some (.tup [.lit (.int .u64 r25), .lit (.bool r26)])) (W4 : IntKind.u64.wrap (48 + r25) = 48 + r25) (W5 : IntKind.u8.wrap (48 + r25) = 48 + r25) (O6 : 0 ≤ 48 + r25 ∧ 48 + r25 < 256) (S7 : ((oneB (48 + r25))).size + str_3.size ≤ 9000000000000000000) (D7 : cat5 = ((oneB (48 + r25))) ++ str_3) :
    Cont 0 (exec Tryz.prog (tab (n + 4)) 0 39 (livesOf 127) big fdg_C3) (livesOf 127 3) (fdg_h3 nat_3 str_3) (fdg_h3 r22 cat5) := by
  have C1_ : 0 < nat_3.length := by omega
  have C1_z : (nat_3.length : Int) ≠ 0 := by omega
  have C1_e : ((nat_3.length : Int) == 0) = false := by simpa using C1_z
  have C1_g : ((nat_3.length : Int) != 0) = true := by simpa using C1_z
  have O6_ := strOf_one O6.1 O6.2
  have S7_r := cat_r S7 D7
  have S7_q := cat_q S7 D7
  unfold Cont
  simp +decide [fdg_h3, loopsOf, Tryz.f127, fdg_C3, C1, C1_, C1_e, C1_g, K2, K3, W4, W5, O6_, ↓S7_r, S7_q]
theorem fdg_r3_2 (C1 : ¬ 0 < (nat_3.length : Int)) (C2 : str_3 = (⟨#[]⟩ : ByteArray)) (K3 : (oND fun x y => .tup [natA (lmb (val x / val y)), natA (lmb (val x % val y)), .lit (.int .i64 0)]) [natA nat_3, .sl 1 [[.lit (.int .u32 10)]]] = some (.tup [natA r27, natA r28, .lit (.int .i64 r29)])) (K4 : (oN1 u64N fun x => .tup [.lit (.int .u64 (val x : Nat)), .lit (.bool true)]) [natA r28] = some (.tup [.lit (.int .u64 r30), .lit (.bool r31)])) (W5 : IntKind.u64.wrap (48 + r30) = 48 + r30) (W6 : IntKind.u8.wrap (48 + r30) = 48 + r30) (O7 : 0 ≤ 48 + r30 ∧ 48 + r30 < 256) (S8 : ((oneB (48 + r30))).size + str_3.size ≤ 9000000000000000000) (D8 : cat6 = ((oneB (48 + r30))) ++ str_3) :
    Cont 0 (exec Tryz.prog (tab (n + 4)) 0 39 (livesOf 127) big fdg_C3) (livesOf 127 3) (fdg_h3 nat_3 str_3) (fdg_h3 r27 cat6) := by
  have C1_ : ¬ 0 < nat_3.length := by omega
  have C1_z : (nat_3.length : Int) = 0 := by omega
  have C1_e : ((nat_3.length : Int) == 0) = true := by rw [C1_z]; simp
  have C1_g : ((nat_3.length : Int) != 0) = false := by rw [C1_z]; simp
  have C2_ : (str_3.toList == (⟨#[]⟩ : ByteArray).toList) = true := by rw [C2]; simp
  have C2_n : (str_3.toList != (⟨#[]⟩ : ByteArray).toList) = false := by rw [bne, C2_]; rfl
  have C2_i : str_3.toList.isEmpty = true := by rw [C2, ba_toList] <;> rfl
  have O7_ := strOf_one O7.1 O7.2
  have S8_r := cat_r S8 D8
  have S8_q := cat_q S8 D8
  unfold Cont
  simp +decide [fdg_h3, loopsOf, Tryz.f127, fdg_C3, C1, C1_, C1_e, C1_g, C2_, C2_n, C2_i, K3, K4, W5, W6, O7_, ↓S8_r, S8_q]
theorem fdg_x3_1 (C1 : ¬ 0 < (nat_3.length : Int)) (C2 : ¬ str_3 = (⟨#[]⟩ : ByteArray)) :
    Leave 0 (exec Tryz.prog (tab (n + 4)) 0 39 (livesOf 127) big fdg_C3) (livesOf 127 (outOf 3)) (fdg_h3 nat_3 str_3) (.exit 0) (fdg_o3a str_3) := by
  have C1_ : ¬ 0 < nat_3.length := by omega
  have C1_z : (nat_3.length : Int) = 0 := by omega
  have C1_e : ((nat_3.length : Int) == 0) = true := by rw [C1_z]; simp
  have C1_g : ((nat_3.length : Int) != 0) = false := by rw [C1_z]; simp
  have C2_ : (str_3.toList == (⟨#[]⟩ : ByteArray).toList) = false := by rw [beq_eq_false_iff_ne]; exact fun h => C2 (ba_inj h)
  have C2_n : (str_3.toList != (⟨#[]⟩ : ByteArray).toList) = true := by rw [bne, C2_]; rfl
  have C2_i : str_3.toList.isEmpty = false := by rcases he : str_3.toList.isEmpty with _ | _; rfl; exact absurd (ba_inj (by rw [List.isEmpty_iff.1 he, ba_toList] <;> rfl)) C2
  unfold Leave
  simp +decide [fdg_h3, loopsOf, Tryz.f127, fdg_o3a, fdg_C3, C1, C1_, C1_e, C1_g, C2_, C2_n, C2_i]
theorem fdg_f1 (K1 : (oN1 (fun _ => true) fun x => natA (lmb (val x))) [natA a0] = some (natA r)) (L2 : loopG Tryz.prog (tab (n + 4)) 0 39 (livesOf 127) 3 fdg_C3 (fdg_h3 r (⟨#[]⟩ : ByteArray)) = some (.exit 0, fdg_o3a str_3)) :
    run (n + 4) 127 [natA a0] = some (.lit (.string str_3)) := by
  unfold run fnP
  simp +decide [Tryz.f127, K1]
  rw [loopX_G (C' := fdg_C3) (e := (fdg_h3 r (⟨#[]⟩ : ByteArray))) ?_ ?_, L2]
  rotate_left
  · kernel_rfl
  · simp +decide [fdg_h3, K1]
  simp +decide [fdg_o3a, K1]
end
end Go.Proofs.YtlpmemelhlnfbaaGreatDoor
set_option linter.all false
set_option maxRecDepth 100000
set_option maxHeartbeats 6400000
namespace Go.Proofs.YtlpmemelhlnfbaaGreatDoor
open Go.RowKit
section
variable {cat2 : ByteArray} {cat : ByteArray} {r2 : ByteArray} {a0 : Rat} {r : ByteArray} {n : Nat}
theorem fab_f1 (K1 : run (n + 4) 127 [natA (rawQ a0).l1] = some (.lit (.string r))) (C2 : 0 < ((rawQ a0).l2.length : Int)) (K3 : run (n + 4) 127 [natA (rawQ a0).l2] = some (.lit (.string r2))) (S4 : (⟨#[47]⟩ : ByteArray).size + r2.size ≤ 9000000000000000000) (D4 : cat = (⟨#[47]⟩ : ByteArray) ++ r2) (S5 : r.size + cat.size ≤ 9000000000000000000) (D5 : cat2 = r ++ cat) :
    run (n + 5) 125 [ratV a0] = some (.lit (.string cat2)) := by
  have C2_ : 0 < (rawQ a0).l2.length := by omega
  have C2_z : ((rawQ a0).l2.length : Int) ≠ 0 := by omega
  have C2_e : (((rawQ a0).l2.length : Int) == 0) = false := by simpa using C2_z
  have C2_g : (((rawQ a0).l2.length : Int) != 0) = true := by simpa using C2_z
  have S4_r := cat_r S4 D4
  have S4_q := cat_q S4 D4
  have S5_r := cat_r S5 D5
  have S5_q := cat_q S5 D5
  unfold run fnP
  simp +decide [Tryz.f125, K1, C2, C2_, C2_e, C2_g, K3, ↓S4_r, S4_q, ↓S5_r, S5_q]
theorem fab_f2 (K1 : run (n + 4) 127 [natA (rawQ a0).l1] = some (.lit (.string r))) (C2 : ¬ 0 < ((rawQ a0).l2.length : Int)) :
    run (n + 5) 125 [ratV a0] = some (.lit (.string r)) := by
  have C2_ : ¬ 0 < (rawQ a0).l2.length := by omega
  have C2_z : ((rawQ a0).l2.length : Int) = 0 := by omega
  have C2_e : (((rawQ a0).l2.length : Int) == 0) = true := by rw [C2_z]; simp
  have C2_g : (((rawQ a0).l2.length : Int) != 0) = false := by rw [C2_z]; simp
  unfold run fnP
  simp +decide [Tryz.f125, K1, C2, C2_, C2_e, C2_g]
end
end Go.Proofs.YtlpmemelhlnfbaaGreatDoor
set_option linter.all false
set_option maxRecDepth 100000
set_option maxHeartbeats 6400000
namespace Go.Proofs.YtlpmemelhlnfbaaGreatDoor
open Go.RowKit
section
variable {cat : ByteArray} {a1 : Bool} {a0 : ByteArray} {n : Nat} {a2 : ByteArray} {cat2 : ByteArray} {cat3 : ByteArray} {cat5 : ByteArray} {cat4 : ByteArray}
theorem fjn_f1 (C1 : a0 = (⟨#[]⟩ : ByteArray)) (C2 : a1 = true) (S3 : (⟨#[45]⟩ : ByteArray).size + a2.size ≤ 9000000000000000000) (D3 : cat = (⟨#[45]⟩ : ByteArray) ++ a2) :
    run n 126 [.lit (.string a0), .lit (.bool a1), .lit (.string a2)] = some (.lit (.string cat)) := by
  have C1_ : (a0.toList == (⟨#[]⟩ : ByteArray).toList) = true := by rw [C1]; simp
  have C1_n : (a0.toList != (⟨#[]⟩ : ByteArray).toList) = false := by rw [bne, C1_]; rfl
  have C1_i : a0.toList.isEmpty = true := by rw [C1, ba_toList] <;> rfl
  have S3_r := cat_r S3 D3
  have S3_q := cat_q S3 D3
  unfold run fnP
  simp +decide [Tryz.f126, C1_, C1_n, C1_i, C2, ↓S3_r, S3_q]
theorem fjn_f2 (C1 : a0 = (⟨#[]⟩ : ByteArray)) (C2 : a1 = false) :
    run n 126 [.lit (.string a0), .lit (.bool a1), .lit (.string a2)] = some (.lit (.string a2)) := by
  have C1_ : (a0.toList == (⟨#[]⟩ : ByteArray).toList) = true := by rw [C1]; simp
  have C1_n : (a0.toList != (⟨#[]⟩ : ByteArray).toList) = false := by rw [bne, C1_]; rfl
  have C1_i : a0.toList.isEmpty = true := by rw [C1, ba_toList] <;> rfl
  unfold run fnP
  simp +decide [Tryz.f126, C1_, C1_n, C1_i, C2]
theorem fjn_f3 (C1 : ¬ a0 = (⟨#[]⟩ : ByteArray)) (C2 : a1 = true) (S3 : a0.size + (⟨#[32, 45, 32]⟩ : ByteArray).size ≤ 9000000000000000000) (D3 : cat2 = a0 ++ (⟨#[32, 45, 32]⟩ : ByteArray)) (S4 : cat2.size + a2.size ≤ 9000000000000000000) (D4 : cat3 = cat2 ++ a2) :
    run n 126 [.lit (.string a0), .lit (.bool a1), .lit (.string a2)] = some (.lit (.string cat3)) := by
  obtain ⟨ks0, hks0⟩ : ∃ k : ByteArray, (⟨#[32, 45, 32]⟩ : ByteArray) = k := ⟨_, rfl⟩
  rw [hks0] at S3 D3
  have C1_ : (a0.toList == (⟨#[]⟩ : ByteArray).toList) = false := by rw [beq_eq_false_iff_ne]; exact fun h => C1 (ba_inj h)
  have C1_n : (a0.toList != (⟨#[]⟩ : ByteArray).toList) = true := by rw [bne, C1_]; rfl
  have C1_i : a0.toList.isEmpty = false := by rcases he : a0.toList.isEmpty with _ | _; rfl; exact absurd (ba_inj (by rw [List.isEmpty_iff.1 he, ba_toList] <;> rfl)) C1
  have S3_r := cat_r S3 D3
  have S3_q := cat_q S3 D3
  have S4_r := cat_r S4 D4
  have S4_q := cat_q S4 D4
  unfold run fnP
  simp +decide [Tryz.f126, C1_, C1_n, C1_i, C2, ↓S3_r, S3_q, ↓S4_r, S4_q, hks0]
theorem fjn_f4 (C1 : ¬ a0 = (⟨#[]⟩ : ByteArray)) (C2 : a1 = false) (S3 : a0.size + (⟨#[32, 43, 32]⟩ : ByteArray).size ≤ 9000000000000000000) (D3 : cat4 = a0 ++ (⟨#[32, 43, 32]⟩ : ByteArray)) (S4 : cat4.size + a2.size ≤ 9000000000000000000) (D4 : cat5 = cat4 ++ a2) :
    run n 126 [.lit (.string a0), .lit (.bool a1), .lit (.string a2)] = some (.lit (.string cat5)) := by
  obtain ⟨ks0, hks0⟩ : ∃ k : ByteArray, (⟨#[32, 43, 32]⟩ : ByteArray) = k := ⟨_, rfl⟩
  rw [hks0] at S3 D3
  have C1_ : (a0.toList == (⟨#[]⟩ : ByteArray).toList) = false := by rw [beq_eq_false_iff_ne]; exact fun h => C1 (ba_inj h)
  have C1_n : (a0.toList != (⟨#[]⟩ : ByteArray).toList) = true := by rw [bne, C1_]; rfl
  have C1_i : a0.toList.isEmpty = false := by rcases he : a0.toList.isEmpty with _ | _; rfl; exact absurd (ba_inj (by rw [List.isEmpty_iff.1 he, ba_toList] <;> rfl)) C1
  have S3_r := cat_r S3 D3
  have S3_q := cat_q S3 D3
  have S4_r := cat_r S4 D4
  have S4_q := cat_q S4 D4
  unfold run fnP
  simp +decide [Tryz.f126, C1_, C1_n, C1_i, C2, ↓S3_r, S3_q, ↓S4_r, S4_q, hks0]
end
end Go.Proofs.YtlpmemelhlnfbaaGreatDoor
set_option linter.all false
set_option maxRecDepth 100000
set_option maxHeartbeats 6400000
namespace Go.Proofs.YtlpmemelhlnfbaaGreatDoor
open Go.RowKit
open Lib (decDigits)
attribute [local irreducible] run runL loopG exec
theorem dd0_10 {k : Nat} (h : 0 < k) : dd0 k = dd0 (k / 10) ++ [dig (k % 10)] := by
  unfold dd0
  rw [if_neg (by omega)]
  by_cases h1 : k < 10
  · rw [if_pos (by omega), dd_lt h1, Nat.mod_eq_of_lt h1]; rfl
  · rw [if_neg (by omega), dd_ge h1]
theorem oneB_dig (d : Nat) : oneB (48 + (d : Int)) = bs [dig d] := by
  unfold oneB bs dig
  have e : (48 + (d : Int)).toNat = 48 + d := by omega
  rw [e]
theorem bs_ne {l : List UInt8} (h : l ≠ []) : ¬ bs l = (⟨#[]⟩ : ByteArray) := fun e => h (bs_inj e)
theorem fdg_c {n K : Nat} (hK : (lmb K).length ≤ 100000) : run (n + 4) 127 [natA (lmb K)] = some (.lit (.string (bs (decDigits K)))) := by
  have hbits : K < 2 ^ (32 * (lmb K).length) := by
    have := val_lt (lim_lmb K)
    rw [val_lmb] at this
    rwa [Nat.pow_mul]
  have hdd := dd_bits _ K hbits
  have hpos := dd_pos K
  have rnd1 : ∀ (k : Nat) (l : List UInt8), k ≤ K → l.length ≤ 4000000 → (lmb k).length ≤ 100000 ∧ ((48 : Int) + ((k % 10 : Nat) : Int) < 256) ∧ k % 10 < 18446744073709551616 := fun k l h _ => ⟨Nat.le_trans (lmb_len_mono h) hK, by omega, by omega⟩
  obtain ⟨s, hL, hI⟩ := loopG_R (O := tab (n + 4)) (P := Tryz.prog) (m := 0) (N := 39) (lives := livesOf 127) (r := 3) (C := fdg_C3) (exN := .exit 0) (M := (decDigits K).length) (enc := fun _ (s : Nat × List UInt8) => fdg_h3 (lmb s.1) (bs s.2)) (out := fun s => fdg_o3a (bs s.2))
    (fun i s => s.1 ≤ K ∧ s.2.length = i ∧ ((i = 0 ∧ s.1 = K) ∨ (0 < i ∧ dd0 s.1 ++ s.2 = decDigits K))) (K, []) ⟨Nat.le_refl _, rfl, .inl ⟨rfl, rfl⟩⟩ (by omega) (fun h => by cases h)
    (fun i s hi hI => by
      obtain ⟨k, l⟩ := s
      obtain ⟨i1, i2, i3⟩ := hI
      dsimp only at i1 i2 i3 ⊢
      obtain ⟨b1, b2, b3⟩ := rnd1 k l i1 (by omega)
      have K2 := k_div10 (k := k) (by omega)
      have K3 := k_uint b3
      have w1 : IntKind.u64.wrap (48 + ((k % 10 : Nat) : Int)) = 48 + ((k % 10 : Nat) : Int) := by rw [wrapU64]; omega
      have w2 : IntKind.u8.wrap (48 + ((k % 10 : Nat) : Int)) = 48 + ((k % 10 : Nat) : Int) := by simp [IntKind.wrap, IntKind.signed, IntKind.bits]; omega
      have hs : (oneB (48 + ((k % 10 : Nat) : Int))).size + (bs l).size ≤ 9000000000000000000 := by rw [oneB_dig, bs_size, bs_size, List.length_singleton]; omega
      have e9 : oneB (48 + ((k % 10 : Nat) : Int)) ++ bs l = bs (dig (k % 10) :: l) := by rw [oneB_dig, bs_app]; rfl
      by_cases hk : 0 < k
      · have hp : 0 < (lmb k).length := by rw [lmb_pos hk]; simp
        have R := fdg_r3_1 (n := n) (nat_3 := lmb k) (str_3 := bs l) (by omega) K2 K3 w1 w2 ⟨by omega, b2⟩ hs e9.symm
        refine ⟨(k / 10, dig (k % 10) :: l), R, Nat.le_trans (Nat.div_le_self _ _) i1, by simp [i2], .inr ⟨by omega, ?_⟩⟩
        dsimp only
        have e := dd0_10 hk
        rcases i3 with ⟨h0, hk'⟩ | ⟨h0, h1⟩
        · have hl : l = [] := List.eq_nil_of_length_eq_zero (by omega)
          subst hl hk'
          rw [← e]
          unfold dd0
          rw [if_neg (by omega)]
        · rw [← h1, e]; simp
      · have hk0 : k = 0 := by omega
        subst hk0
        have hi0 : i = 0 := by
          rcases i3 with ⟨h0, _⟩ | ⟨h0, h1⟩
          · exact h0
          · exfalso
            have e : dd0 0 = [] := rfl
            rw [e, List.nil_append] at h1
            rw [← h1] at hi
            omega
        subst hi0
        have hl : l = [] := List.eq_nil_of_length_eq_zero i2
        subst hl
        have R := fdg_r3_2 (n := n) (nat_3 := lmb 0) (str_3 := bs []) (by rw [lmb_zero]; simp) rfl K2 K3 w1 w2 ⟨by omega, b2⟩ hs e9.symm
        refine ⟨(0 / 10, dig (0 % 10) :: []), R, by simp, by simp, .inr ⟨by omega, ?_⟩⟩
        rcases i3 with ⟨_, h1⟩ | ⟨h0, _⟩
        · subst h1
          rw [dd_lt (by omega)]
          rfl
        · omega)
    (fun s hI => by
      obtain ⟨k, l⟩ := s
      obtain ⟨i1, i2, i3⟩ := hI
      dsimp only at i1 i2 i3 ⊢
      have hl : l ≠ [] := fun e => by subst e; simp at i2; omega
      have hk0 : k = 0 := by
        rcases i3 with ⟨h0, _⟩ | ⟨_, h1⟩
        · omega
        · rcases Nat.eq_zero_or_pos k with h | h
          · exact h
          · exfalso
            have e := congrArg List.length h1
            have : 0 < (dd0 k).length := by unfold dd0; rw [if_neg (by omega)]; exact dd_pos k
            rw [List.length_append] at e
            omega
      subst hk0
      exact fdg_x3_1 (by rw [lmb_zero]; simp) (bs_ne hl))
  obtain ⟨k, l⟩ := s
  obtain ⟨i1, i2, i3⟩ := hI
  dsimp only at i1 i2 i3 hL
  have hl : l = decDigits K := by
    rcases i3 with ⟨h0, _⟩ | ⟨_, h1⟩
    · omega
    · have e := congrArg List.length h1
      rw [List.length_append] at e
      have : dd0 k = [] := List.eq_nil_of_length_eq_zero (by omega)
      rw [this, List.nil_append] at h1
      exact h1
  subst hl
  exact fdg_f1 (k_make (by omega)) hL
def absT (q : Rat) : List UInt8 := decDigits q.num.natAbs ++ if q.den = 1 then [] else 47 :: decDigits q.den
theorem absT_len {q : Rat} (h : H q ≤ 100000) : (absT q).length ≤ 7000000 := by
  have bits : ∀ K : Nat, K < 2 ^ (32 * (lmb K).length) := fun K => by
    have := val_lt (lim_lmb K)
    rw [val_lmb] at this
    rwa [Nat.pow_mul]
  have h1 := dd_bits _ _ (bits q.num.natAbs)
  have h2 := dd_bits _ _ (bits q.den)
  have a1 : (lmb q.num.natAbs).length ≤ H q := Nat.le_max_left _ _
  have a2 : (lmb q.den).length ≤ H q := Nat.le_max_right _ _
  unfold absT
  rw [List.length_append]
  split
  · simp; omega
  · simp; omega
theorem rawQ_parts (q : Rat) : (rawQ q).l1 = lmb q.num.natAbs ∧ (rawQ q).l2 = (if q.den = 1 then [] else lmb q.den) ∧ (rawQ q).s = decide (q.num < 0) := ⟨rfl, rfl, rfl⟩
theorem den_pos (q : Rat) : 0 < (lmb q.den).length := by rw [lmb_pos q.den_pos]; simp
theorem fab_c {n : Nat} {q : Rat} (hq : H q ≤ 100000) : run (n + 5) 125 [ratV q] = some (.lit (.string (bs (absT q)))) := by
  have a1 : (lmb q.num.natAbs).length ≤ H q := Nat.le_max_left _ _
  have a2 : (lmb q.den).length ≤ H q := Nat.le_max_right _ _
  have ht := absT_len hq
  have K1 := fdg_c (n := n) (K := q.num.natAbs) (by omega)
  by_cases h : q.den = 1
  · have e : absT q = decDigits q.num.natAbs := by unfold absT; rw [if_pos h, List.append_nil]
    rw [e]
    exact fab_f2 K1 (by rw [(rawQ_parts q).2.1, if_pos h]; simp)
  · have e : bs (absT q) = bs (decDigits q.num.natAbs) ++ ((⟨#[47]⟩ : ByteArray) ++ bs (decDigits q.den)) := by
      unfold absT
      rw [if_neg h]
      have e2 : (⟨#[47]⟩ : ByteArray) = bs [47] := rfl
      rw [e2, bs_app, bs_app]; rfl
    have el : (rawQ q).l2 = lmb q.den := by rw [(rawQ_parts q).2.1, if_neg h]
    have K3 := fdg_c (n := n) (K := q.den) (by omega)
    rw [← el] at K3
    have hl := congrArg ByteArray.size e
    have hd := den_pos q
    unfold absT at ht
    rw [if_neg h, List.length_append, List.length_cons] at ht
    have s1 : (⟨#[47]⟩ : ByteArray).size + (bs (decDigits q.den)).size ≤ 9000000000000000000 := by rw [bs_size]; show 1 + _ ≤ _; omega
    have s2 : (bs (decDigits q.num.natAbs)).size + ((⟨#[47]⟩ : ByteArray) ++ bs (decDigits q.den)).size ≤ 9000000000000000000 := by
      have e2 : (⟨#[47]⟩ : ByteArray) = bs [47] := rfl
      rw [e2, bs_app, bs_size, bs_size]; simp; omega
    exact fab_f1 K1 (by rw [el]; omega) K3 s1 rfl s2 e
theorem lsz_c {n : Nat} {q : Rat} (hq : H q ≤ 100000) : run (n + 6) 121 [ratV q] = some (.lit (.string (bs (absT q)))) := by
  have a1 : (lmb q.num.natAbs).length ≤ H q := Nat.le_max_left _ _
  have a2 : (lmb q.den).length ≤ H q := Nat.le_max_right _ _
  have ht := absT_len hq
  have K1 := ldc_c (n := n) (K := q.num.natAbs) (by omega)
  by_cases h : q.den = 1
  · have e : absT q = decDigits q.num.natAbs := by unfold absT; rw [if_pos h, List.append_nil]
    rw [e]
    exact lsz_f2 K1 (by rw [(rawQ_parts q).2.1, if_pos h]; simp)
  · have e : bs (absT q) = bs (decDigits q.num.natAbs) ++ ((⟨#[47]⟩ : ByteArray) ++ bs (decDigits q.den)) := by
      unfold absT
      rw [if_neg h]
      have e2 : (⟨#[47]⟩ : ByteArray) = bs [47] := rfl
      rw [e2, bs_app, bs_app]; rfl
    have el : (rawQ q).l2 = lmb q.den := by rw [(rawQ_parts q).2.1, if_neg h]
    have K3 := ldc_c (n := n) (K := q.den) (by omega)
    rw [← el] at K3
    have hd := den_pos q
    unfold absT at ht
    rw [if_neg h, List.length_append, List.length_cons] at ht
    have s1 : (⟨#[47]⟩ : ByteArray).size + (bs (decDigits q.den)).size ≤ 9000000000000000000 := by rw [bs_size]; show 1 + _ ≤ _; omega
    have s2 : (bs (decDigits q.num.natAbs)).size + ((⟨#[47]⟩ : ByteArray) ++ bs (decDigits q.den)).size ≤ 9000000000000000000 := by
      have e2 : (⟨#[47]⟩ : ByteArray) = bs [47] := rfl
      rw [e2, bs_app, bs_size, bs_size]; simp; omega
    exact lsz_f1 K1 (by rw [el]; omega) K3 s1 rfl s2 e
def jn (a : List UInt8) (neg : Bool) (p : List UInt8) : List UInt8 := if a = [] then (if neg = true then 45 :: p else p) else a ++ ((if neg = true then [32, 45, 32] else [32, 43, 32]) ++ p)
theorem jn_len (a : List UInt8) (neg : Bool) (p : List UInt8) : (jn a neg p).length ≤ a.length + p.length + 3 := by
  unfold jn
  split
  · split
    · rw [List.length_cons]; omega
    · omega
  · rw [List.length_append, List.length_append]
    split <;> simp <;> omega
theorem fjn_c {n : Nat} {a p : List UInt8} {neg : Bool} (h : a.length + p.length ≤ 1000000000000) : run n 126 [.lit (.string (bs a)), .lit (.bool neg), .lit (.string (bs p))] = some (.lit (.string (bs (jn a neg p)))) := by
  have c1 : (⟨#[45]⟩ : ByteArray) = bs [45] := rfl
  have c2 : (⟨#[32, 45, 32]⟩ : ByteArray) = bs [32, 45, 32] := rfl
  have c3 : (⟨#[32, 43, 32]⟩ : ByteArray) = bs [32, 43, 32] := rfl
  unfold jn
  by_cases ha : a = []
  · subst ha
    rw [if_pos rfl]
    cases neg with
    | true =>
      exact fjn_f1 (n := n) (a0 := bs []) (a1 := true) (a2 := bs p) rfl rfl (by rw [c1, bs_size, bs_size]; simp; omega) (by rw [c1, bs_app]; rfl)
    | false => exact fjn_f2 (n := n) (a0 := bs []) (a1 := false) (a2 := bs p) rfl rfl
  · rw [if_neg ha]
    cases neg with
    | true =>
      exact fjn_f3 (n := n) (a0 := bs a) (a1 := true) (a2 := bs p) (bs_ne ha) rfl (by rw [c2, bs_size, bs_size]; simp; omega) rfl (by rw [c2, bs_app, bs_size, bs_size]; simp; omega) (by rw [c2, bs_app, bs_app, List.append_assoc]; rfl)
    | false =>
      exact fjn_f4 (n := n) (a0 := bs a) (a1 := false) (a2 := bs p) (bs_ne ha) rfl (by rw [c3, bs_size, bs_size]; simp; omega) rfl (by rw [c3, bs_app, bs_size, bs_size]; simp; omega) (by rw [c3, bs_app, bs_app, List.append_assoc]; rfl)
end Go.Proofs.YtlpmemelhlnfbaaGreatDoor
set_option linter.all false
set_option maxRecDepth 100000
set_option maxHeartbeats 6400000
namespace Go.Proofs.YtlpmemelhlnfbaaGreatDoor
open Go.RowKit
noncomputable def ltx_C4 : Code := (loopsOf (bodyOf Tryz.f52)).getD 0 .skip
def ltx_h4 (a0 : Form) (i_4 : Nat) : St :=
  ⟨[(1, .ptr 0 0), (3, .ptr 1 0), (4, .clo 119 [.ptr 1 0]), (11, .sl 4 (a0.1.map termC)), (12, .lit (.int .i64 (a0.1.length : Int))), (13, .lit (.int .i64 (i_4 : Int)))],
   [(0, some (.box 29 [.sl 4 (a0.1.map termC), .lit (.bool (rawQ a0.2).s), natA (rawQ a0.2).l1, natA (rawQ a0.2).l2] false)),
    (1, some (.box 88 [(.lit (.pointer none)), .nl 1] false))], 2⟩
def ltx_o4a (a0 : Form) : St :=
  ⟨[(1, .ptr 0 0), (3, .ptr 1 0), (4, .clo 119 [.ptr 1 0])],
   [(0, some (.box 29 [.sl 4 (a0.1.map termC), .lit (.bool (rawQ a0.2).s), natA (rawQ a0.2).l1, natA (rawQ a0.2).l2] false)),
    (1, some (.box 88 [(.lit (.pointer none)), .nl 1] false))], 2⟩
theorem ltx_x4_1 {n : Nat} {a0 : Form} {i_4 : Nat} (C1 : ¬ (i_4 : Int) < (a0.1.length : Int)) :
    Leave 0 (exec Tryz.prog (tab (n + 7)) 0 55 (livesOf 52) big ltx_C4) (livesOf 52 (outOf 4)) (ltx_h4 a0 i_4) (.exit 0) (ltx_o4a a0) := by
  have C1_ : ¬ i_4 < a0.1.length := by omega
  unfold Leave
  simp +decide [ltx_h4, loopsOf, Tryz.f52, ltx_o4a, ltx_C4, C1, C1_]
end Go.Proofs.YtlpmemelhlnfbaaGreatDoor
