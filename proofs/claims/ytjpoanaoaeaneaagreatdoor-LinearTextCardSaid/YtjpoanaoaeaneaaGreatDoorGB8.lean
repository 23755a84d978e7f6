import Derived.Test.YtjpoanaoaeaneaaGreatDoorGB7
import Derived.Test.YtjpoanaoaeaneaaGreatDoorGB5
import Derived.Test.YtjpoanaoaeaneaaGreatDoorGB6
set_option linter.all false
set_option maxRecDepth 100000
set_option maxHeartbeats 6400000
namespace Go.Proofs.YtjpoanaoaeaneaaGreatDoor
open Go.RowKit
open Lib (decDigits)
attribute [local irreducible] run runL loopG exec
theorem dd0_10 {k : Nat} (h : 0 < k) : dd0 k = dd0 (k / 10) ++ [dig (k % 10)] := by
  unfold dd0
  rw [if_neg (by omega)]
  by_cases h1 : k < 10
  · rw [if_pos (by omega), dd_lt h1, Nat.mod_eq_of_lt h1]; rfl
  · rw [if_neg (by omega), dd_ge h1]
theorem oneB_dig (d : Nat) : oneB (48 + (d : Int)) = bs [dig d] := by
  unfold oneB bs dig
  have e : (48 + (d : Int)).toNat = 48 + d := by omega
  rw [e]
theorem bs_ne {l : List UInt8} (h : l ≠ []) : ¬ bs l = (⟨#[]⟩ : ByteArray) := fun e => h (bs_inj e)
theorem fdg_c {n K : Nat} (hK : (lmb K).length ≤ 100000) : run (n + 4) 74 [natA (lmb K)] = some (.lit (.string (bs (decDigits K)))) := by
  have hbits : K < 2 ^ (32 * (lmb K).length) := by
    have := val_lt (lim_lmb K)
    rw [val_lmb] at this
    rwa [Nat.pow_mul]
  have hdd := dd_bits _ K hbits
  have hpos := dd_pos K
  have rnd1 : ∀ (k : Nat) (l : List UInt8), k ≤ K → l.length ≤ 4000000 → (lmb k).length ≤ 100000 ∧ ((48 : Int) + ((k % 10 : Nat) : Int) < 256) ∧ k % 10 < 18446744073709551616 := fun k l h _ => ⟨Nat.le_trans (lmb_len_mono h) hK, by omega, by omega⟩
  obtain ⟨s, hL, hI⟩ := loopG_R (O := tab (n + 4)) (P := Tryz.prog) (m := 0) (N := 39) (lives := livesOf 74) (r := 3) (C := fdg_C3) (exN := .exit 0) (M := (decDigits K).length) (enc := fun _ (s : Nat × List UInt8) => fdg_h3 (lmb s.1) (bs s.2)) (out := fun s => fdg_o3a (bs s.2))
    (fun i s => s.1 ≤ K ∧ s.2.length = i ∧ ((i = 0 ∧ s.1 = K) ∨ (0 < i ∧ dd0 s.1 ++ s.2 = decDigits K))) (K, []) ⟨Nat.le_refl _, rfl, .inl ⟨rfl, rfl⟩⟩ (by omega) (fun h => by cases h)
    (fun i s hi hI => by
      obtain ⟨k, l⟩ := s
      obtain ⟨i1, i2, i3⟩ := hI
      dsimp only at i1 i2 i3 ⊢
      obtain ⟨b1, b2, b3⟩ := rnd1 k l i1 (by omega)
      have K2 := k_div10 (k := k) (by omega)
      have K3 := k_uint b3
      have w1 : IntKind.u64.wrap (48 + ((k % 10 : Nat) : Int)) = 48 + ((k % 10 : Nat) : Int) := by rw [wrapU64]; omega
      have w2 : IntKind.u8.wrap (48 + ((k % 10 : Nat) : Int)) = 48 + ((k % 10 : Nat) : Int) := by simp [IntKind.wrap, IntKind.signed, IntKind.bits]; omega
      have hs : (oneB (48 + ((k % 10 : Nat) : Int))).size + (bs l).size ≤ 9000000000000000000 := by rw [oneB_dig, bs_size, bs_size, List.length_singleton]; omega
      have e9 : oneB (48 + ((k % 10 : Nat) : Int)) ++ bs l = bs (dig (k % 10) :: l) := by rw [oneB_dig, bs_app]; rfl
      by_cases hk : 0 < k
      · have hp : 0 < (lmb k).length := by rw [lmb_pos hk]; simp
        have R := fdg_r3_1 (n := n) (nat_3 := lmb k) (str_3 := bs l) (by omega) K2 K3 w1 w2 ⟨by omega, b2⟩ hs e9.symm
        refine ⟨(k / 10, dig (k % 10) :: l), R, Nat.le_trans (Nat.div_le_self _ _) i1, by simp [i2], .inr ⟨by omega, ?_⟩⟩
        dsimp only
        have e := dd0_10 hk
        rcases i3 with ⟨h0, hk'⟩ | ⟨h0, h1⟩
        · have hl : l = [] := List.eq_nil_of_length_eq_zero (by omega)
          subst hl hk'
          rw [← e]
          unfold dd0
          rw [if_neg (by omega)]
        · rw [← h1, e]; simp
      · have hk0 : k = 0 := by omega
        subst hk0
        have hi0 : i = 0 := by
          rcases i3 with ⟨h0, _⟩ | ⟨h0, h1⟩
          · exact h0
          · exfalso
            have e : dd0 0 = [] := rfl
            rw [e, List.nil_append] at h1
            rw [← h1] at hi
            omega
        subst hi0
        have hl : l = [] := List.eq_nil_of_length_eq_zero i2
        subst hl
        have R := fdg_r3_2 (n := n) (nat_3 := lmb 0) (str_3 := bs []) (by rw [lmb_zero]; simp) rfl K2 K3 w1 w2 ⟨by omega, b2⟩ hs e9.symm
        refine ⟨(0 / 10, dig (0 % 10) :: []), R, by simp, by simp, .inr ⟨by omega, ?_⟩⟩
        rcases i3 with ⟨_, h1⟩ | ⟨h0, _⟩
        · subst h1
          rw [dd_lt (by omega)]
          rfl
        · omega)
    (fun s hI => by
      obtain ⟨k, l⟩ := s
      obtain ⟨i1, i2, i3⟩ := hI
      dsimp only at i1 i2 i3 ⊢
      have hl : l ≠ [] := fun e => by subst e; simp at i2; omega
      have hk0 : k = 0 := by
        rcases i3 with ⟨h0, _⟩ | ⟨_, h1⟩
        · omega
        · rcases Nat.eq_zero_or_pos k with h | h
          · exact h
          · exfalso
            have e := congrArg List.length h1
            have : 0 < (dd0 k).length := by unfold dd0; rw [if_neg (by omega)]; exact dd_pos k
            rw [List.length_append] at e
            omega
      subst hk0
      exact fdg_x3_1 (by rw [lmb_zero]; simp) (bs_ne hl))
  obtain ⟨k, l⟩ := s
  obtain ⟨i1, i2, i3⟩ := hI
  dsimp only at i1 i2 i3 hL
  have hl : l = decDigits K := by
    rcases i3 with ⟨h0, _⟩ | ⟨_, h1⟩
    · omega
    · have e := congrArg List.length h1
      rw [List.length_append] at e
      have : dd0 k = [] := List.eq_nil_of_length_eq_zero (by omega)
      rw [this, List.nil_append] at h1
      exact h1
  subst hl
  exact fdg_f1 (k_make (by omega)) hL
def absT (q : Rat) : List UInt8 := decDigits q.num.natAbs ++ if q.den = 1 then [] else 47 :: decDigits q.den
theorem absT_len {q : Rat} (h : H q ≤ 100000) : (absT q).length ≤ 7000000 := by
  have bits : ∀ K : Nat, K < 2 ^ (32 * (lmb K).length) := fun K => by
    have := val_lt (lim_lmb K)
    rw [val_lmb] at this
    rwa [Nat.pow_mul]
  have h1 := dd_bits _ _ (bits q.num.natAbs)
  have h2 := dd_bits _ _ (bits q.den)
  have a1 : (lmb q.num.natAbs).length ≤ H q := Nat.le_max_left _ _
  have a2 : (lmb q.den).length ≤ H q := Nat.le_max_right _ _
  unfold absT
  rw [List.length_append]
  split
  · simp; omega
  · simp; omega
theorem rawQ_parts (q : Rat) : (rawQ q).l1 = lmb q.num.natAbs ∧ (rawQ q).l2 = (if q.den = 1 then [] else lmb q.den) ∧ (rawQ q).s = decide (q.num < 0) := ⟨rfl, rfl, rfl⟩
theorem den_pos (q : Rat) : 0 < (lmb q.den).length := by rw [lmb_pos q.den_pos]; simp
theorem fab_c {n : Nat} {q : Rat} (hq : H q ≤ 100000) : run (n + 5) 72 [ratV q] = some (.lit (.string (bs (absT q)))) := by
  have a1 : (lmb q.num.natAbs).length ≤ H q := Nat.le_max_left _ _
  have a2 : (lmb q.den).length ≤ H q := Nat.le_max_right _ _
  have ht := absT_len hq
  have K1 := fdg_c (n := n) (K := q.num.natAbs) (by omega)
  by_cases h : q.den = 1
  · have e : absT q = decDigits q.num.natAbs := by unfold absT; rw [if_pos h, List.append_nil]
    rw [e]
    exact fab_f2 K1 (by rw [(rawQ_parts q).2.1, if_pos h]; simp)
  · have e : bs (absT q) = bs (decDigits q.num.natAbs) ++ ((⟨#[47]⟩ : ByteArray) ++ bs (decDigits q.den)) := by
      unfold absT
      rw [if_neg h]
      have e2 : (⟨#[47]⟩ : ByteArray) = bs [47] := rfl
      rw [e2, bs_app, bs_app]; rfl
    have el : (rawQ q).l2 = lmb q.den := by rw [(rawQ_parts q).2.1, if_neg h]
    have K3 := fdg_c (n := n) (K := q.den) (by omega)
    rw [← el] at K3
    have hl := congrArg ByteArray.size e
    have hd := den_pos q
    unfold absT at ht
    rw [if_neg h, List.length_append, List.length_cons] at ht
    have s1 : (⟨#[47]⟩ : ByteArray).size + (bs (decDigits q.den)).size ≤ 9000000000000000000 := by rw [bs_size]; show 1 + _ ≤ _; omega
    have s2 : (bs (decDigits q.num.natAbs)).size + ((⟨#[47]⟩ : ByteArray) ++ bs (decDigits q.den)).size ≤ 9000000000000000000 := by
      have e2 : (⟨#[47]⟩ : ByteArray) = bs [47] := rfl
      rw [e2, bs_app, bs_size, bs_size]; simp; omega
    exact fab_f1 K1 (by rw [el]; omega) K3 s1 rfl s2 e
theorem lsz_c {n : Nat} {q : Rat} (hq : H q ≤ 100000) : run (n + 6) 67 [ratV q] = some (.lit (.string (bs (absT q)))) := by
  have a1 : (lmb q.num.natAbs).length ≤ H q := Nat.le_max_left _ _
  have a2 : (lmb q.den).length ≤ H q := Nat.le_max_right _ _
  have ht := absT_len hq
  have K1 := ldc_c (n := n) (K := q.num.natAbs) (by omega)
  by_cases h : q.den = 1
  · have e : absT q = decDigits q.num.natAbs := by unfold absT; rw [if_pos h, List.append_nil]
    rw [e]
    exact lsz_f2 K1 (by rw [(rawQ_parts q).2.1, if_pos h]; simp)
  · have e : bs (absT q) = bs (decDigits q.num.natAbs) ++ ((⟨#[47]⟩ : ByteArray) ++ bs (decDigits q.den)) := by
      unfold absT
      rw [if_neg h]
      have e2 : (⟨#[47]⟩ : ByteArray) = bs [47] := rfl
      rw [e2, bs_app, bs_app]; rfl
    have el : (rawQ q).l2 = lmb q.den := by rw [(rawQ_parts q).2.1, if_neg h]
    have K3 := ldc_c (n := n) (K := q.den) (by omega)
    rw [← el] at K3
    have hd := den_pos q
    unfold absT at ht
    rw [if_neg h, List.length_append, List.length_cons] at ht
    have s1 : (⟨#[47]⟩ : ByteArray).size + (bs (decDigits q.den)).size ≤ 9000000000000000000 := by rw [bs_size]; show 1 + _ ≤ _; omega
    have s2 : (bs (decDigits q.num.natAbs)).size + ((⟨#[47]⟩ : ByteArray) ++ bs (decDigits q.den)).size ≤ 9000000000000000000 := by
      have e2 : (⟨#[47]⟩ : ByteArray) = bs [47] := rfl
      rw [e2, bs_app, bs_size, bs_size]; simp; omega
    exact lsz_f1 K1 (by rw [el]; omega) K3 s1 rfl s2 e
def jn (a : List UInt8) (neg : Bool) (p : List UInt8) : List UInt8 := if a = [] then (if neg = true then 45 :: p else p) else a ++ ((if neg = true then [32, 45, 32] else [32, 43, 32]) ++ p)
theorem jn_len (a : List UInt8) (neg : Bool) (p : List UInt8) : (jn a neg p).length ≤ a.length + p.length + 3 := by
  unfold jn
  split
  · split
    · rw [List.length_cons]; omega
    · omega
  · rw [List.length_append, List.length_append]
    split <;> simp <;> omega
theorem fjn_c {n : Nat} {a p : List UInt8} {neg : Bool} (h : a.length + p.length ≤ 1000000000000) : run n 73 [.lit (.string (bs a)), .lit (.bool neg), .lit (.string (bs p))] = some (.lit (.string (bs (jn a neg p)))) := by
  have c1 : (⟨#[45]⟩ : ByteArray) = bs [45] := rfl
  have c2 : (⟨#[32, 45, 32]⟩ : ByteArray) = bs [32, 45, 32] := rfl
  have c3 : (⟨#[32, 43, 32]⟩ : ByteArray) = bs [32, 43, 32] := rfl
  unfold jn
  by_cases ha : a = []
  · subst ha
    rw [if_pos rfl]
    cases neg with
    | true =>
      exact fjn_f1 (n := n) (a0 := bs []) (a1 := true) (a2 := bs p) rfl rfl (by rw [c1, bs_size, bs_size]; simp; omega) (by rw [c1, bs_app]; rfl)
    | false => exact fjn_f2 (n := n) (a0 := bs []) (a1 := false) (a2 := bs p) rfl rfl
  · rw [if_neg ha]
    cases neg with
    | true =>
      exact fjn_f3 (n := n) (a0 := bs a) (a1 := true) (a2 := bs p) (bs_ne ha) rfl (by rw [c2, bs_size, bs_size]; simp; omega) rfl (by rw [c2, bs_app, bs_size, bs_size]; simp; omega) (by rw [c2, bs_app, bs_app, List.append_assoc]; rfl)
    | false =>
      exact fjn_f4 (n := n) (a0 := bs a) (a1 := false) (a2 := bs p) (bs_ne ha) rfl (by rw [c3, bs_size, bs_size]; simp; omega) rfl (by rw [c3, bs_app, bs_size, bs_size]; simp; omega) (by rw [c3, bs_app, bs_app, List.append_assoc]; rfl)
end Go.Proofs.YtjpoanaoaeaneaaGreatDoor
set_option linter.all false
set_option maxRecDepth 100000
set_option maxHeartbeats 6400000
namespace Go.Proofs.YtjpoanaoaeaneaaGreatDoor
open Go.RowKit
noncomputable def ltx_C4 : Code := (loopsOf (bodyOf Tryz.f18)).getD 0 .skip
def ltx_h4 (a0 : Form) (i_4 : Nat) : St :=
  ⟨[(1, .ptr 0 0), (3, .ptr 1 0), (4, .clo 63 [.ptr 1 0]), (11, .sl 4 (a0.1.map termC)), (12, .lit (.int .i64 (a0.1.length : Int))), (13, .lit (.int .i64 (i_4 : Int)))],
   [(0, some (.box 28 [.sl 4 (a0.1.map termC), .lit (.bool (rawQ a0.2).s), natA (rawQ a0.2).l1, natA (rawQ a0.2).l2] false)),
    (1, some (.box 86 [(.lit (.pointer none)), .nl 1] false))], 2⟩
def ltx_o4a (a0 : Form) : St :=
  ⟨[(1, .ptr 0 0), (3, .ptr 1 0), (4, .clo 63 [.ptr 1 0])],
   [(0, some (.box 28 [.sl 4 (a0.1.map termC), .lit (.bool (rawQ a0.2).s), natA (rawQ a0.2).l1, natA (rawQ a0.2).l2] false)),
    (1, some (.box 86 [(.lit (.pointer none)), .nl 1] false))], 2⟩
theorem ltx_x4_1 {n : Nat} {a0 : Form} {i_4 : Nat} (C1 : ¬ (i_4 : Int) < (a0.1.length : Int)) :
    Leave 0 (exec Tryz.prog (tab (n + 7)) 0 55 (livesOf 18) big ltx_C4) (livesOf 18 (outOf 4)) (ltx_h4 a0 i_4) (.exit 0) (ltx_o4a a0) := by
  have C1_ : ¬ i_4 < a0.1.length := by omega
  unfold Leave
  simp +decide [ltx_h4, loopsOf, Tryz.f18, ltx_o4a, ltx_C4, C1, C1_]
end Go.Proofs.YtjpoanaoaeaneaaGreatDoor
set_option linter.all false
set_option maxRecDepth 100000
set_option maxHeartbeats 6400000
namespace Go.Proofs.YtjpoanaoaeaneaaGreatDoor
open Go.RowKit
def ltx_hN (a0 : Form) (i_4 : Nat) (ab : ByteArray) : St :=
  ⟨[(1, .ptr 0 0), (3, .ptr 1 0), (4, .clo 63 [.ptr 1 0]), (11, .sl 4 (a0.1.map termC)), (12, .lit (.int .i64 (a0.1.length : Int))), (13, .lit (.int .i64 (i_4 : Int)))],
   [(0, some (.box 28 [.sl 4 (a0.1.map termC), .lit (.bool (rawQ a0.2).s), natA (rawQ a0.2).l1, natA (rawQ a0.2).l2] false)),
    (1, some (.box 86 [.ptr 1 0, .own 2 ab.size] false)),
    (2, some (.row 5 1 (strEls ab) 0))], 3⟩
def ltx_oN (a0 : Form) (ab : ByteArray) : St :=
  ⟨[(1, .ptr 0 0), (3, .ptr 1 0), (4, .clo 63 [.ptr 1 0])],
   [(0, some (.box 28 [.sl 4 (a0.1.map termC), .lit (.bool (rawQ a0.2).s), natA (rawQ a0.2).l1, natA (rawQ a0.2).l2] false)),
    (1, some (.box 86 [.ptr 1 0, .own 2 ab.size] false)),
    (2, some (.row 5 1 (strEls ab) 0))], 3⟩
theorem ltE1_1 {n : Nat} {rb : ByteArray} {a0 : Form} {i_4 : Nat} {v3 : Int} {q3 : Rat} {r5 : ByteArray} {cat7 : ByteArray} {r6 : ByteArray} {cat8 : ByteArray} {cat9 : ByteArray} (C1 : (i_4 : Int) < (a0.1.length : Int)) (E2 : a0.1[i_4]? = some (v3, q3)) (K3 : (oItoa) [.lit (.int .i64 v3)] = some (.lit (.string r5))) (S4 : (⟨#[120]⟩ : ByteArray).size + r5.size ≤ 9000000000000000000) (D4 : cat7 = (⟨#[120]⟩ : ByteArray) ++ r5) (K5 : run (n + 6) 67 [ratV q3] = some (.lit (.string r6))) (C6 : ¬ r6 = (⟨#[49]⟩ : ByteArray)) (S7 : r6.size + (⟨#[42]⟩ : ByteArray).size ≤ 9000000000000000000) (D7 : cat8 = r6 ++ (⟨#[42]⟩ : ByteArray)) (S8 : cat8.size + cat7.size ≤ 9000000000000000000) (D8 : cat9 = cat8 ++ cat7) (K9 : runL (n + 6) 63 [.lit (.bool (rawQ q3).s), .lit (.string cat9), .ptr 0 0] [.box 86 [(.lit (.pointer none)), .nl 1] false] = some (.tup [], [(0, .box 86 [.ptr 0 0, .own 1 rb.size] false), (1, .row 5 1 (strEls rb) 0)])) (W10 : InI ((i_4 : Int) + 1)) :
    Cont 0 (exec Tryz.prog (tab (n + 7)) 0 55 (livesOf 18) big ltx_C4) (livesOf 18 4) (ltx_h4 a0 i_4) (ltx_hN a0 (i_4 + 1) rb) := by
  obtain ⟨ks0, hks0⟩ : ∃ k : ByteArray, (⟨#[42]⟩ : ByteArray) = k := ⟨_, rfl⟩
  rw [hks0] at S7 D7
  have C1_ : i_4 < a0.1.length := by omega
  obtain ⟨EL2, EG2⟩ := List.getElem?_eq_some_iff.1 E2
  have S4_r := cat_r S4 D4
  have S4_q := cat_q S4 D4
  simp only [ratV] at K5
  have C6_ : (r6.toList == (⟨#[49]⟩ : ByteArray).toList) = false := by rw [beq_eq_false_iff_ne]; exact fun h => C6 (ba_inj h)
  have C6_n : (r6.toList != (⟨#[49]⟩ : ByteArray).toList) = true := by rw [bne, C6_]; rfl
  have C6_k : (r6.toList == ([49] : List UInt8)) = false := by rw [show ([49] : List UInt8) = (⟨#[49]⟩ : ByteArray).toList by rw [ba_toList]]; exact C6_
  have S7_r := cat_r S7 D7
  have S7_q := cat_q S7 D7
  have S8_r := cat_r S8 D8
  have S8_q := cat_q S8 D8
  have W10_ : IntKind.i64.wrap ((i_4 : Int) + 1) = (i_4 : Int) + 1 := wr64 W10.1 W10.2
  unfold Cont
  simp +decide [ltx_h4, ltx_hN, loopsOf, Tryz.f18, ltx_C4, C1, C1_, EL2, EG2, E2, K3, ↓S4_r, S4_q, K5, C6_, C6_n, C6_k, ↓S7_r, S7_q, ↓S8_r, S8_q, K9, W10_, hks0]
theorem ltE2_1 {n : Nat} {rb : ByteArray} {a0 : Form} {i_4 : Nat} {v3 : Int} {q3 : Rat} {r5 : ByteArray} {cat7 : ByteArray} {r6 : ByteArray} {cat8 : ByteArray} {cat9 : ByteArray} (C1 : (i_4 : Int) < (a0.1.length : Int)) (E2 : a0.1[i_4]? = some (v3, q3)) (K3 : (oItoa) [.lit (.int .i64 v3)] = some (.lit (.string r5))) (S4 : (⟨#[120]⟩ : ByteArray).size + r5.size ≤ 9000000000000000000) (D4 : cat7 = (⟨#[120]⟩ : ByteArray) ++ r5) (K5 : run (n + 6) 67 [ratV q3] = some (.lit (.string r6))) (C6 : ¬ r6 = (⟨#[49]⟩ : ByteArray)) (S7 : r6.size + (⟨#[42]⟩ : ByteArray).size ≤ 9000000000000000000) (D7 : cat8 = r6 ++ (⟨#[42]⟩ : ByteArray)) (S8 : cat8.size + cat7.size ≤ 9000000000000000000) (D8 : cat9 = cat8 ++ cat7) (K9 : runL (n + 6) 63 [.lit (.bool (rawQ q3).s), .lit (.string cat9), .ptr 0 0] [.box 86 [(.lit (.pointer none)), .nl 1] false] = some (.tup [], [(0, .box 86 [.ptr 0 0, .own 2 rb.size] false), (2, .row 5 1 (strEls rb) 0)])) (W10 : InI ((i_4 : Int) + 1)) :
    Cont 0 (exec Tryz.prog (tab (n + 7)) 0 55 (livesOf 18) big ltx_C4) (livesOf 18 4) (ltx_h4 a0 i_4) (ltx_hN a0 (i_4 + 1) rb) := by
  obtain ⟨ks0, hks0⟩ : ∃ k : ByteArray, (⟨#[42]⟩ : ByteArray) = k := ⟨_, rfl⟩
  rw [hks0] at S7 D7
  have C1_ : i_4 < a0.1.length := by omega
  obtain ⟨EL2, EG2⟩ := List.getElem?_eq_some_iff.1 E2
  have S4_r := cat_r S4 D4
  have S4_q := cat_q S4 D4
  simp only [ratV] at K5
  have C6_ : (r6.toList == (⟨#[49]⟩ : ByteArray).toList) = false := by rw [beq_eq_false_iff_ne]; exact fun h => C6 (ba_inj h)
  have C6_n : (r6.toList != (⟨#[49]⟩ : ByteArray).toList) = true := by rw [bne, C6_]; rfl
  have C6_k : (r6.toList == ([49] : List UInt8)) = false := by rw [show ([49] : List UInt8) = (⟨#[49]⟩ : ByteArray).toList by rw [ba_toList]]; exact C6_
  have S7_r := cat_r S7 D7
  have S7_q := cat_q S7 D7
  have S8_r := cat_r S8 D8
  have S8_q := cat_q S8 D8
  have W10_ : IntKind.i64.wrap ((i_4 : Int) + 1) = (i_4 : Int) + 1 := wr64 W10.1 W10.2
  unfold Cont
  simp +decide [ltx_h4, ltx_hN, loopsOf, Tryz.f18, ltx_C4, C1, C1_, EL2, EG2, E2, K3, ↓S4_r, S4_q, K5, C6_, C6_n, C6_k, ↓S7_r, S7_q, ↓S8_r, S8_q, K9, W10_, hks0]
theorem ltN_1 {n : Nat} {ab rb : ByteArray} {a0 : Form} {i_4 : Nat} {v3 : Int} {q3 : Rat} {r5 : ByteArray} {cat7 : ByteArray} {r6 : ByteArray} {cat8 : ByteArray} {cat9 : ByteArray} (C1 : (i_4 : Int) < (a0.1.length : Int)) (E2 : a0.1[i_4]? = some (v3, q3)) (K3 : (oItoa) [.lit (.int .i64 v3)] = some (.lit (.string r5))) (S4 : (⟨#[120]⟩ : ByteArray).size + r5.size ≤ 9000000000000000000) (D4 : cat7 = (⟨#[120]⟩ : ByteArray) ++ r5) (K5 : run (n + 6) 67 [ratV q3] = some (.lit (.string r6))) (C6 : ¬ r6 = (⟨#[49]⟩ : ByteArray)) (S7 : r6.size + (⟨#[42]⟩ : ByteArray).size ≤ 9000000000000000000) (D7 : cat8 = r6 ++ (⟨#[42]⟩ : ByteArray)) (S8 : cat8.size + cat7.size ≤ 9000000000000000000) (D8 : cat9 = cat8 ++ cat7) (K9 : runL (n + 6) 63 [.lit (.bool (rawQ q3).s), .lit (.string cat9), .ptr 0 0] [.box 86 [.ptr 0 0, .own 1 ab.size] false, .row 5 1 (strEls ab) 0] = some (.tup [], [(0, .box 86 [.ptr 0 0, .own 3 rb.size] false), (3, .row 5 1 (strEls rb) 0)])) (W10 : InI ((i_4 : Int) + 1)) :
    Cont 0 (exec Tryz.prog (tab (n + 7)) 0 55 (livesOf 18) big ltx_C4) (livesOf 18 4) (ltx_hN a0 i_4 ab) (ltx_hN a0 (i_4 + 1) rb) := by
  obtain ⟨ks0, hks0⟩ : ∃ k : ByteArray, (⟨#[42]⟩ : ByteArray) = k := ⟨_, rfl⟩
  rw [hks0] at S7 D7
  have C1_ : i_4 < a0.1.length := by omega
  obtain ⟨EL2, EG2⟩ := List.getElem?_eq_some_iff.1 E2
  have S4_r := cat_r S4 D4
  have S4_q := cat_q S4 D4
  simp only [ratV] at K5
  have C6_ : (r6.toList == (⟨#[49]⟩ : ByteArray).toList) = false := by rw [beq_eq_false_iff_ne]; exact fun h => C6 (ba_inj h)
  have C6_n : (r6.toList != (⟨#[49]⟩ : ByteArray).toList) = true := by rw [bne, C6_]; rfl
  have C6_k : (r6.toList == ([49] : List UInt8)) = false := by rw [show ([49] : List UInt8) = (⟨#[49]⟩ : ByteArray).toList by rw [ba_toList]]; exact C6_
  have S7_r := cat_r S7 D7
  have S7_q := cat_q S7 D7
  have S8_r := cat_r S8 D8
  have S8_q := cat_q S8 D8
  have W10_ : IntKind.i64.wrap ((i_4 : Int) + 1) = (i_4 : Int) + 1 := wr64 W10.1 W10.2
  unfold Cont
  simp +decide [ltx_hN, loopsOf, Tryz.f18, ltx_C4, C1, C1_, EL2, EG2, E2, K3, ↓S4_r, S4_q, K5, C6_, C6_n, C6_k, ↓S7_r, S7_q, ↓S8_r, S8_q, K9, W10_, hks0]
theorem ltE1_2 {n : Nat} {rb : ByteArray} {a0 : Form} {i_4 : Nat} {v3 : Int} {q3 : Rat} {r5 : ByteArray} {cat7 : ByteArray} {r6 : ByteArray} (C1 : (i_4 : Int) < (a0.1.length : Int)) (E2 : a0.1[i_4]? = some (v3, q3)) (K3 : (oItoa) [.lit (.int .i64 v3)] = some (.lit (.string r5))) (S4 : (⟨#[120]⟩ : ByteArray).size + r5.size ≤ 9000000000000000000) (D4 : cat7 = (⟨#[120]⟩ : ByteArray) ++ r5) (K5 : run (n + 6) 67 [ratV q3] = some (.lit (.string r6))) (C6 : r6 = (⟨#[49]⟩ : ByteArray)) (K7 : runL (n + 6) 63 [.lit (.bool (rawQ q3).s), .lit (.string cat7), .ptr 0 0] [.box 86 [(.lit (.pointer none)), .nl 1] false] = some (.tup [], [(0, .box 86 [.ptr 0 0, .own 1 rb.size] false), (1, .row 5 1 (strEls rb) 0)])) (W8 : InI ((i_4 : Int) + 1)) :
    Cont 0 (exec Tryz.prog (tab (n + 7)) 0 55 (livesOf 18) big ltx_C4) (livesOf 18 4) (ltx_h4 a0 i_4) (ltx_hN a0 (i_4 + 1) rb) := by
  have C1_ : i_4 < a0.1.length := by omega
  obtain ⟨EL2, EG2⟩ := List.getElem?_eq_some_iff.1 E2
  have S4_r := cat_r S4 D4
  have S4_q := cat_q S4 D4
  simp only [ratV] at K5
  have C6_ : (r6.toList == (⟨#[49]⟩ : ByteArray).toList) = true := by rw [C6]; simp
  have C6_n : (r6.toList != (⟨#[49]⟩ : ByteArray).toList) = false := by rw [bne, C6_]; rfl
  have C6_k : (r6.toList == ([49] : List UInt8)) = true := by rw [show ([49] : List UInt8) = (⟨#[49]⟩ : ByteArray).toList by rw [ba_toList]]; exact C6_
  have W8_ : IntKind.i64.wrap ((i_4 : Int) + 1) = (i_4 : Int) + 1 := wr64 W8.1 W8.2
  unfold Cont
  simp +decide [ltx_h4, ltx_hN, loopsOf, Tryz.f18, ltx_C4, C1, C1_, EL2, EG2, E2, K3, ↓S4_r, S4_q, K5, C6_, C6_n, C6_k, K7, W8_]
theorem ltE2_2 {n : Nat} {rb : ByteArray} {a0 : Form} {i_4 : Nat} {v3 : Int} {q3 : Rat} {r5 : ByteArray} {cat7 : ByteArray} {r6 : ByteArray} (C1 : (i_4 : Int) < (a0.1.length : Int)) (E2 : a0.1[i_4]? = some (v3, q3)) (K3 : (oItoa) [.lit (.int .i64 v3)] = some (.lit (.string r5))) (S4 : (⟨#[120]⟩ : ByteArray).size + r5.size ≤ 9000000000000000000) (D4 : cat7 = (⟨#[120]⟩ : ByteArray) ++ r5) (K5 : run (n + 6) 67 [ratV q3] = some (.lit (.string r6))) (C6 : r6 = (⟨#[49]⟩ : ByteArray)) (K7 : runL (n + 6) 63 [.lit (.bool (rawQ q3).s), .lit (.string cat7), .ptr 0 0] [.box 86 [(.lit (.pointer none)), .nl 1] false] = some (.tup [], [(0, .box 86 [.ptr 0 0, .own 2 rb.size] false), (2, .row 5 1 (strEls rb) 0)])) (W8 : InI ((i_4 : Int) + 1)) :
    Cont 0 (exec Tryz.prog (tab (n + 7)) 0 55 (livesOf 18) big ltx_C4) (livesOf 18 4) (ltx_h4 a0 i_4) (ltx_hN a0 (i_4 + 1) rb) := by
  have C1_ : i_4 < a0.1.length := by omega
  obtain ⟨EL2, EG2⟩ := List.getElem?_eq_some_iff.1 E2
  have S4_r := cat_r S4 D4
  have S4_q := cat_q S4 D4
  simp only [ratV] at K5
  have C6_ : (r6.toList == (⟨#[49]⟩ : ByteArray).toList) = true := by rw [C6]; simp
  have C6_n : (r6.toList != (⟨#[49]⟩ : ByteArray).toList) = false := by rw [bne, C6_]; rfl
  have C6_k : (r6.toList == ([49] : List UInt8)) = true := by rw [show ([49] : List UInt8) = (⟨#[49]⟩ : ByteArray).toList by rw [ba_toList]]; exact C6_
  have W8_ : IntKind.i64.wrap ((i_4 : Int) + 1) = (i_4 : Int) + 1 := wr64 W8.1 W8.2
  unfold Cont
  simp +decide [ltx_h4, ltx_hN, loopsOf, Tryz.f18, ltx_C4, C1, C1_, EL2, EG2, E2, K3, ↓S4_r, S4_q, K5, C6_, C6_n, C6_k, K7, W8_]
theorem ltN_2 {n : Nat} {ab rb : ByteArray} {a0 : Form} {i_4 : Nat} {v3 : Int} {q3 : Rat} {r5 : ByteArray} {cat7 : ByteArray} {r6 : ByteArray} (C1 : (i_4 : Int) < (a0.1.length : Int)) (E2 : a0.1[i_4]? = some (v3, q3)) (K3 : (oItoa) [.lit (.int .i64 v3)] = some (.lit (.string r5))) (S4 : (⟨#[120]⟩ : ByteArray).size + r5.size ≤ 9000000000000000000) (D4 : cat7 = (⟨#[120]⟩ : ByteArray) ++ r5) (K5 : run (n + 6) 67 [ratV q3] = some (.lit (.string r6))) (C6 : r6 = (⟨#[49]⟩ : ByteArray)) (K7 : runL (n + 6) 63 [.lit (.bool (rawQ q3).s), .lit (.string cat7), .ptr 0 0] [.box 86 [.ptr 0 0, .own 1 ab.size] false, .row 5 1 (strEls ab) 0] = some (.tup [], [(0, .box 86 [.ptr 0 0, .own 3 rb.size] false), (3, .row 5 1 (strEls rb) 0)])) (W8 : InI ((i_4 : Int) + 1)) :
    Cont 0 (exec Tryz.prog (tab (n + 7)) 0 55 (livesOf 18) big ltx_C4) (livesOf 18 4) (ltx_hN a0 i_4 ab) (ltx_hN a0 (i_4 + 1) rb) := by
  have C1_ : i_4 < a0.1.length := by omega
  obtain ⟨EL2, EG2⟩ := List.getElem?_eq_some_iff.1 E2
  have S4_r := cat_r S4 D4
  have S4_q := cat_q S4 D4
  simp only [ratV] at K5
  have C6_ : (r6.toList == (⟨#[49]⟩ : ByteArray).toList) = true := by rw [C6]; simp
  have C6_n : (r6.toList != (⟨#[49]⟩ : ByteArray).toList) = false := by rw [bne, C6_]; rfl
  have C6_k : (r6.toList == ([49] : List UInt8)) = true := by rw [show ([49] : List UInt8) = (⟨#[49]⟩ : ByteArray).toList by rw [ba_toList]]; exact C6_
  have W8_ : IntKind.i64.wrap ((i_4 : Int) + 1) = (i_4 : Int) + 1 := wr64 W8.1 W8.2
  unfold Cont
  simp +decide [ltx_hN, loopsOf, Tryz.f18, ltx_C4, C1, C1_, EL2, EG2, E2, K3, ↓S4_r, S4_q, K5, C6_, C6_n, C6_k, K7, W8_]
theorem ltN_x {n : Nat} {ab : ByteArray} {a0 : Form} {i_4 : Nat} (C1 : ¬ (i_4 : Int) < (a0.1.length : Int)) :
    Leave 0 (exec Tryz.prog (tab (n + 7)) 0 55 (livesOf 18) big ltx_C4) (livesOf 18 (outOf 4)) (ltx_hN a0 i_4 ab) (.exit 0) (ltx_oN a0 ab) := by
  have C1_ : ¬ i_4 < a0.1.length := by omega
  unfold Leave
  simp +decide [ltx_hN, loopsOf, Tryz.f18, ltx_oN, ltx_C4, C1, C1_]
theorem ltFE1 {n : Nat} {rb : ByteArray} {a0 : Form} {r8 : ByteArray} {r10 : ByteArray} (L1 : loopG Tryz.prog (tab (n + 7)) 0 55 (livesOf 18) 4 ltx_C4 (ltx_h4 a0 0) = some (.exit 0, ltx_o4a a0)) (C2 : 0 < ((rawQ a0.2).l1.length : Int)) (K3 : run (n + 6) 67 [ratV a0.2] = some (.lit (.string r8))) (K4 : runL (n + 6) 63 [.lit (.bool (rawQ a0.2).s), .lit (.string r8), .ptr 0 0] [.box 86 [(.lit (.pointer none)), .nl 1] false] = some (.tup [], [(0, .box 86 [.ptr 0 0, .own 1 rb.size] false), (1, .row 5 1 (strEls rb) 0)])) (K5 : runL (n + 6) 68 [.ptr 0 0] [.box 86 [.ptr 0 0, .own 1 rb.size] false, .row 5 1 (strEls rb) 0] = some (.lit (.string r10), [(0, .box 86 [.ptr 0 0, .own 1 rb.size] false)])) :
    run (n + 7) 18 [formV a0] = some (.lit (.string r10)) := by
  have C2_ : 0 < (rawQ a0.2).l1.length := by omega
  have C2_z : ((rawQ a0.2).l1.length : Int) ≠ 0 := by omega
  have C2_e : (((rawQ a0.2).l1.length : Int) == 0) = false := by simpa using C2_z
  have C2_g : (((rawQ a0.2).l1.length : Int) != 0) = true := by simpa using C2_z
  simp only [ratV] at K3
  unfold run fnP
  simp +decide [Tryz.f18, C2, C2_, C2_e, C2_g, K3, K4, K5]
  rw [loopX_G (C' := ltx_C4) (e := (ltx_h4 a0 0)) ?_ ?_, L1]
  rotate_left
  · kernel_rfl
  · simp +decide [ltx_h4, C2, C2_, C2_e, C2_g, K3, K4, K5]
  simp +decide [ltx_o4a, C2, C2_, C2_e, C2_g, K3, K4, K5]
theorem ltFE2 {n : Nat} {rb : ByteArray} {a0 : Form} {r8 : ByteArray} {r10 : ByteArray} (L1 : loopG Tryz.prog (tab (n + 7)) 0 55 (livesOf 18) 4 ltx_C4 (ltx_h4 a0 0) = some (.exit 0, ltx_o4a a0)) (C2 : 0 < ((rawQ a0.2).l1.length : Int)) (K3 : run (n + 6) 67 [ratV a0.2] = some (.lit (.string r8))) (K4 : runL (n + 6) 63 [.lit (.bool (rawQ a0.2).s), .lit (.string r8), .ptr 0 0] [.box 86 [(.lit (.pointer none)), .nl 1] false] = some (.tup [], [(0, .box 86 [.ptr 0 0, .own 2 rb.size] false), (2, .row 5 1 (strEls rb) 0)])) (K5 : runL (n + 6) 68 [.ptr 0 0] [.box 86 [.ptr 0 0, .own 1 rb.size] false, .row 5 1 (strEls rb) 0] = some (.lit (.string r10), [(0, .box 86 [.ptr 0 0, .own 1 rb.size] false)])) :
    run (n + 7) 18 [formV a0] = some (.lit (.string r10)) := by
  have C2_ : 0 < (rawQ a0.2).l1.length := by omega
  have C2_z : ((rawQ a0.2).l1.length : Int) ≠ 0 := by omega
  have C2_e : (((rawQ a0.2).l1.length : Int) == 0) = false := by simpa using C2_z
  have C2_g : (((rawQ a0.2).l1.length : Int) != 0) = true := by simpa using C2_z
  simp only [ratV] at K3
  unfold run fnP
  simp +decide [Tryz.f18, C2, C2_, C2_e, C2_g, K3, K4, K5]
  rw [loopX_G (C' := ltx_C4) (e := (ltx_h4 a0 0)) ?_ ?_, L1]
  rotate_left
  · kernel_rfl
  · simp +decide [ltx_h4, C2, C2_, C2_e, C2_g, K3, K4, K5]
  simp +decide [ltx_o4a, C2, C2_, C2_e, C2_g, K3, K4, K5]
theorem ltFE3 {n : Nat} {rb : ByteArray} {a0 : Form} {r7 : Int} {r9 : ByteArray} {r11 : ByteArray} (L1 : loopG Tryz.prog (tab (n + 7)) 0 55 (livesOf 18) 4 ltx_C4 (ltx_h4 a0 0) = some (.exit 0, ltx_o4a a0)) (C2 : ¬ 0 < ((rawQ a0.2).l1.length : Int)) (K3 : runL (n + 6) 64 [.ptr 0 0] [.box 86 [(.lit (.pointer none)), .nl 1] false] = some (.lit (.int .i64 r7), [(0, .box 86 [(.lit (.pointer none)), .nl 1] false)])) (C4 : r7 = 0) (K5 : run (n + 6) 67 [ratV a0.2] = some (.lit (.string r9))) (K6 : runL (n + 6) 63 [.lit (.bool (rawQ a0.2).s), .lit (.string r9), .ptr 0 0] [.box 86 [(.lit (.pointer none)), .nl 1] false] = some (.tup [], [(0, .box 86 [.ptr 0 0, .own 1 rb.size] false), (1, .row 5 1 (strEls rb) 0)])) (K7 : runL (n + 6) 68 [.ptr 0 0] [.box 86 [.ptr 0 0, .own 1 rb.size] false, .row 5 1 (strEls rb) 0] = some (.lit (.string r11), [(0, .box 86 [.ptr 0 0, .own 1 rb.size] false)])) :
    run (n + 7) 18 [formV a0] = some (.lit (.string r11)) := by
  have C2_ : ¬ 0 < (rawQ a0.2).l1.length := by omega
  have C2_z : ((rawQ a0.2).l1.length : Int) = 0 := by omega
  have C2_e : (((rawQ a0.2).l1.length : Int) == 0) = true := by rw [C2_z]; simp
  have C2_g : (((rawQ a0.2).l1.length : Int) != 0) = false := by rw [C2_z]; simp
  have C4_ : (r7 == 0) = true := by rw [C4]; simp
  have C4_n : (r7 != 0) = false := by rw [C4]; simp
  simp only [ratV] at K5
  unfold run fnP
  simp +decide [Tryz.f18, C2, C2_, C2_e, C2_g, K3, C4_, C4_n, K5, K6, K7]
  rw [loopX_G (C' := ltx_C4) (e := (ltx_h4 a0 0)) ?_ ?_, L1]
  rotate_left
  · kernel_rfl
  · simp +decide [ltx_h4, C2, C2_, C2_e, C2_g, K3, C4_, C4_n, K5, K6, K7]
  simp +decide [ltx_o4a, C2, C2_, C2_e, C2_g, K3, C4_, C4_n, K5, K6, K7]
theorem ltFN1 {n : Nat} {ab rb : ByteArray} {a0 : Form} {r8 : ByteArray} {r10 : ByteArray} (L1 : loopG Tryz.prog (tab (n + 7)) 0 55 (livesOf 18) 4 ltx_C4 (ltx_h4 a0 0) = some (.exit 0, ltx_oN a0 ab)) (C2 : 0 < ((rawQ a0.2).l1.length : Int)) (K3 : run (n + 6) 67 [ratV a0.2] = some (.lit (.string r8))) (K4 : runL (n + 6) 63 [.lit (.bool (rawQ a0.2).s), .lit (.string r8), .ptr 0 0] [.box 86 [.ptr 0 0, .own 1 ab.size] false, .row 5 1 (strEls ab) 0] = some (.tup [], [(0, .box 86 [.ptr 0 0, .own 3 rb.size] false), (3, .row 5 1 (strEls rb) 0)])) (K5 : runL (n + 6) 68 [.ptr 0 0] [.box 86 [.ptr 0 0, .own 1 rb.size] false, .row 5 1 (strEls rb) 0] = some (.lit (.string r10), [(0, .box 86 [.ptr 0 0, .own 1 rb.size] false)])) :
    run (n + 7) 18 [formV a0] = some (.lit (.string r10)) := by
  have C2_ : 0 < (rawQ a0.2).l1.length := by omega
  have C2_z : ((rawQ a0.2).l1.length : Int) ≠ 0 := by omega
  have C2_e : (((rawQ a0.2).l1.length : Int) == 0) = false := by simpa using C2_z
  have C2_g : (((rawQ a0.2).l1.length : Int) != 0) = true := by simpa using C2_z
  simp only [ratV] at K3
  unfold run fnP
  simp +decide [Tryz.f18, C2, C2_, C2_e, C2_g, K3, K4, K5]
  rw [loopX_G (C' := ltx_C4) (e := (ltx_h4 a0 0)) ?_ ?_, L1]
  rotate_left
  · kernel_rfl
  · simp +decide [ltx_h4, C2, C2_, C2_e, C2_g, K3, K4, K5]
  simp +decide [ltx_oN, C2, C2_, C2_e, C2_g, K3, K4, K5]
theorem ltFN2 {n : Nat} {ab : ByteArray} {a0 : Form} {r7 : Int} {r12 : ByteArray} (L1 : loopG Tryz.prog (tab (n + 7)) 0 55 (livesOf 18) 4 ltx_C4 (ltx_h4 a0 0) = some (.exit 0, ltx_oN a0 ab)) (C2 : ¬ 0 < ((rawQ a0.2).l1.length : Int)) (K3 : runL (n + 6) 64 [.ptr 0 0] [.box 86 [.ptr 0 0, .own 1 ab.size] false, .row 5 1 (strEls ab) 0] = some (.lit (.int .i64 r7), [(0, .box 86 [.ptr 0 0, .own 1 ab.size] false), (1, .row 5 1 (strEls ab) 0)])) (C4 : ¬ r7 = 0) (K5 : runL (n + 6) 68 [.ptr 0 0] [.box 86 [.ptr 0 0, .own 1 ab.size] false, .row 5 1 (strEls ab) 0] = some (.lit (.string r12), [(0, .box 86 [.ptr 0 0, .own 1 ab.size] false)])) :
    run (n + 7) 18 [formV a0] = some (.lit (.string r12)) := by
  have C2_ : ¬ 0 < (rawQ a0.2).l1.length := by omega
  have C2_z : ((rawQ a0.2).l1.length : Int) = 0 := by omega
  have C2_e : (((rawQ a0.2).l1.length : Int) == 0) = true := by rw [C2_z]; simp
  have C2_g : (((rawQ a0.2).l1.length : Int) != 0) = false := by rw [C2_z]; simp
  have C4_ : (r7 == 0) = false := by simpa using C4
  have C4_n : (r7 != 0) = true := by simpa using C4
  unfold run fnP
  simp +decide [Tryz.f18, C2, C2_, C2_e, C2_g, K3, C4_, C4_n, K5]
  rw [loopX_G (C' := ltx_C4) (e := (ltx_h4 a0 0)) ?_ ?_, L1]
  rotate_left
  · kernel_rfl
  · simp +decide [ltx_h4, C2, C2_, C2_e, C2_g, K3, C4_, C4_n, K5]
  simp +decide [ltx_oN, C2, C2_, C2_e, C2_g, K3, C4_, C4_n, K5]
end Go.Proofs.YtjpoanaoaeaneaaGreatDoor
set_option linter.all false
set_option maxRecDepth 100000
set_option maxHeartbeats 6400000
namespace Go.Proofs.YtjpoanaoaeaneaaGreatDoor
open Go.RowKit
theorem blen_0 {n : Nat} : runL n 64 [.ptr 0 0] [.box 86 [.lit (.pointer none), .nl 1] false] = some (.lit (.int .i64 0), [(0, .box 86 [.lit (.pointer none), .nl 1] false)]) := by
  unfold runL fnL
  simp +decide [Tryz.f64]
theorem blen_1 {n : Nat} {k : Nat} {es : List (List AV)} : runL n 64 [.ptr 0 0] [.box 86 [.ptr 0 0, .own 1 k] false, .row 5 1 es 0] = some (.lit (.int .i64 k), [(0, .box 86 [.ptr 0 0, .own 1 k] false), (1, .row 5 1 es 0)]) := by
  unfold runL fnL
  simp +decide [Tryz.f64]
theorem bws_0 {n : Nat} {s : ByteArray} (h : roomy s.size 1 = true) : runL (n + 1) 65 [.ptr 0 0, .lit (.string s)] [.box 86 [.lit (.pointer none), .nl 1] false] = some (.tup [.lit (.int .i64 s.size), .lit .nilIface], [(0, .box 86 [.ptr 0 0, .own 1 s.size] false), (1, .row 5 1 (strEls s) 0)]) := by
  unfold runL fnL
  simp +decide [Tryz.f65, ccG, isSelf, enumB, apS, isNil, h]
theorem bws_1 {n : Nat} {a s : ByteArray} (h : roomy (a.size + s.size) 1 = true) : runL (n + 1) 65 [.ptr 0 0, .lit (.string s)] [.box 86 [.ptr 0 0, .own 1 a.size] false, .row 5 1 (strEls a) 0] = some (.tup [.lit (.int .i64 s.size), .lit .nilIface], [(0, .box 86 [.ptr 0 0, .own 2 (a.size + s.size)] false), (2, .row 5 1 (strEls (a ++ s)) 0)]) := by
  unfold runL fnL
  simp +decide [Tryz.f65, ccG, isSelf, enumB, apS, isNil, h]
theorem bstr_1 {n : Nat} {a : ByteArray} (h0 : 0 < a.size) (h : (a.size : Int) ≤ 9223372036854775807) : runL n 68 [.ptr 0 0] [.box 86 [.ptr 0 0, .own 1 a.size] false, .row 5 1 (strEls a) 0] = some (.lit (.string a), [(0, .box 86 [.ptr 0 0, .own 1 a.size] false)]) := by
  unfold runL fnL
  simp +decide [Tryz.f68, usdT, usT, h0, h]
theorem bpart_0 {n : Nat} {s : ByteArray} (h : roomy s.size 1 = true) : runL (n + 2) 63 [.lit (.bool false), .lit (.string s), .ptr 0 0] [.box 86 [.lit (.pointer none), .nl 1] false] = some (.tup [], [(0, .box 86 [.ptr 0 0, .own 1 s.size] false), (1, .row 5 1 (strEls s) 0)]) := by
  have K := bws_0 (n := n) h
  unfold runL fnL
  simp +decide [Tryz.f63, blen_0, K]
end Go.Proofs.YtjpoanaoaeaneaaGreatDoor
set_option linter.all false
set_option maxRecDepth 100000
set_option maxHeartbeats 6400000
namespace Go.Proofs.YtjpoanaoaeaneaaGreatDoor
open Go.RowKit
theorem bpart_1 {n : Nat} {s : ByteArray} (h0 : roomy 1 1 = true) (h : roomy (1 + s.size) 1 = true) : runL (n + 2) 63 [.lit (.bool true), .lit (.string s), .ptr 0 0] [.box 86 [.lit (.pointer none), .nl 1] false] = some (.tup [], [(0, .box 86 [.ptr 0 0, .own 2 (1 + s.size)] false), (2, .row 5 1 (strEls ((⟨#[45]⟩ : ByteArray) ++ s)) 0)]) := by
  have K1 := bws_0 (n := n) (s := (⟨#[45]⟩ : ByteArray)) h0
  have K2 := bws_1 (n := n) (a := (⟨#[45]⟩ : ByteArray)) (s := s) h
  unfold runL fnL
  simp +decide [Tryz.f63, blen_0, K1, K2]
theorem bpart_2 {n : Nat} {a s : ByteArray} (ha : 0 < a.size) (h0 : roomy (a.size + 3) 1 = true) (h : roomy (a.size + 3 + s.size) 1 = true) : runL (n + 2) 63 [.lit (.bool false), .lit (.string s), .ptr 0 0] [.box 86 [.ptr 0 0, .own 1 a.size] false, .row 5 1 (strEls a) 0] = some (.tup [], [(0, .box 86 [.ptr 0 0, .own 3 (a.size + 3 + s.size)] false), (3, .row 5 1 (strEls (a ++ (⟨#[32, 43, 32]⟩ : ByteArray) ++ s)) 0)]) := by
  have K1 := bws_1 (n := n) (a := a) (s := (⟨#[32, 43, 32]⟩ : ByteArray)) h0
  have K2 := bws_1 (n := n) (a := a ++ (⟨#[32, 43, 32]⟩ : ByteArray)) (s := s) (by rw [ByteArray.size_append]; exact h)
  rw [ByteArray.size_append] at K2
  have e1 : ((a.size : Int) == 0) = false := by rw [beq_eq_false_iff_ne]; omega
  have e2 : ((a.size : Int) != 0) = true := by rw [bne_iff_ne]; omega
  unfold runL fnL
  simp +decide [Tryz.f63, blen_1, K1, K2, e1, e2, ha]
theorem bpart_3 {n : Nat} {a s : ByteArray} (ha : 0 < a.size) (h0 : roomy (a.size + 3) 1 = true) (h : roomy (a.size + 3 + s.size) 1 = true) : runL (n + 2) 63 [.lit (.bool true), .lit (.string s), .ptr 0 0] [.box 86 [.ptr 0 0, .own 1 a.size] false, .row 5 1 (strEls a) 0] = some (.tup [], [(0, .box 86 [.ptr 0 0, .own 3 (a.size + 3 + s.size)] false), (3, .row 5 1 (strEls (a ++ (⟨#[32, 45, 32]⟩ : ByteArray) ++ s)) 0)]) := by
  have K1 := bws_1 (n := n) (a := a) (s := (⟨#[32, 45, 32]⟩ : ByteArray)) h0
  have K2 := bws_1 (n := n) (a := a ++ (⟨#[32, 45, 32]⟩ : ByteArray)) (s := s) (by rw [ByteArray.size_append]; exact h)
  rw [ByteArray.size_append] at K2
  have e1 : ((a.size : Int) == 0) = false := by rw [beq_eq_false_iff_ne]; omega
  have e2 : ((a.size : Int) != 0) = true := by rw [bne_iff_ne]; omega
  unfold runL fnL
  simp +decide [Tryz.f63, blen_1, K1, K2, e1, e2, ha]
end Go.Proofs.YtjpoanaoaeaneaaGreatDoor
set_option linter.all false
set_option maxRecDepth 100000
set_option maxHeartbeats 6400000
namespace Go.Proofs.YtjpoanaoaeaneaaGreatDoor
open Go.RowKit
noncomputable def ftx_C3 : Code := (loopsOf (bodyOf Tryz.f20)).getD 0 .skip
def ftx_h3 (a0 : Form) (str_3 : ByteArray) (i_3 : Nat) : St :=
  ⟨[(1, .ptr 0 0), (3, .lit (.string str_3)), (4, .lit (.int .i64 (i_3 : Int)))],
   [(0, some (.box 28 [.sl 4 (a0.1.map termC), .lit (.bool (rawQ a0.2).s), natA (rawQ a0.2).l1, natA (rawQ a0.2).l2] false))], 1⟩
def ftx_o3a (a0 : Form) (str_3 : ByteArray) : St :=
  ⟨[(1, .ptr 0 0), (3, .lit (.string str_3))],
   [(0, some (.box 28 [.sl 4 (a0.1.map termC), .lit (.bool (rawQ a0.2).s), natA (rawQ a0.2).l1, natA (rawQ a0.2).l2] false))], 1⟩
section
variable {r16 : List Nat} {cat12 : ByteArray} {a0 : Form} {r18 : ByteArray} {str_3 : ByteArray} {n : Nat} {cat13 : ByteArray} {cat11 : ByteArray} {r15 : ByteArray} {r17 : ByteArray} {q3 : Rat} {i_3 : Nat} {v3 : Int} {r19 : List Nat} {r20 : ByteArray} {cat14 : ByteArray} {r21 : ByteArray} {cat15 : ByteArray} {r22 : ByteArray} {r23 : ByteArray} {r25 : ByteArray} {r24 : ByteArray}
theorem ftx_r3_1 (C1 : (i_3 : Int) < (a0.1.length : Int)) (E2 : a0.1[i_3]? = some (v3, q3)) (K3 : run (n + 5) 72 [ratV q3] = some (.lit (.string r15))) (S4 : r15.size + (⟨#[42]⟩ : ByteArray).size ≤ 9000000000000000000) (D4 : cat11 = r15 ++ (⟨#[42]⟩ : ByteArray)) (C5 : cat11 = (⟨#[49, 42]⟩ : ByteArray)) (S6 : (⟨#[]⟩ : ByteArray).size + (⟨#[120]⟩ : ByteArray).size ≤ 9000000000000000000) (D6 : cat12 = (⟨#[]⟩ : ByteArray) ++ (⟨#[120]⟩ : ByteArray)) (W7 : IntKind.u64.wrap (v3) = v3) (K8 : (oU fun k => natA (lmb k)) [.lit (.int .u64 v3)] = some (natA r16)) (K9 : run (n + 5) 74 [natA r16] = some (.lit (.string r17))) (S10 : cat12.size + r17.size ≤ 9000000000000000000) (D10 : cat13 = cat12 ++ r17) (K11 : run (n + 5) 73 [.lit (.string str_3), .lit (.bool (rawQ q3).s), .lit (.string cat13)] = some (.lit (.string r18))) (W12 : InI ((i_3 : Int) + 1)) :
    Cont 0 (exec Tryz.prog (tab (n + 6)) 0 55 (livesOf 20) big ftx_C3) (livesOf 20 3) (ftx_h3 a0 str_3 i_3) (ftx_h3 a0 r18 (i_3 + 1)) := by
  obtain ⟨ks0, hks0⟩ : ∃ k : ByteArray, (⟨#[42]⟩ : ByteArray) = k := ⟨_, rfl⟩
  rw [hks0] at S4 D4
  obtain ⟨ks1, hks1⟩ : ∃ k : ByteArray, (⟨#[120]⟩ : ByteArray) = k := ⟨_, rfl⟩
  rw [hks1] at S6 D6
  have C1_ : i_3 < a0.1.length := by omega
  obtain ⟨EL2, EG2⟩ := List.getElem?_eq_some_iff.1 E2
  simp only [ratV] at K3
  have S4_r := cat_r S4 D4
  have S4_q := cat_q S4 D4
  have C5_ : (cat11.toList == (⟨#[49, 42]⟩ : ByteArray).toList) = true := by rw [C5]; simp
  have C5_n : (cat11.toList != (⟨#[49, 42]⟩ : ByteArray).toList) = false := by rw [bne, C5_]; rfl
  have C5_k : (cat11.toList == ([49, 42] : List UInt8)) = true := by rw [show ([49, 42] : List UInt8) = (⟨#[49, 42]⟩ : ByteArray).toList by rw [ba_toList]]; exact C5_
  have S6_r := cat_r S6 D6
  have S6_q := cat_q S6 D6
  have S10_r := cat_r S10 D10
  have S10_q := cat_q S10 D10
  have W12_ : IntKind.i64.wrap ((i_3 : Int) + 1) = (i_3 : Int) + 1 := wr64 W12.1 W12.2
  unfold Cont
  simp +decide [ftx_h3, loopsOf, Tryz.f20, ftx_C3, C1, C1_, EL2, EG2, E2, K3, ↓S4_r, S4_q, C5_, C5_n, C5_k, ↓S6_r, S6_q, W7, K8, K9, ↓S10_r, S10_q, K11, W12_, hks0, hks1]
theorem ftx_r3_2 (C1 : (i_3 : Int) < (a0.1.length : Int)) (E2 : a0.1[i_3]? = some (v3, q3)) (K3 : run (n + 5) 72 [ratV q3] = some (.lit (.string r15))) (S4 : r15.size + (⟨#[42]⟩ : ByteArray).size ≤ 9000000000000000000) (D4 : cat11 = r15 ++ (⟨#[42]⟩ : ByteArray)) (C5 : ¬ cat11 = (⟨#[49, 42]⟩ : ByteArray)) (S6 : cat11.size + (⟨#[120]⟩ : ByteArray).size ≤ 9000000000000000000) (D6 : cat14 = cat11 ++ (⟨#[120]⟩ : ByteArray)) (W7 : IntKind.u64.wrap (v3) = v3) (K8 : (oU fun k => natA (lmb k)) [.lit (.int .u64 v3)] = some (natA r19)) (K9 : run (n + 5) 74 [natA r19] = some (.lit (.string r20))) (S10 : cat14.size + r20.size ≤ 9000000000000000000) (D10 : cat15 = cat14 ++ r20) (K11 : run (n + 5) 73 [.lit (.string str_3), .lit (.bool (rawQ q3).s), .lit (.string cat15)] = some (.lit (.string r21))) (W12 : InI ((i_3 : Int) + 1)) :
    Cont 0 (exec Tryz.prog (tab (n + 6)) 0 55 (livesOf 20) big ftx_C3) (livesOf 20 3) (ftx_h3 a0 str_3 i_3) (ftx_h3 a0 r21 (i_3 + 1)) := by
  obtain ⟨ks0, hks0⟩ : ∃ k : ByteArray, (⟨#[42]⟩ : ByteArray) = k := ⟨_, rfl⟩
  rw [hks0] at S4 D4
  obtain ⟨ks1, hks1⟩ : ∃ k : ByteArray, (⟨#[120]⟩ : ByteArray) = k := ⟨_, rfl⟩
  rw [hks1] at S6 D6
  have C1_ : i_3 < a0.1.length := by omega
  obtain ⟨EL2, EG2⟩ := List.getElem?_eq_some_iff.1 E2
  simp only [ratV] at K3
  have S4_r := cat_r S4 D4
  have S4_q := cat_q S4 D4
  have C5_ : (cat11.toList == (⟨#[49, 42]⟩ : ByteArray).toList) = false := by rw [beq_eq_false_iff_ne]; exact fun h => C5 (ba_inj h)
  have C5_n : (cat11.toList != (⟨#[49, 42]⟩ : ByteArray).toList) = true := by rw [bne, C5_]; rfl
  have C5_k : (cat11.toList == ([49, 42] : List UInt8)) = false := by rw [show ([49, 42] : List UInt8) = (⟨#[49, 42]⟩ : ByteArray).toList by rw [ba_toList]]; exact C5_
  have S6_r := cat_r S6 D6
  have S6_q := cat_q S6 D6
  have S10_r := cat_r S10 D10
  have S10_q := cat_q S10 D10
  have W12_ : IntKind.i64.wrap ((i_3 : Int) + 1) = (i_3 : Int) + 1 := wr64 W12.1 W12.2
  unfold Cont
  simp +decide [ftx_h3, loopsOf, Tryz.f20, ftx_C3, C1, C1_, EL2, EG2, E2, K3, ↓S4_r, S4_q, C5_, C5_n, C5_k, ↓S6_r, S6_q, W7, K8, K9, ↓S10_r, S10_q, K11, W12_, hks0, hks1]
theorem ftx_x3_1 (C1 : ¬ (i_3 : Int) < (a0.1.length : Int)) :
    Leave 0 (exec Tryz.prog (tab (n + 6)) 0 55 (livesOf 20) big ftx_C3) (livesOf 20 (outOf 3)) (ftx_h3 a0 str_3 i_3) (.exit 0) (ftx_o3a a0 str_3) := by
  have C1_ : ¬ i_3 < a0.1.length := by omega
  unfold Leave
  simp +decide [ftx_h3, loopsOf, Tryz.f20, ftx_o3a, ftx_C3, C1, C1_]
theorem ftx_f1 (L1 : loopG Tryz.prog (tab (n + 6)) 0 55 (livesOf 20) 3 ftx_C3 (ftx_h3 a0 (⟨#[]⟩ : ByteArray) 0) = some (.exit 0, ftx_o3a a0 str_3)) (C2 : str_3 = (⟨#[]⟩ : ByteArray)) (K3 : run (n + 5) 72 [ratV a0.2] = some (.lit (.string r22))) (K4 : run (n + 5) 73 [.lit (.string str_3), .lit (.bool (rawQ a0.2).s), .lit (.string r22)] = some (.lit (.string r23))) :
    run (n + 6) 20 [formV a0] = some (.lit (.string r23)) := by
  have C2_ : (str_3.toList == (⟨#[]⟩ : ByteArray).toList) = true := by rw [C2]; simp
  have C2_n : (str_3.toList != (⟨#[]⟩ : ByteArray).toList) = false := by rw [bne, C2_]; rfl
  have C2_i : str_3.toList.isEmpty = true := by rw [C2, ba_toList] <;> rfl
  simp only [ratV] at K3
  unfold run fnP
  simp +decide [Tryz.f20, C2_, C2_n, C2_i, K3, K4]
  rw [loopX_G (C' := ftx_C3) (e := (ftx_h3 a0 (⟨#[]⟩ : ByteArray) 0)) ?_ ?_, L1]
  rotate_left
  · kernel_rfl
  · simp +decide [ftx_h3, C2_, C2_n, C2_i, K3, K4]
  simp +decide [ftx_o3a, C2_, C2_n, C2_i, K3, K4]
theorem ftx_f2 (L1 : loopG Tryz.prog (tab (n + 6)) 0 55 (livesOf 20) 3 ftx_C3 (ftx_h3 a0 (⟨#[]⟩ : ByteArray) 0) = some (.exit 0, ftx_o3a a0 str_3)) (C2 : ¬ str_3 = (⟨#[]⟩ : ByteArray)) (B3a : H a0.2 ≤ 17179869184) (C4 : ¬ sgR a0.2 = 0) (K5 : run (n + 5) 72 [ratV a0.2] = some (.lit (.string r24))) (K6 : run (n + 5) 73 [.lit (.string str_3), .lit (.bool (rawQ a0.2).s), .lit (.string r24)] = some (.lit (.string r25))) :
    run (n + 6) 20 [formV a0] = some (.lit (.string r25)) := by
  have C2_ : (str_3.toList == (⟨#[]⟩ : ByteArray).toList) = false := by rw [beq_eq_false_iff_ne]; exact fun h => C2 (ba_inj h)
  have C2_n : (str_3.toList != (⟨#[]⟩ : ByteArray).toList) = true := by rw [bne, C2_]; rfl
  have C2_i : str_3.toList.isEmpty = false := by rcases he : str_3.toList.isEmpty with _ | _; rfl; exact absurd (ba_inj (by rw [List.isEmpty_iff.1 he, ba_toList] <;> rfl)) C2
  have K3 := r_sign (p := a0.2) B3a
  have C4_ : (sgR a0.2 == 0) = false := by simpa using C4
  have C4_n : (sgR a0.2 != 0) = true := by simpa using C4
  simp only [ratV] at K5
  unfold run fnP
  simp +decide [Tryz.f20, C2_, C2_n, C2_i, K3, C4_, C4_n, K5, K6]
  rw [loopX_G (C' := ftx_C3) (e := (ftx_h3 a0 (⟨#[]⟩ : ByteArray) 0)) ?_ ?_, L1]
  rotate_left
  · kernel_rfl
  · simp +decide [ftx_h3, C2_, C2_n, C2_i, K3, C4_, C4_n, K5, K6]
  simp +decide [ftx_o3a, C2_, C2_n, C2_i, K3, C4_, C4_n, K5, K6]
theorem ftx_f3 (L1 : loopG Tryz.prog (tab (n + 6)) 0 55 (livesOf 20) 3 ftx_C3 (ftx_h3 a0 (⟨#[]⟩ : ByteArray) 0) = some (.exit 0, ftx_o3a a0 str_3)) (C2 : ¬ str_3 = (⟨#[]⟩ : ByteArray)) (B3a : H a0.2 ≤ 17179869184) (C4 : sgR a0.2 = 0) :
    run (n + 6) 20 [formV a0] = some (.lit (.string str_3)) := by
  have C2_ : (str_3.toList == (⟨#[]⟩ : ByteArray).toList) = false := by rw [beq_eq_false_iff_ne]; exact fun h => C2 (ba_inj h)
  have C2_n : (str_3.toList != (⟨#[]⟩ : ByteArray).toList) = true := by rw [bne, C2_]; rfl
  have C2_i : str_3.toList.isEmpty = false := by rcases he : str_3.toList.isEmpty with _ | _; rfl; exact absurd (ba_inj (by rw [List.isEmpty_iff.1 he, ba_toList] <;> rfl)) C2
  have K3 := r_sign (p := a0.2) B3a
  have C4_ : (sgR a0.2 == 0) = true := by rw [C4]; simp
  have C4_n : (sgR a0.2 != 0) = false := by rw [C4]; simp
  unfold run fnP
  simp +decide [Tryz.f20, C2_, C2_n, C2_i, K3, C4_, C4_n]
  rw [loopX_G (C' := ftx_C3) (e := (ftx_h3 a0 (⟨#[]⟩ : ByteArray) 0)) ?_ ?_, L1]
  rotate_left
  · kernel_rfl
  · simp +decide [ftx_h3, C2_, C2_n, C2_i, K3, C4_, C4_n]
  simp +decide [ftx_o3a, C2_, C2_n, C2_i, K3, C4_, C4_n]
end
end Go.Proofs.YtjpoanaoaeaneaaGreatDoor
