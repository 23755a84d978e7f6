import Derived.Test.YtjpoanaoaeaneaaGreatDoorGB8
import Derived.Test.YtjpoanaoaeaneaaGreatDoorGB7
import Derived.Test.YtjpoanaoaeaneaaGreatDoorGB6
import Derived.Test.YtjpoanaoaeaneaaGreatDoorGB5
set_option linter.all false
set_option maxRecDepth 100000
set_option maxHeartbeats 6400000
namespace Go.Proofs.YtjpoanaoaeaneaaGreatDoor
open Go.RowKit
open Lib (decDigits)
attribute [local irreducible] run runL loopG exec
def prt (t : Int × Rat) : List UInt8 := (if absT t.2 = [49] then [] else absT t.2 ++ [42]) ++ 120 :: decDigits t.1.toNat
def ngT (q : Rat) : Bool := (rawQ q).s
def txS (a : List UInt8) (t : Int × Rat) : List UInt8 := jn a (ngT t.2) (prt t)
def txL (l : List (Int × Rat)) : List UInt8 := l.foldl txS []
def txt (f : Form) : List UInt8 := if f.2 ≠ 0 ∨ txL f.1 = [] then jn (txL f.1) (ngT f.2) (absT f.2) else txL f.1
theorem jn_ne {a p : List UInt8} {neg : Bool} (h : p ≠ []) : jn a neg p ≠ [] := by
  unfold jn
  split
  · split
    · simp
    · exact h
  · intro e
    have e2 := (List.append_eq_nil_iff.1 e).1
    contradiction
theorem prt_ne (t : Int × Rat) : prt t ≠ [] := fun e => by
  have := (List.append_eq_nil_iff.1 e).2
  cases this
theorem absT_ne (q : Rat) : absT q ≠ [] := fun e => dd_ne _ (List.append_eq_nil_iff.1 e).1
theorem txL_snoc (l : List (Int × Rat)) (t : Int × Rat) : txL (l ++ [t]) = txS (txL l) t := by
  unfold txL
  rw [List.foldl_append]
  rfl
structure TxB (f : Form) : Prop where
  l : f.1.length ≤ 100
  t : ∀ t ∈ f.1, H t.2 ≤ 100 ∧ 0 ≤ t.1 ∧ t.1 < 9223372036854775808
  k : H f.2 ≤ 100
theorem dd_small {K m : Nat} (h : (lmb K).length ≤ m) : (decDigits K).length ≤ 32 * m + 1 := by
  have hb : K < 2 ^ (32 * (lmb K).length) := by
    have := val_lt (lim_lmb K)
    rw [val_lmb] at this
    rwa [Nat.pow_mul]
  have := dd_bits _ K hb
  omega
theorem absT_len2 {q : Rat} (h : H q ≤ 100) : (absT q).length ≤ 6500 := by
  have a1 : (lmb q.num.natAbs).length ≤ H q := Nat.le_max_left _ _
  have a2 : (lmb q.den).length ≤ H q := Nat.le_max_right _ _
  have h1 := dd_small (K := q.num.natAbs) (m := 100) (by omega)
  have h2 := dd_small (K := q.den) (m := 100) (by omega)
  unfold absT
  rw [List.length_append]
  split
  · simp; omega
  · simp; omega
theorem prt_len {t : Int × Rat} (h : H t.2 ≤ 100) (h0 : 0 ≤ t.1) (h1 : t.1 < 9223372036854775808) : (prt t).length ≤ 6700 := by
  have a1 := absT_len2 h
  have a2 : (lmb t.1.toNat).length ≤ 2 := lmb_len_le (by omega)
  have a3 := dd_small a2
  unfold prt
  rw [List.length_append, List.length_cons]
  split
  · simp; omega
  · rw [List.length_append]; simp; omega
theorem txS_len {a : List UInt8} {t : Int × Rat} (h : H t.2 ≤ 100 ∧ 0 ≤ t.1 ∧ t.1 < 9223372036854775808) : (txS a t).length ≤ a.length + 6703 := by
  have := jn_len a (ngT t.2) (prt t)
  have := prt_len h.1 h.2.1 h.2.2
  unfold txS
  omega
theorem txL_len : ∀ {l : List (Int × Rat)} {a : List UInt8}, (∀ t ∈ l, H t.2 ≤ 100 ∧ 0 ≤ t.1 ∧ t.1 < 9223372036854775808) → (l.foldl txS a).length ≤ a.length + l.length * 6703
  | [], a, _ => by simp
  | t :: l, a, h => by
    have h1 := txS_len (a := a) (h t (by simp))
    have h2 := txL_len (l := l) (a := txS a t) (fun u hu => h u (by simp [hu]))
    rw [List.foldl_cons, List.length_cons, Nat.add_mul]
    omega
theorem jn_e0 (p : List UInt8) : jn [] false p = p := by simp [jn]
theorem jn_e1 (p : List UInt8) : jn [] true p = 45 :: p := by simp [jn]
theorem jn_n0 {a : List UInt8} (h : a ≠ []) (p : List UInt8) : jn a false p = a ++ [32, 43, 32] ++ p := by simp [jn, h]
theorem jn_n1 {a : List UInt8} (h : a ≠ []) (p : List UInt8) : jn a true p = a ++ [32, 45, 32] ++ p := by simp [jn, h]
section
variable {n : Nat}
theorem partE0 {neg : Bool} {p : List UInt8} (hs : neg = false) (hp : p.length ≤ 90000000) : runL (n + 6) 63 [.lit (.bool neg), .lit (.string (bs p)), .ptr 0 0] [.box 86 [.lit (.pointer none), .nl 1] false] = some (.tup [], [(0, .box 86 [.ptr 0 0, .own 1 (bs (jn [] neg p)).size] false), (1, .row 5 1 (strEls (bs (jn [] neg p))) 0)]) := by
  subst hs
  rw [jn_e0]
  exact bpart_0 (n := n + 4) (roomy_s (by rw [bs_size]; omega) (by omega))
theorem partE1 {neg : Bool} {p : List UInt8} (hs : neg = true) (hp : p.length ≤ 90000000) : runL (n + 6) 63 [.lit (.bool neg), .lit (.string (bs p)), .ptr 0 0] [.box 86 [.lit (.pointer none), .nl 1] false] = some (.tup [], [(0, .box 86 [.ptr 0 0, .own 2 (bs (jn [] neg p)).size] false), (2, .row 5 1 (strEls (bs (jn [] neg p))) 0)]) := by
  subst hs
  have h := bpart_1 (n := n + 4) (s := bs p) (roomy_s (by omega) (by omega)) (roomy_s (by rw [bs_size]; omega) (by omega))
  have h1 : (⟨#[45]⟩ : ByteArray) ++ bs p = bs (45 :: p) := bs_app [45] p
  have h2 : 1 + (bs p).size = (bs (45 :: p)).size := by rw [bs_size, bs_size, List.length_cons]; omega
  rw [h1, h2] at h
  rw [jn_e1]
  exact h
theorem partN {a p : List UInt8} {neg : Bool} (ha : a ≠ []) (hp : a.length + p.length ≤ 90000000) : runL (n + 6) 63 [.lit (.bool neg), .lit (.string (bs p)), .ptr 0 0] [.box 86 [.ptr 0 0, .own 1 (bs a).size] false, .row 5 1 (strEls (bs a)) 0] = some (.tup [], [(0, .box 86 [.ptr 0 0, .own 3 (bs (jn a neg p)).size] false), (3, .row 5 1 (strEls (bs (jn a neg p))) 0)]) := by
  have hs : 0 < (bs a).size := by rw [bs_size]; exact List.length_pos_iff.2 ha
  have c2 : (⟨#[32, 45, 32]⟩ : ByteArray) = bs [32, 45, 32] := rfl
  have c3 : (⟨#[32, 43, 32]⟩ : ByteArray) = bs [32, 43, 32] := rfl
  cases neg with
  | false =>
    have h := bpart_2 (n := n + 4) (a := bs a) (s := bs p) hs (roomy_s (by rw [bs_size]; omega) (by omega)) (roomy_s (by rw [bs_size, bs_size]; omega) (by omega))
    have h2 : (bs a).size + 3 + (bs p).size = (bs (a ++ [32, 43, 32] ++ p)).size := by rw [bs_size, bs_size, bs_size, List.length_append, List.length_append]; rfl
    rw [c3, bs_app, bs_app, h2] at h
    rw [jn_n0 ha]
    exact h
  | true =>
    have h := bpart_3 (n := n + 4) (a := bs a) (s := bs p) hs (roomy_s (by rw [bs_size]; omega) (by omega)) (roomy_s (by rw [bs_size, bs_size]; omega) (by omega))
    have h2 : (bs a).size + 3 + (bs p).size = (bs (a ++ [32, 45, 32] ++ p)).size := by rw [bs_size, bs_size, bs_size, List.length_append, List.length_append]; rfl
    rw [c2, bs_app, bs_app, h2] at h
    rw [jn_n1 ha]
    exact h
theorem bstr_c {a : List UInt8} (ha : a ≠ []) (hl : a.length ≤ 90000000) : runL (n + 6) 68 [.ptr 0 0] [.box 86 [.ptr 0 0, .own 1 (bs a).size] false, .row 5 1 (strEls (bs a)) 0] = some (.lit (.string (bs a)), [(0, .box 86 [.ptr 0 0, .own 1 (bs a).size] false)]) :=
  bstr_1 (n := n + 6) (by rw [bs_size]; exact List.length_pos_iff.2 ha) (by rw [bs_size]; omega)
theorem k_itoa {v : Int} (h0 : 0 ≤ v) (h1 : v < 9223372036854775808) : oItoa [.lit (.int .i64 v)] = some (.lit (.string (bs (decDigits v.toNat)))) := by
  simp only [oItoa]
  rw [if_pos ⟨by omega, by omega⟩]
  have e : Lib.itoa v = decDigits v.toNat := by
    unfold Lib.itoa
    rw [if_neg (by omega)]
  rw [e]
  rfl
theorem prt_bs {t : Int × Rat} : (absT t.2 = [49] → bs (prt t) = (⟨#[120]⟩ : ByteArray) ++ bs (decDigits t.1.toNat)) ∧ (absT t.2 ≠ [49] → bs (prt t) = (bs (absT t.2) ++ (⟨#[42]⟩ : ByteArray)) ++ ((⟨#[120]⟩ : ByteArray) ++ bs (decDigits t.1.toNat))) := by
  have c1 : (⟨#[120]⟩ : ByteArray) = bs [120] := rfl
  have c2 : (⟨#[42]⟩ : ByteArray) = bs [42] := rfl
  unfold prt
  refine ⟨fun h => ?_, fun h => ?_⟩
  · rw [if_pos h, c1, bs_app]; rfl
  · rw [if_neg h, c1, c2, bs_app, bs_app, bs_app]; rfl
theorem ltx_c {f : Form} (hf : TxB f) : run (n + 7) 18 [formV f] = some (.lit (.string (bs (txt f)))) := by
  have hl := hf.l
  have hT : ∀ i, i ≤ f.1.length → (txL (f.1.take i)).length ≤ i * 6703 := fun i hi => by
    have h := txL_len (l := f.1.take i) (a := []) (fun t ht => hf.t t (List.mem_of_mem_take ht))
    rw [List.length_take] at h
    simp only [List.length_nil, Nat.zero_add] at h
    have : min i f.1.length * 6703 = i * 6703 := by rw [Nat.min_eq_left hi]
    unfold txL
    omega
  obtain ⟨b, hL, hI1, hI2⟩ := loopG_R (O := tab (n + 7)) (P := Tryz.prog) (m := 0) (N := 55) (lives := livesOf 18) (r := 4) (C := ltx_C4) (exN := .exit 0) (M := f.1.length)
    (enc := fun i (b : List UInt8) => if b = [] then ltx_h4 f i else ltx_hN f i (bs b)) (out := fun b => if b = [] then ltx_o4a f else ltx_oN f (bs b))
    (fun i b => b = txL (f.1.take i) ∧ i ≤ f.1.length) [] ⟨rfl, Nat.zero_le _⟩ (by omega) (fun h => by cases h)
    (fun i b hi hI => by
      obtain ⟨hb, hle⟩ := hI
      have hx : f.1[i]? = some f.1[i] := List.getElem?_eq_getElem hi
      obtain ⟨t, ht⟩ : ∃ t, f.1[i] = t := ⟨_, rfl⟩
      rw [ht] at hx
      have htk : f.1.take (i + 1) = f.1.take i ++ [t] := by rw [List.take_add_one, hx]; rfl
      obtain ⟨v, q⟩ := t
      obtain ⟨hq, hv0, hv1⟩ := hf.t _ (List.mem_of_getElem? hx)
      dsimp only at hq hv0 hv1
      have hbl := hT i hle
      rw [← hb] at hbl
      have hi6 : i * 6703 ≤ 100 * 6703 := Nat.mul_le_mul_right _ (by omega)
      have hpl := prt_len (t := (v, q)) hq hv0 hv1
      have hal := absT_len2 hq
      have hdl := dd_small (K := v.toNat) (m := 2) (lmb_len_le (by omega))
      have K3 := k_itoa hv0 hv1
      have K5 := lsz_c (n := n) (q := q) (by omega)
      have C1 : (i : Int) < (f.1.length : Int) := by omega
      have W : InI ((i : Int) + 1) := ⟨by omega, by omega⟩
      have e1 : (⟨#[120]⟩ : ByteArray).size = 1 := rfl
      have e2 : (⟨#[42]⟩ : ByteArray).size = 1 := rfl
      have c1 : (⟨#[49]⟩ : ByteArray) = bs [49] := rfl
      have S4 : (⟨#[120]⟩ : ByteArray).size + (bs (decDigits v.toNat)).size ≤ 9000000000000000000 := by rw [e1, bs_size]; omega
      have S7 : (bs (absT q)).size + (⟨#[42]⟩ : ByteArray).size ≤ 9000000000000000000 := by rw [e2, bs_size]; omega
      have c4 : (⟨#[120]⟩ : ByteArray) ++ bs (decDigits v.toNat) = bs (120 :: decDigits v.toNat) := bs_app [120] _
      have c5 : bs (absT q) ++ (⟨#[42]⟩ : ByteArray) = bs (absT q ++ [42]) := bs_app _ [42]
      have S8 : (bs (absT q) ++ (⟨#[42]⟩ : ByteArray)).size + ((⟨#[120]⟩ : ByteArray) ++ bs (decDigits v.toNat)).size ≤ 9000000000000000000 := by
        rw [c4, c5, bs_size, bs_size, List.length_append, List.length_cons]; simp; omega
      have hne : jn b (rawQ q).s (prt (v, q)) ≠ [] := jn_ne (prt_ne _)
      refine ⟨jn b (rawQ q).s (prt (v, q)), ?_, by rw [htk, txL_snoc, ← hb]; rfl, hi⟩
      rw [if_neg hne]
      by_cases h0 : b = []
      · subst h0
        rw [if_pos rfl]
        rcases (Bool.eq_false_or_eq_true (rawQ q).s).symm with hs | hs
        · have P0 := partE0 (n := n) (p := prt (v, q)) hs (by omega)
          by_cases h1 : absT q = [49]
          · have e := prt_bs (t := (v, q)).1 h1
            exact ltE1_2 C1 hx K3 S4 e K5 (by rw [h1]; rfl) P0 W
          · have e := prt_bs (t := (v, q)).2 h1
            exact ltE1_1 C1 hx K3 S4 rfl K5 (fun h => h1 (bs_inj (h.trans c1))) S7 rfl S8 e P0 W
        · have P0 := partE1 (n := n) (p := prt (v, q)) hs (by omega)
          by_cases h1 : absT q = [49]
          · have e := prt_bs (t := (v, q)).1 h1
            exact ltE2_2 C1 hx K3 S4 e K5 (by rw [h1]; rfl) P0 W
          · have e := prt_bs (t := (v, q)).2 h1
            exact ltE2_1 C1 hx K3 S4 rfl K5 (fun h => h1 (bs_inj (h.trans c1))) S7 rfl S8 e P0 W
      · rw [if_neg h0]
        have P0 := partN (n := n) (a := b) (p := prt (v, q)) (neg := (rawQ q).s) h0 (by omega)
        by_cases h1 : absT q = [49]
        · have e := prt_bs (t := (v, q)).1 h1
          exact ltN_2 C1 hx K3 S4 e K5 (by rw [h1]; rfl) P0 W
        · have e := prt_bs (t := (v, q)).2 h1
          exact ltN_1 C1 hx K3 S4 rfl K5 (fun h => h1 (bs_inj (h.trans c1))) S7 rfl S8 e P0 W)
    (fun b hI => by
      by_cases h0 : b = []
      · rw [if_pos h0, if_pos h0]; exact ltx_x4_1 (by omega)
      · rw [if_neg h0, if_neg h0]; exact ltN_x (by omega))
  rw [List.take_length] at hI1
  rw [if_pos rfl] at hL
  have hbl := hT f.1.length (Nat.le_refl _)
  rw [List.take_length, ← hI1] at hbl
  have hi6 : f.1.length * 6703 ≤ 100 * 6703 := Nat.mul_le_mul_right _ hl
  have hkl := absT_len2 hf.k
  have K3 := lsz_c (n := n) (q := f.2) (by have := hf.k; omega)
  have hn0 : (0 < ((rawQ f.2).l1.length : Int)) ↔ f.2 ≠ 0 := by
    have h9 : (rawQ f.2).l1 = lmb f.2.num.natAbs := rfl
    rw [h9]
    constructor
    · intro h e
      rw [e] at h
      simp [lmb_zero] at h
    · intro h
      have : 0 < f.2.num.natAbs := by
        rcases Nat.eq_zero_or_pos f.2.num.natAbs with h1 | h1
        · exact absurd (Rat.num_eq_zero.1 (Int.natAbs_eq_zero.1 h1)) h
        · exact h1
      rw [lmb_pos this]
      simp
  unfold txt ngT
  rw [← hI1]
  have hne : jn b (rawQ f.2).s (absT f.2) ≠ [] := jn_ne (absT_ne _)
  have hjl := jn_len b (rawQ f.2).s (absT f.2)
  have Z := bstr_c (n := n) hne (by omega)
  by_cases h0 : b = []
  · rw [if_pos (.inr h0)]
    subst h0
    rw [if_pos rfl] at hL
    by_cases h2 : f.2 = 0
    · have hs : (rawQ f.2).s = false := by rw [h2]; decide +kernel
      have P0 := partE0 (n := n) (p := absT f.2) hs (by omega)
      exact ltFE3 hL (fun h => hn0.1 h h2) (blen_0 (n := n + 6)) rfl K3 P0 Z
    · rcases (Bool.eq_false_or_eq_true (rawQ f.2).s).symm with hs | hs
      · have P0 := partE0 (n := n) (p := absT f.2) hs (by omega)
        exact ltFE1 hL (hn0.2 h2) K3 P0 Z
      · have P0 := partE1 (n := n) (p := absT f.2) hs (by omega)
        exact ltFE2 hL (hn0.2 h2) K3 P0 Z
  · rw [if_neg h0] at hL
    by_cases h2 : f.2 = 0
    · rw [if_neg (fun h => h.elim (fun h => h h2) h0)]
      have L0 := blen_1 (n := n + 6) (k := (bs b).size) (es := strEls (bs b))
      exact ltFN2 hL (fun h => hn0.1 h h2) L0 (by rw [bs_size]; have := List.length_pos_iff.2 h0; omega) (bstr_c (n := n) h0 (by omega))
    · rw [if_pos (.inl h2)]
      exact ltFN1 hL (hn0.2 h2) K3 (partN (n := n) h0 (by omega)) Z
theorem ftx_c {f : Form} (hf : TxB f) : run (n + 6) 20 [formV f] = some (.lit (.string (bs (txt f)))) := by
  have hl := hf.l
  have hT : ∀ i, i ≤ f.1.length → (txL (f.1.take i)).length ≤ i * 6703 := fun i hi => by
    have h := txL_len (l := f.1.take i) (a := []) (fun t ht => hf.t t (List.mem_of_mem_take ht))
    rw [List.length_take] at h
    simp only [List.length_nil, Nat.zero_add] at h
    have : min i f.1.length * 6703 = i * 6703 := by rw [Nat.min_eq_left hi]
    unfold txL
    omega
  obtain ⟨b, hL, hI1, hI2⟩ := loopG_R (O := tab (n + 6)) (P := Tryz.prog) (m := 0) (N := 55) (lives := livesOf 20) (r := 3) (C := ftx_C3) (exN := .exit 0) (M := f.1.length)
    (enc := fun i (b : List UInt8) => ftx_h3 f (bs b) i) (out := fun b => ftx_o3a f (bs b))
    (fun i b => b = txL (f.1.take i) ∧ i ≤ f.1.length) [] ⟨rfl, Nat.zero_le _⟩ (by omega) (fun h => by cases h)
    (fun i b hi hI => by
      obtain ⟨hb, hle⟩ := hI
      have hx : f.1[i]? = some f.1[i] := List.getElem?_eq_getElem hi
      obtain ⟨t, ht⟩ : ∃ t, f.1[i] = t := ⟨_, rfl⟩
      rw [ht] at hx
      have htk : f.1.take (i + 1) = f.1.take i ++ [t] := by rw [List.take_add_one, hx]; rfl
      obtain ⟨v, q⟩ := t
      obtain ⟨hq, hv0, hv1⟩ := hf.t _ (List.mem_of_getElem? hx)
      dsimp only at hq hv0 hv1
      have hbl := hT i hle
      rw [← hb] at hbl
      have hi6 : i * 6703 ≤ 100 * 6703 := Nat.mul_le_mul_right _ (by omega)
      have hpl := prt_len (t := (v, q)) hq hv0 hv1
      have hal := absT_len2 hq
      have hv2 : (lmb v.toNat).length ≤ 2 := lmb_len_le (by omega)
      have hdl := dd_small (K := v.toNat) (m := 2) hv2
      have K3 := fab_c (n := n) (q := q) (by omega)
      have K8 := k_ofu (z := v) hv0 (by omega)
      have K9 := fdg_c (n := n + 1) (K := v.toNat) (by omega)
      have C1 : (i : Int) < (f.1.length : Int) := by omega
      have W : InI ((i : Int) + 1) := ⟨by omega, by omega⟩
      have w7 : IntKind.u64.wrap v = v := by rw [wrapU64]; omega
      have e1 : (⟨#[120]⟩ : ByteArray).size = 1 := rfl
      have e2 : (⟨#[42]⟩ : ByteArray).size = 1 := rfl
      have c1 : (⟨#[49, 42]⟩ : ByteArray) = bs [49, 42] := rfl
      have S4 : (bs (absT q)).size + (⟨#[42]⟩ : ByteArray).size ≤ 9000000000000000000 := by rw [e2, bs_size]; omega
      have c5 : bs (absT q) ++ (⟨#[42]⟩ : ByteArray) = bs (absT q ++ [42]) := bs_app _ [42]
      have c6 : (⟨#[]⟩ : ByteArray) ++ (⟨#[120]⟩ : ByteArray) = bs [120] := bs_app [] [120]
      have c7 : bs (absT q ++ [42]) ++ (⟨#[120]⟩ : ByteArray) = bs (absT q ++ [42] ++ [120]) := bs_app _ [120]
      have J := fjn_c (n := n + 5) (a := b) (p := prt (v, q)) (neg := (rawQ q).s) (by omega)
      refine ⟨jn b (rawQ q).s (prt (v, q)), ?_, by rw [htk, txL_snoc, ← hb]; rfl, hi⟩
      by_cases h1 : absT q = [49]
      · have e : bs (prt (v, q)) = bs [120] ++ bs (decDigits v.toNat) := by
          rw [bs_app]; unfold prt; rw [if_pos h1]; rfl
        exact ftx_r3_1 C1 hx K3 S4 rfl (by rw [h1]; rfl) (by decide) c6.symm w7 K8 K9 (by rw [bs_size, bs_size, List.length_singleton]; omega) e J W
      · have e : bs (prt (v, q)) = bs (absT q ++ [42] ++ [120]) ++ bs (decDigits v.toNat) := by
          rw [bs_app]; unfold prt; rw [if_neg h1]; simp
        refine ftx_r3_2 C1 hx K3 S4 c5.symm (fun h => h1 ?_) (by rw [bs_size, e1, List.length_append]; simp; omega) c7.symm w7 K8 K9 (by rw [bs_size, bs_size, List.length_append, List.length_append]; simp; omega) e J W
        have h9 := bs_inj (h.trans c1)
        have h8 : absT q ++ [42] = [49] ++ [42] := h9
        exact List.append_cancel_right h8)
    (fun b hI => ftx_x3_1 (by omega))
  rw [List.take_length] at hI1
  have hbl := hT f.1.length (Nat.le_refl _)
  rw [List.take_length, ← hI1] at hbl
  have hi6 : f.1.length * 6703 ≤ 100 * 6703 := Nat.mul_le_mul_right _ hl
  have hkl := absT_len2 hf.k
  have hk := hf.k
  have K3 := fab_c (n := n) (q := f.2) (by omega)
  have J := fjn_c (n := n + 5) (a := b) (p := absT f.2) (neg := (rawQ f.2).s) (by omega)
  unfold txt ngT
  rw [← hI1]
  by_cases h0 : b = []
  · rw [if_pos (.inr h0)]
    exact ftx_f1 hL (by rw [h0]; rfl) K3 J
  · by_cases h2 : f.2 = 0
    · rw [if_neg (fun h => h.elim (fun h => h h2) h0)]
      exact ftx_f3 hL (bs_ne h0) (by omega) (sgR_eq_zero.2 h2)
    · rw [if_pos (.inl h2)]
      exact ftx_f2 hL (bs_ne h0) (by omega) (fun h => h2 (sgR_eq_zero.1 h)) K3 J
end
end Go.Proofs.YtjpoanaoaeaneaaGreatDoor
set_option linter.all false
namespace Go.Proofs.YtjpoanaoaeaneaaGreatDoor
open Go.RowKit
def Srt (F : List (Int × Rat)) : Prop := F.Pairwise (fun a b => a.1 < b.1) ∧ ∀ t ∈ F, t.2 ≠ 0
def LBd (k : Int) (F : List (Int × Rat)) : Prop := ∀ t ∈ F, k < t.1
def cof : List (Int × Rat) → Int → Rat
  | [], _ => 0
  | t :: l, u => if t.1 = u then t.2 else cof l u
theorem cof_nil (u : Int) : cof [] u = 0 := rfl
theorem cof_hd {t : Int × Rat} {F : List (Int × Rat)} {u : Int} (h : u = t.1) : cof (t :: F) u = t.2 := by unfold cof; rw [if_pos h.symm]
theorem cof_tl {t : Int × Rat} {F : List (Int × Rat)} {u : Int} (h : u ≠ t.1) : cof (t :: F) u = cof F u := by rw [cof, if_neg fun e => h e.symm]
theorem Srt.nil : Srt [] := ⟨List.Pairwise.nil, fun t ht => by cases ht⟩
theorem Srt.tail {t : Int × Rat} {F : List (Int × Rat)} (h : Srt (t :: F)) : Srt F := ⟨(List.pairwise_cons.1 h.1).2, fun u hu => h.2 u (by simp [hu])⟩
theorem Srt.head {t : Int × Rat} {F : List (Int × Rat)} (h : Srt (t :: F)) : LBd t.1 F := fun u hu => (List.pairwise_cons.1 h.1).1 u hu
theorem Srt.nz {t : Int × Rat} {F : List (Int × Rat)} (h : Srt (t :: F)) : t.2 ≠ 0 := h.2 t (by simp)
theorem cof_low : ∀ {F : List (Int × Rat)} {u : Int}, (∀ t ∈ F, t.1 ≠ u) → cof F u = 0
  | [], _, _ => rfl
  | t :: F, u, h => by rw [cof, if_neg (h t (by simp))]; exact cof_low fun x hx => h x (by simp [hx])
theorem LBd.cof {F : List (Int × Rat)} {k u : Int} (h : LBd k F) (hu : u ≤ k) : cof F u = 0 := cof_low fun t ht e => by have := h t ht; omega
theorem LBd.mono {F : List (Int × Rat)} {k j : Int} (h : LBd k F) (hj : j ≤ k) : LBd j F := fun t ht => by have := h t ht; omega
theorem put_srt {F : List (Int × Rat)} {v : Int} {q : Rat} (h : Srt F) (hl : LBd v F) : Srt (put1 v q ++ F) ∧ (∀ u, cof (put1 v q ++ F) u = if u = v then q else cof F u) ∧ ∀ k, k < v → LBd k (put1 v q ++ F) := by
  unfold put1
  split
  · rename_i h0
    rw [List.nil_append]
    refine ⟨h, fun u => ?_, fun k hk => hl.mono (by omega)⟩
    split
    · rename_i e; subst e; rw [hl.cof (Int.le_refl _), h0]
    · rfl
  · rename_i h0
    refine ⟨⟨List.pairwise_cons.2 ⟨fun x hx => hl x hx, h.1⟩, fun t ht => ?_⟩, fun u => ?_, fun k hk t ht => ?_⟩
    · rcases List.mem_cons.1 ht with rfl | ht
      · exact h0
      · exact h.2 t ht
    · show cof ((v, q) :: F) u = _
      rw [cof]
      by_cases e : v = u
      · rw [if_pos e, if_pos e.symm]
      · rw [if_neg e, if_neg fun e2 => e e2.symm]
    · rcases List.mem_cons.1 ht with rfl | ht
      · exact hk
      · have := hl t ht; omega
theorem srt_ext : ∀ {F G : List (Int × Rat)}, Srt F → Srt G → (∀ u, cof F u = cof G u) → F = G
  | [], [], _, _, _ => rfl
  | [], t :: G, _, hg, h => by
    have := h t.1
    rw [cof_nil, cof_hd rfl] at this
    exact absurd this.symm hg.nz
  | t :: F, [], hf, _, h => by
    have := h t.1
    rw [cof_nil, cof_hd rfl] at this
    exact absurd this hf.nz
  | (v, q) :: F, (u, p) :: G, hf, hg, h => by
    have e : v = u := by
      rcases Int.lt_trichotomy v u with h1 | h1 | h1
      · have h2 := h v
        rw [cof_hd rfl, cof_tl (by dsimp only; omega), hg.head.cof (by dsimp only; omega)] at h2
        exact absurd h2 hf.nz
      · exact h1
      · have h2 := h u
        rw [cof_tl (by dsimp only; omega), hf.head.cof (by dsimp only; omega), cof_hd rfl] at h2
        exact absurd h2.symm hg.nz
    subst e
    have e2 : q = p := by
      have h2 := h v
      rw [cof_hd rfl, cof_hd rfl] at h2
      exact h2
    subst e2
    rw [srt_ext hf.tail hg.tail fun u => ?_]
    by_cases e : u = v
    · subst e
      rw [hf.head.cof (Int.le_refl _), hg.head.cof (Int.le_refl _)]
    · have h2 := h u
      rw [cof_tl e, cof_tl e] at h2
      exact h2
theorem plus_done {F : List (Int × Rat)} {v : Int} {c : Rat} (h : LBd v F) (hz : ∀ t ∈ F, t.2 ≠ 0) : plusV true F v c = F := by
  induction F with
  | nil => rfl
  | cons t F ih =>
    have h1 := h t (by simp)
    rw [plusV_lt (by omega) (.inl rfl), ih (fun x hx => h x (by simp [hx])) fun x hx => hz x (by simp [hx])]
    unfold put1
    rw [if_neg (hz t (by simp))]
    rfl
theorem put_one {t : Int × Rat} {F : List (Int × Rat)} (h : t.2 ≠ 0) : put1 t.1 t.2 ++ F = t :: F := by unfold put1; rw [if_neg h]; rfl
theorem plus_srt {v : Int} {c : Rat} : ∀ {F : List (Int × Rat)}, Srt F → Srt (plusV false F v c) ∧ (∀ u, cof (plusV false F v c) u = cof F u + if u = v then c else 0) ∧ ∀ k, k < v → LBd k F → LBd k (plusV false F v c)
  | [], h => by
    have e : plusV false [] v c = put1 v c ++ [] := by rw [List.append_nil]; rfl
    rw [e]
    obtain ⟨h1, h2, h3⟩ := put_srt (v := v) (q := c) h (fun t ht => by cases ht)
    refine ⟨h1, fun u => ?_, fun k hk _ => h3 k hk⟩
    rw [h2, cof_nil]
    split <;> grind
  | t :: F, h => by
    have hd := h.head
    rcases Int.lt_trichotomy t.1 v with h1 | h1 | h1
    · obtain ⟨a1, a2, a3⟩ := plus_srt (v := v) (c := c) h.tail
      rw [plusV_lt (by omega) (.inr h1)]
      obtain ⟨b1, b2, b3⟩ := put_srt (v := t.1) (q := t.2) a1 (a3 _ h1 hd)
      refine ⟨b1, fun u => ?_, fun k hk hl => b3 k (hl t (by simp))⟩
      rw [b2, a2]
      by_cases e : u = t.1
      · rw [if_pos e, cof_hd e, if_neg (by omega)]; grind
      · rw [if_neg e, cof_tl e]
    · rw [plusV_eq h1, plus_done (by rw [← h1]; exact hd) h.tail.2]
      obtain ⟨b1, b2, b3⟩ := put_srt (v := t.1) (q := t.2 + c) h.tail hd
      refine ⟨b1, fun u => ?_, fun k hk hl => b3 k (hl t (by simp))⟩
      rw [b2]
      by_cases e : u = t.1
      · have e5 : u = v := by omega
        rw [if_pos e, if_pos e5, cof_hd e]
      · have e5 : ¬ u = v := by omega
        rw [if_neg e, if_neg e5, cof_tl e]; grind
    · rw [plusV_gt h1, plus_done (hd.mono (by omega)) h.tail.2, put_one h.nz]
      obtain ⟨b1, b2, b3⟩ := put_srt (v := v) (q := c) h (fun x hx => by
        rcases List.mem_cons.1 hx with rfl | hx
        · exact h1
        · have := hd x hx; omega)
      refine ⟨b1, fun u => ?_, fun k hk hl => b3 k hk⟩
      rw [b2]
      by_cases e : u = v
      · have e3 : cof (t :: F) u = 0 := cof_low fun x hx => by
          rcases List.mem_cons.1 hx with rfl | hx
          · omega
          · have := hd x hx; omega
        rw [if_pos e, if_pos e, e3]
        grind
      · rw [if_neg e, if_neg e]; grind
theorem add_srt : ∀ {G F : List (Int × Rat)}, Srt F → Srt G → Srt (addV F G) ∧ ∀ u, cof (addV F G) u = cof F u + cof G u
  | [], F, hf, _ => ⟨hf, fun u => by rw [cof_nil]; show cof F u = _; grind⟩
  | t :: G, F, hf, hg => by
    obtain ⟨a1, a2, _⟩ := plus_srt (v := t.1) (c := t.2) hf
    obtain ⟨b1, b2⟩ := add_srt a1 hg.tail
    refine ⟨b1, fun u => ?_⟩
    show cof (addV (plusV false F t.1 t.2) G) u = _
    rw [b2, a2]
    by_cases e : u = t.1
    · rw [if_pos e, cof_hd e, hg.head.cof (by omega)]; grind
    · rw [if_neg e, cof_tl e]; grind
theorem merge_srt {c : Rat} : ∀ (n : Nat) {F G : List (Int × Rat)}, F.length + G.length ≤ n → Srt F → Srt G → Srt (mergeV F G c) ∧ (∀ u, cof (mergeV F G c) u = cof F u + cof G u * c) ∧ ∀ k, LBd k F → LBd k G → LBd k (mergeV F G c)
  | n, [], [], _, hf, hg => by rw [mergeV_nil]; exact ⟨hf, fun u => by rw [cof_nil]; grind, fun k h _ => h⟩
  | 0, a :: F, G, hn, _, _ => by simp at hn
  | 0, [], b :: G, hn, _, _ => by simp at hn
  | n + 1, a :: F, [], hn, hf, hg => by
    obtain ⟨a1, a2, a3⟩ := merge_srt (c := c) n (F := F) (G := []) (by simp at hn ⊢; omega) hf.tail hg
    rw [mergeV_a]
    obtain ⟨b1, b2, b3⟩ := put_srt (v := a.1) (q := a.2) a1 (a3 _ hf.head fun t ht => by cases ht)
    refine ⟨b1, fun u => ?_, fun k h1 _ => b3 k (h1 a (by simp))⟩
    rw [b2, a2]
    by_cases e : u = a.1
    · rw [if_pos e, cof_hd e, cof_nil]; grind
    · rw [if_neg e, cof_tl e]
  | n + 1, [], b :: G, hn, hf, hg => by
    obtain ⟨a1, a2, a3⟩ := merge_srt (c := c) n (F := []) (G := G) (by simp at hn ⊢; omega) hf hg.tail
    rw [mergeV_b]
    obtain ⟨b1, b2, b3⟩ := put_srt (v := b.1) (q := b.2 * c) a1 (a3 _ (fun t ht => by cases ht) hg.head)
    refine ⟨b1, fun u => ?_, fun k _ h1 => b3 k (h1 b (by simp))⟩
    rw [b2, a2]
    by_cases e : u = b.1
    · rw [if_pos e, cof_hd e, cof_nil]; grind
    · rw [if_neg e, cof_tl e]
  | n + 1, a :: F, b :: G, hn, hf, hg => by
    simp only [List.length_cons] at hn
    rcases Int.lt_trichotomy a.1 b.1 with h1 | h1 | h1
    · obtain ⟨a1, a2, a3⟩ := merge_srt (c := c) n (F := F) (G := b :: G) (by simp; omega) hf.tail hg
      rw [mergeV_lt h1]
      obtain ⟨b1, b2, b3⟩ := put_srt (v := a.1) (q := a.2) a1 (a3 _ hf.head fun t ht => by
        rcases List.mem_cons.1 ht with rfl | ht
        · exact h1
        · have := hg.head t ht; omega)
      refine ⟨b1, fun u => ?_, fun k h2 _ => b3 k (h2 a (by simp))⟩
      rw [b2, a2]
      by_cases e : u = a.1
      · have e3 : cof (b :: G) u = 0 := cof_low fun x hx => by
          rcases List.mem_cons.1 hx with rfl | hx
          · omega
          · have := hg.head x hx; omega
        have e4 : cof (a :: F) u = a.2 := cof_hd e
        rw [if_pos e, e3, e4]; grind
      · have e4 : cof (a :: F) u = cof F u := cof_tl e
        rw [if_neg e, e4]
    · obtain ⟨a1, a2, a3⟩ := merge_srt (c := c) n (F := F) (G := G) (by omega) hf.tail hg.tail
      rw [mergeV_eq h1]
      obtain ⟨b1, b2, b3⟩ := put_srt (v := a.1) (q := a.2 + b.2 * c) a1 (a3 _ hf.head (by rw [h1]; exact hg.head))
      refine ⟨b1, fun u => ?_, fun k h2 _ => b3 k (h2 a (by simp))⟩
      rw [b2, a2]
      by_cases e : u = a.1
      · rw [if_pos e, cof_hd e, cof_hd (u := u) (by omega)]
      · have e3 : cof (b :: G) u = cof G u := cof_tl (by omega)
        have e4 : cof (a :: F) u = cof F u := cof_tl e
        rw [if_neg e, e3, e4]
    · obtain ⟨a1, a2, a3⟩ := merge_srt (c := c) n (F := a :: F) (G := G) (by simp; omega) hf hg.tail
      rw [mergeV_gt h1]
      obtain ⟨b1, b2, b3⟩ := put_srt (v := b.1) (q := b.2 * c) a1 (a3 _ (fun t ht => by
        rcases List.mem_cons.1 ht with rfl | ht
        · exact h1
        · have := hf.head t ht; omega) hg.head)
      refine ⟨b1, fun u => ?_, fun k _ h2 => b3 k (h2 b (by simp))⟩
      rw [b2, a2]
      by_cases e : u = b.1
      · have e3 : cof (a :: F) u = 0 := cof_low fun x hx => by
          rcases List.mem_cons.1 hx with rfl | hx
          · omega
          · have := hf.head x hx; omega
        have e4 : cof (b :: G) u = b.2 := cof_hd e
        rw [if_pos e, e3, e4]; grind
      · have e4 : cof (b :: G) u = cof G u := cof_tl e
        rw [if_neg e, e4]
theorem merge_scl (c : Rat) : ∀ (F : List (Int × Rat)), mergeV [] F c = sclV F c
  | [] => mergeV_nil c
  | t :: F => by rw [mergeV_b, merge_scl c F]; simp [sclV]
theorem scl_srt {F : List (Int × Rat)} {c : Rat} (h : Srt F) : Srt (sclV F c) ∧ ∀ u, cof (sclV F c) u = cof F u * c := by
  rw [← merge_scl]
  obtain ⟨a1, a2, _⟩ := merge_srt (c := c) _ (Nat.le_refl _) Srt.nil h
  exact ⟨a1, fun u => by rw [a2, cof_nil]; grind⟩
theorem merge_add {F G : List (Int × Rat)} {c : Rat} (hf : Srt F) (hg : Srt G) : mergeV F G c = addV F (sclV G c) := by
  obtain ⟨a1, a2, _⟩ := merge_srt (c := c) _ (Nat.le_refl _) hf hg
  obtain ⟨b1, b2⟩ := scl_srt (c := c) hg
  obtain ⟨d1, d2⟩ := add_srt hf b1
  exact srt_ext a1 d1 fun u => by rw [a2, d2, b2]
theorem OkFm.srt {f : Form} {vars : Int} (h : OkFm f vars) : Srt f.1 ∧ ∀ t ∈ f.1, 0 ≤ t.1 ∧ t.1 < vars := by
  have key : ∀ (i : Nat) (hi : i < f.1.length), 0 ≤ (f.1[i]).1 ∧ (f.1[i]).1 < vars ∧ (f.1[i]).2 ≠ 0 ∧ ∀ (h0 : 0 < i), (f.1[i - 1]'(by omega)).1 < (f.1[i]).1 := fun i hi => by
    obtain ⟨a1, a2, a3, a4⟩ := h i hi (f.1[i]).1 (f.1[i]).2 (List.getElem?_eq_getElem hi)
    exact ⟨a1, a2, a3, fun h0 => a4 _ (f.1[i - 1]'(by omega)).2 h0 (List.getElem?_eq_getElem _)⟩
  have ord : ∀ (j i : Nat) (hj : j < f.1.length) (hij : i < j), (f.1[i]'(by omega)).1 < (f.1[j]).1 := fun j => by
    induction j with
    | zero => intro i hj hij; omega
    | succ j ih =>
      intro i hj hij
      have h1 := (key (j + 1) hj).2.2.2 (by omega)
      have h2 : (f.1[j + 1 - 1]'(by omega)) = f.1[j]'(by omega) := rfl
      rw [h2] at h1
      by_cases e : i = j
      · subst e; exact h1
      · have := ih i (by omega) (by omega); omega
  refine ⟨⟨List.pairwise_iff_getElem.2 fun i j hi hj hij => ord j i hj hij, fun t ht => ?_⟩, fun t ht => ?_⟩
  · obtain ⟨i, hi, rfl⟩ := List.getElem_of_mem ht
    exact (key i hi).2.2.1
  · obtain ⟨i, hi, rfl⟩ := List.getElem_of_mem ht
    exact ⟨(key i hi).1, (key i hi).2.1⟩
end Go.Proofs.YtjpoanaoaeaneaaGreatDoor
set_option linter.all false
set_option maxRecDepth 100000
namespace Go.Proofs.YtjpoanaoaeaneaaGreatDoor
open Go.RowKit
open Lib (decDigits)
def skL : List UInt8 → List UInt8
  | [] => []
  | c :: l => if c = 32 then skL l else c :: l
def isD (c : UInt8) : Bool := decide (48 ≤ c.toNat ∧ c.toNat ≤ 57)
def dgL : Nat → List UInt8 → Nat → Nat × List UInt8
  | 0, l, n => (n, l)
  | _ + 1, [], n => (n, [])
  | k + 1, c :: l, n => if isD c = true then dgL k l (n * 10 + (c.toNat - 48)) else (n, c :: l)
def nmL (zero : Bool) (most : Nat) : List UInt8 → Option (Nat × List UInt8)
  | [] => none
  | c :: l => if isD c = true then (if c = 48 then (if zero = true then some (0, l) else none) else some (dgL most (c :: l) 0)) else none
def qv (neg : Bool) (a d : Nat) : Rat := mkRat (sgi neg a) d
def vaL (f : Form) (q : Rat) (l : List UInt8) : Except (List UInt8) (Form × List UInt8) :=
  match nmL true 9 l with
  | none => .error l
  | some (v, r) => .ok ((plusV false f.1 (v : Int) q, f.2), r)
def afL (f : Form) (q : Rat) : List UInt8 → Except (List UInt8) (Form × List UInt8)
  | [] => .ok ((f.1, f.2 + q), [])
  | c :: r => if c = 42 then (match skL r with
      | [] => .error []
      | c2 :: r2 => if c2 = 120 then vaL f q r2 else .error (c2 :: r2)) else .ok ((f.1, f.2 + q), c :: r)
def deL (f : Form) (neg : Bool) (a : Nat) : List UInt8 → Except (List UInt8) (Form × List UInt8)
  | [] => afL f (qv neg a 1) []
  | c :: r => if c = 47 then (match nmL false 200 (skL r) with
      | none => .error (skL r)
      | some (d, r3) => afL f (qv neg a d) (skL r3)) else afL f (qv neg a 1) (c :: r)
def nuL (f : Form) (neg : Bool) (l : List UInt8) : Except (List UInt8) (Form × List UInt8) :=
  match nmL true 200 l with
  | none => .error l
  | some (a, r) => deL f neg a (skL r)
def paL (f : Form) (neg : Bool) : List UInt8 → Except (List UInt8) (Form × List UInt8)
  | [] => nuL f neg []
  | c :: r => if c = 120 then vaL f (qv neg 1 1) r else nuL f neg (c :: r)
def psL : Nat → Form → Bool → List UInt8 → Except (List UInt8) Form
  | 0, _, _, l => .error l
  | k + 1, f, neg, l => match paL f neg (skL l) with
    | .error r => .error r
    | .ok (g, r) => match skL r with
      | [] => .ok g
      | c :: r2 => if c = 43 ∨ c = 45 then psL k g (decide (c = 45)) r2 else .error (c :: r2)
def psT (l : List UInt8) : Except (List UInt8) Form :=
  match skL l with
  | [] => psL (l.length + 1) ([], 0) false []
  | c :: r => if c = 43 ∨ c = 45 then psL (l.length + 1) ([], 0) (decide (c = 45)) r else psL (l.length + 1) ([], 0) false (c :: r)
theorem skL_ne {c : UInt8} {l : List UInt8} (h : c ≠ 32) : skL (c :: l) = c :: l := by rw [skL, if_neg h]
theorem skL_b (l : List UInt8) : skL (32 :: l) = skL l := by rw [skL, if_pos rfl]
def NoD : List UInt8 → Prop
  | [] => True
  | c :: _ => isD c = false
def dgV (D : List UInt8) (n : Nat) : Nat := D.foldl (fun n c => n * 10 + (c.toNat - 48)) n
theorem dgL_run : ∀ (D : List UInt8) (k n : Nat) (r : List UInt8), (∀ c ∈ D, isD c = true) → D.length ≤ k → NoD r → dgL k (D ++ r) n = (dgV D n, r)
  | [], 0, n, r, _, _, _ => by rw [List.nil_append, dgL]; rfl
  | [], k + 1, n, [], _, _, _ => rfl
  | [], k + 1, n, c :: r, _, _, h => by
    have h2 : isD c = false := h
    rw [List.nil_append, dgL, h2]; rfl
  | c :: D, 0, n, r, _, h, _ => by simp at h
  | c :: D, k + 1, n, r, hD, hl, hr => by
    rw [List.cons_append, dgL, if_pos (hD c (by simp)), dgL_run D k _ r (fun x hx => hD x (by simp [hx])) (by simp at hl; omega) hr]
    rfl
theorem dig_nat {k : Nat} (h : k < 10) : (dig k).toNat = 48 + k := by
  unfold dig
  rw [UInt8.toNat_ofNat']
  omega
theorem dig_d {k : Nat} (h : k < 10) : isD (dig k) = true := by
  unfold isD
  rw [dig_nat h]
  simp; omega
theorem dd_d : ∀ (m u : Nat), u ≤ m → (∀ c ∈ decDigits u, isD c = true) ∧ dgV (decDigits u) 0 = u ∧ (0 < u → ∃ c r, decDigits u = c :: r ∧ c ≠ 48)
  | m, u, hm => by
    by_cases h : u < 10
    · rw [dd_lt h]
      refine ⟨fun c hc => by rw [List.mem_singleton.1 hc]; exact dig_d h, ?_, fun h0 => ⟨dig u, [], rfl, fun e => ?_⟩⟩
      · show 0 * 10 + ((dig u).toNat - 48) = u
        rw [dig_nat h]; omega
      · have := dig_nat h
        rw [e] at this
        have e2 : (48 : UInt8).toNat = 48 := rfl
        omega
    · cases m with
      | zero => omega
      | succ m =>
        obtain ⟨a1, a2, a3⟩ := dd_d m (u / 10) (by omega)
        obtain ⟨c, r, e, hc⟩ := a3 (by omega)
        rw [dd_ge h]
        have hr : u % 10 < 10 := Nat.mod_lt _ (by omega)
        refine ⟨fun c hc => ?_, ?_, fun _ => ⟨c, r ++ [dig (u % 10)], by rw [e]; rfl, hc⟩⟩
        · rcases List.mem_append.1 hc with h1 | h1
          · exact a1 c h1
          · rw [List.mem_singleton.1 h1]; exact dig_d hr
        · unfold dgV at a2 ⊢
          rw [List.foldl_append, a2]
          show u / 10 * 10 + ((dig (u % 10)).toNat - 48) = u
          rw [dig_nat hr]; omega
theorem nmL_dd {zero : Bool} {most u : Nat} {r : List UInt8} (hl : (decDigits u).length ≤ most) (hr : NoD r) (h0 : zero = true ∨ 0 < u) : nmL zero most (decDigits u ++ r) = some (u, r) := by
  obtain ⟨a1, a2, a3⟩ := dd_d u u (Nat.le_refl _)
  by_cases h : 0 < u
  · obtain ⟨c, D, e, hc⟩ := a3 h
    have hd := a1 c (by rw [e]; simp)
    have hrun := dgL_run (decDigits u) most 0 r a1 hl hr
    rw [a2] at hrun
    rw [e, List.cons_append] at hrun ⊢
    rw [nmL, if_pos hd, if_neg hc, hrun]
  · have : u = 0 := by omega
    subst this
    rcases h0 with h0 | h0
    · subst h0
      rw [dd_lt (by omega)]
      show nmL true most (dig 0 :: r) = _
      have e : dig 0 = 48 := rfl
      rw [nmL, if_pos (dig_d (by omega)), if_pos e, if_pos rfl]
    · omega
theorem noD_c {c : UInt8} {l : List UInt8} (h : ¬ (48 ≤ c.toNat ∧ c.toNat ≤ 57)) : NoD (c :: l) := by
  show isD c = false
  unfold isD
  rw [decide_eq_false h]
theorem qv_of (q : Rat) : qv (ngT q) q.num.natAbs q.den = q := by
  unfold qv ngT
  rw [(rawQ_parts q).2.2]
  exact rat_back q
def End : List UInt8 → Prop
  | [] => True
  | c :: _ => c = 32
theorem End.noD {l : List UInt8} (h : End l) : NoD l := by
  cases l with
  | nil => trivial
  | cons c l =>
    have : c = 32 := h
    subst this
    exact noD_c (by decide)
structure NB (q : Rat) : Prop where
  n : (decDigits q.num.natAbs).length ≤ 200
  d : (decDigits q.den).length ≤ 200
theorem nu_abs {f : Form} {q : Rat} {r : List UInt8} (hq : NB q) (hr : NoD r) (hs : ∀ c l, skL r = c :: l → c ≠ 47) :
    nuL f (ngT q) (absT q ++ r) = afL f q (skL r) := by
  have hqv := qv_of q
  unfold nuL absT
  by_cases h : q.den = 1
  · rw [if_pos h, List.append_nil, nmL_dd hq.n hr (.inl rfl)]
    dsimp only
    rw [h] at hqv
    cases e : skL r with
    | nil => rw [deL, hqv]
    | cons c l => rw [deL, if_neg (hs c l e), hqv]
  · rw [if_neg h, List.append_assoc, List.cons_append, nmL_dd hq.n (noD_c (by decide)) (.inl rfl)]
    dsimp only
    have hd := q.den_pos
    obtain ⟨c, D, e, hc⟩ := (dd_d q.den q.den (Nat.le_refl _)).2.2 hd
    have hdig := (dd_d q.den q.den (Nat.le_refl _)).1 c (by rw [e]; simp)
    have hsk : skL (decDigits q.den ++ r) = decDigits q.den ++ r := by
      rw [e, List.cons_append]
      refine skL_ne fun e2 => ?_
      rw [e2] at hdig
      exact absurd hdig (by decide)
    rw [skL_ne (by decide), deL, if_pos rfl, hsk, nmL_dd hq.d hr (.inr hd)]
    dsimp only
    rw [hqv]
theorem absT_hd (q : Rat) (r : List UInt8) : ∃ c l, absT q ++ r = c :: l ∧ isD c = true := by
  unfold absT
  cases e : decDigits q.num.natAbs with
  | nil => exact absurd e (dd_ne _)
  | cons c D =>
    have := (dd_d q.num.natAbs q.num.natAbs (Nat.le_refl _)).1 c (by rw [e]; simp)
    exact ⟨c, _, rfl, this⟩
theorem isD_ne {c d : UInt8} (h : isD c = true) (hd : isD d = false) : c ≠ d := fun e => by rw [e, hd] at h; cases h
theorem pa_prt {f : Form} {t : Int × Rat} {r : List UInt8} (hq : NB t.2) (h0 : 0 ≤ t.1) (hv : (decDigits t.1.toNat).length ≤ 9) (hr : NoD r) (hs : ∀ c l, skL r = c :: l → c ≠ 47) :
    skL (prt t ++ r) = prt t ++ r ∧ paL f (ngT t.2) (prt t ++ r) = .ok ((plusV false f.1 t.1 t.2, f.2), r) := by
  have hva : ∀ q, vaL f q (decDigits t.1.toNat ++ r) = .ok ((plusV false f.1 t.1 q, f.2), r) := fun q => by
    unfold vaL
    rw [nmL_dd hv hr (.inl rfl)]
    dsimp only
    rw [show ((t.1.toNat : Nat) : Int) = t.1 from by omega]
  unfold prt
  by_cases h : absT t.2 = [49]
  · rw [if_pos h, List.nil_append, List.cons_append]
    refine ⟨skL_ne (by decide), ?_⟩
    rw [paL, if_pos rfl]
    have e : qv (ngT t.2) 1 1 = t.2 := by
      have h1 := qv_of t.2
      have hn : t.2.num.natAbs = 1 ∧ t.2.den = 1 := by
        unfold absT at h
        have hd : t.2.den = 1 := by
          false_or_by_contra
          rename_i h2
          rw [if_neg h2] at h
          have := congrArg List.length h
          rw [List.length_append, List.length_cons, List.length_singleton] at this
          have := dd_pos t.2.num.natAbs
          omega
        rw [if_pos hd, List.append_nil] at h
        have := (dd_d t.2.num.natAbs t.2.num.natAbs (Nat.le_refl _)).2.1
        rw [h] at this
        exact ⟨this.symm, hd⟩
      rw [hn.1, hn.2] at h1
      exact h1
    rw [e, hva]
  · rw [if_neg h, List.append_assoc, List.append_assoc, List.cons_append, List.cons_append, List.nil_append]
    obtain ⟨c, l, e, hc⟩ := absT_hd t.2 (42 :: 120 :: (decDigits t.1.toNat ++ r))
    have hn := nu_abs (f := f) hq (r := 42 :: 120 :: (decDigits t.1.toNat ++ r)) (noD_c (by decide)) (fun c l e => by rw [skL_ne (by decide)] at e; cases e; decide)
    rw [e] at hn ⊢
    refine ⟨skL_ne (isD_ne hc (by decide)), ?_⟩
    rw [paL, if_neg (isD_ne hc (by decide)), hn, skL_ne (by decide), afL, if_pos rfl, skL_ne (by decide)]
    dsimp only
    rw [if_pos rfl, hva]
theorem pa_abs {f : Form} {q : Rat} {r : List UInt8} (hq : NB q) (hr : End r) (hs : ∀ c l, skL r = c :: l → c ≠ 47 ∧ c ≠ 42) :
    skL (absT q ++ r) = absT q ++ r ∧ paL f (ngT q) (absT q ++ r) = .ok ((f.1, f.2 + q), skL r) := by
  obtain ⟨c, l, e, hc⟩ := absT_hd q r
  have hn := nu_abs (f := f) hq (r := r) hr.noD (fun c l e => (hs c l e).1)
  rw [e] at hn ⊢
  refine ⟨skL_ne (isD_ne hc (by decide)), ?_⟩
  rw [paL, if_neg (isD_ne hc (by decide)), hn]
  cases e2 : skL r with
  | nil => rw [afL]
  | cons c l => rw [afL, if_neg (hs c l e2).2]
def tlT (c : Rat) : List (Int × Rat) → List UInt8
  | [] => if c ≠ 0 then (if ngT c = true then [32, 45, 32] else [32, 43, 32]) ++ absT c else []
  | t :: l => ((if ngT t.2 = true then [32, 45, 32] else [32, 43, 32]) ++ prt t) ++ tlT c l
theorem tlT_end (c : Rat) (l : List (Int × Rat)) : End (tlT c l) ∧ ∀ d r, skL (tlT c l) = d :: r → d ≠ 47 ∧ d ≠ 42 := by
  cases l with
  | nil =>
    unfold tlT
    split
    · split
      · refine ⟨rfl, fun d r e => ?_⟩
        rw [List.cons_append, skL_b, List.cons_append, skL_ne (by decide)] at e
        cases e; decide
      · refine ⟨rfl, fun d r e => ?_⟩
        rw [List.cons_append, skL_b, List.cons_append, skL_ne (by decide)] at e
        cases e; decide
    · exact ⟨trivial, fun d r e => (by cases e)⟩
  | cons t l =>
    unfold tlT
    split
    · refine ⟨rfl, fun d r e => ?_⟩
      rw [List.append_assoc, List.cons_append, skL_b, List.cons_append, skL_ne (by decide)] at e
      cases e; decide
    · refine ⟨rfl, fun d r e => ?_⟩
      rw [List.append_assoc, List.cons_append, skL_b, List.cons_append, skL_ne (by decide)] at e
      cases e; decide
def sumP (f : Form) (c : Rat) : List (Int × Rat) → Form
  | [] => (f.1, f.2 + c)
  | t :: l => sumP (plusV false f.1 t.1 t.2, f.2) c l
structure TmN (t : Int × Rat) : Prop where
  q : NB t.2
  v0 : 0 ≤ t.1
  v : (decDigits t.1.toNat).length ≤ 9
def coL (k : Nat) (f : Form) (l : List UInt8) : Except (List UInt8) Form :=
  match skL l with
  | [] => .ok f
  | d :: r2 => if d = 43 ∨ d = 45 then psL k f (decide (d = 45)) r2 else .error (d :: r2)
theorem coL_s {k : Nat} {f : Form} {d : UInt8} {r : List UInt8} (h : d = 43 ∨ d = 45) : coL k f (32 :: d :: r) = psL k f (decide (d = 45)) r := by
  have hd : d ≠ 32 := by rcases h with rfl | rfl <;> decide
  unfold coL
  rw [skL_b, skL_ne hd]
  dsimp only
  rw [if_pos h]
theorem ps_tl {c : Rat} (hc : NB c) : ∀ (l : List (Int × Rat)) (k : Nat) (f : Form), (∀ t ∈ l, TmN t) → l.length + 1 ≤ k →
    coL k f (tlT c l) = .ok (sumP f c l)
  | [], k, f, _, hk => by
    unfold tlT
    by_cases h : c = 0
    · rw [if_neg (fun e => e h), sumP, h, Rat.add_zero]
      rfl
    · rw [if_pos h]
      obtain ⟨k, rfl⟩ : ∃ j, k = j + 1 := ⟨k - 1, by omega⟩
      obtain ⟨a1, a2⟩ := pa_abs (f := f) (r := []) hc trivial (fun c l e => by cases e)
      rw [List.append_nil] at a1 a2
      have hps : psL (k + 1) f (ngT c) (32 :: absT c) = .ok (sumP f c []) := by
        rw [psL, skL_b, a1, a2]
        rfl
      by_cases hn : ngT c = true
      · rw [if_pos hn]
        show coL _ f (32 :: 45 :: 32 :: absT c) = _
        rw [coL_s (.inr rfl), ← hps, hn]; rfl
      · rw [if_neg hn]
        show coL _ f (32 :: 43 :: 32 :: absT c) = _
        rw [coL_s (.inl rfl), ← hps, Bool.eq_false_iff.2 hn]; rfl
  | t :: l, k, f, hT, hk => by
    obtain ⟨k, rfl⟩ : ∃ j, k = j + 1 := ⟨k - 1, by simp at hk; omega⟩
    have ht := hT t (by simp)
    obtain ⟨b1, b2⟩ := tlT_end c l
    obtain ⟨a1, a2⟩ := pa_prt (f := f) (r := tlT c l) ht.q ht.v0 ht.v b1.noD (fun d r e => (b2 d r e).1)
    have ih := ps_tl hc l k (plusV false f.1 t.1 t.2, f.2) (fun u hu => hT u (by simp [hu])) (by simp at hk; omega)
    have hps : psL (k + 1) f (ngT t.2) (32 :: (prt t ++ tlT c l)) = .ok (sumP f c (t :: l)) := by
      rw [psL, skL_b, a1, a2]
      exact ih
    unfold tlT
    by_cases hn : ngT t.2 = true
    · rw [if_pos hn]
      show coL _ f (32 :: 45 :: 32 :: (prt t ++ tlT c l)) = _
      rw [coL_s (.inr rfl), ← hps, hn]; rfl
    · rw [if_neg hn]
      show coL _ f (32 :: 43 :: 32 :: (prt t ++ tlT c l)) = _
      rw [coL_s (.inl rfl), ← hps, Bool.eq_false_iff.2 hn]; rfl
theorem txL_tl (c : Rat) : ∀ (l : List (Int × Rat)) (a : List UInt8), a ≠ [] → (if c ≠ 0 ∨ l.foldl txS a = [] then jn (l.foldl txS a) (ngT c) (absT c) else l.foldl txS a) = a ++ tlT c l
  | [], a, h => by
    rw [List.foldl_nil]
    unfold tlT jn
    rw [if_neg h]
    by_cases hc : c = 0
    · rw [if_neg (by intro e; rcases e with e | e; exact e hc; exact h e), if_neg (fun e => e hc), List.append_nil]
    · rw [if_pos (.inl hc), if_pos hc]
  | t :: l, a, h => by
    rw [List.foldl_cons, txL_tl c l (txS a t) (jn_ne (prt_ne t))]
    show txS a t ++ tlT c l = a ++ (((if ngT t.2 = true then [32, 45, 32] else [32, 43, 32]) ++ prt t) ++ tlT c l)
    unfold txS jn
    rw [if_neg h, List.append_assoc]
theorem sgn_first {k : Nat} {neg : Bool} {p r : List UInt8} (hp : ∃ c l, p ++ r = c :: l ∧ c ≠ 32 ∧ c ≠ 43 ∧ c ≠ 45) :
    psT ((if neg = true then 45 :: p else p) ++ r) = psL (((if neg = true then 45 :: p else p) ++ r).length + 1) ([], 0) neg (p ++ r) := by
  obtain ⟨c, l, e, h1, h2, h3⟩ := hp
  unfold psT
  cases neg with
  | true =>
    rw [if_pos rfl, List.cons_append, skL_ne (by decide)]
    dsimp only
    rw [if_pos (.inr rfl)]; rfl
  | false =>
    rw [if_neg (by simp), e, skL_ne h1]
    dsimp only
    rw [if_neg (by intro e; rcases e with e | e; exact h2 e; exact h3 e)]
theorem prt_hd (t : Int × Rat) (r : List UInt8) : ∃ c l, prt t ++ r = c :: l ∧ c ≠ 32 ∧ c ≠ 43 ∧ c ≠ 45 := by
  unfold prt
  split
  · exact ⟨120, _, rfl, by decide, by decide, by decide⟩
  · obtain ⟨c, l, e, hc⟩ := absT_hd t.2 ([42] ++ (120 :: decDigits t.1.toNat ++ r))
    refine ⟨c, l, ?_, isD_ne hc (by decide), isD_ne hc (by decide), isD_ne hc (by decide)⟩
    rw [← e]; simp
theorem plus_at : ∀ {F : List (Int × Rat)} {v : Int} {q : Rat}, (∀ t ∈ F, t.1 < v ∧ t.2 ≠ 0) → q ≠ 0 → plusV false F v q = F ++ [(v, q)]
  | [], v, q, _, h => by
    show put1 v q = _
    unfold put1; rw [if_neg h]; rfl
  | t :: F, v, q, hF, h => by
    have h0 := hF t (by simp)
    rw [plusV_lt (by omega) (.inr h0.1), plus_at (fun u hu => hF u (by simp [hu])) h]
    unfold put1; rw [if_neg h0.2]; rfl
theorem sum_srt (c : Rat) : ∀ (l : List (Int × Rat)) (f : Form), Srt (f.1 ++ l) → sumP f c l = (f.1 ++ l, f.2 + c)
  | [], f, _ => by rw [sumP, List.append_nil]
  | t :: l, f, h => by
    have hF : ∀ u ∈ f.1, u.1 < t.1 ∧ u.2 ≠ 0 := fun u hu => ⟨(List.pairwise_append.1 h.1).2.2 u hu t (by simp), h.2 u (by simp [hu])⟩
    rw [sumP, plus_at hF (h.2 t (by simp)), sum_srt c l (f.1 ++ [(t.1, t.2)], f.2) (by rw [List.append_assoc]; exact h)]
    simp
theorem psT_txt {f : Form} (hS : Srt f.1) (hT : ∀ t ∈ f.1, TmN t) (hc : NB f.2) : psT (txt f) = .ok f := by
  obtain ⟨F, c⟩ := f
  dsimp only at hS hT hc
  cases F with
  | nil =>
    have e : txt ([], c) = (if ngT c = true then 45 :: absT c else absT c) := by
      unfold txt
      rw [if_pos (.inr rfl)]
      show jn [] (ngT c) (absT c) = _
      unfold jn
      rw [if_pos rfl]
    obtain ⟨d, l, e1, hd⟩ := absT_hd c []
    have h2 := sgn_first (k := 0) (neg := ngT c) (p := absT c) (r := []) ⟨d, l, e1, isD_ne hd (by decide), isD_ne hd (by decide), isD_ne hd (by decide)⟩
    rw [List.append_nil, List.append_nil] at h2
    obtain ⟨a1, a2⟩ := pa_abs (f := ([], 0)) (r := []) hc trivial (fun c l e => by cases e)
    rw [List.append_nil] at a1 a2
    rw [e, h2, psL, a1, a2]
    show Except.ok (([] : List (Int × Rat)), (0 : Rat) + c) = _
    rw [Rat.zero_add]
  | cons t l =>
    have ht := hT t (by simp)
    have e : txt (t :: l, c) = (if ngT t.2 = true then 45 :: prt t else prt t) ++ tlT c l := by
      have h1 := txL_tl c l (txS [] t) (jn_ne (prt_ne t))
      have h2 : txS [] t = (if ngT t.2 = true then 45 :: prt t else prt t) := by unfold txS jn; rw [if_pos rfl]
      rw [h2] at h1
      rw [← h1, ← h2]
      rfl
    obtain ⟨b1, b2⟩ := tlT_end c l
    obtain ⟨a1, a2⟩ := pa_prt (f := ([], 0)) (r := tlT c l) ht.q ht.v0 ht.v b1.noD (fun d r e => (b2 d r e).1)
    have hlen : l.length ≤ (tlT c l).length := by
      clear a1 a2 b1 b2 e hS hT ht hc
      induction l with
      | nil => simp
      | cons u l ih =>
        unfold tlT
        rw [List.length_append, List.length_append, List.length_cons]
        have : 1 ≤ (prt u).length := List.length_pos_iff.2 (prt_ne u)
        omega
    have hpl : 1 ≤ (prt t).length := List.length_pos_iff.2 (prt_ne t)
    rw [e, sgn_first (k := 0) (prt_hd t _), psL, a1, a2]
    have key := ps_tl hc l (((if ngT t.2 = true then 45 :: prt t else prt t) ++ tlT c l).length) (plusV false [] t.1 t.2, 0) (fun u hu => hT u (by simp [hu])) (by rw [List.length_append]; split <;> first | omega | (rw [List.length_cons]; omega))
    refine key.trans ?_
    have e3 : plusV false [] t.1 t.2 = [t] := by rw [plus_at (fun u hu => by cases hu) (hS.2 t (by simp))]; rfl
    rw [e3, sum_srt c l ([t], 0) hS]
    show Except.ok (t :: l, (0 : Rat) + c) = _
    rw [Rat.zero_add]
end Go.Proofs.YtjpoanaoaeaneaaGreatDoor
set_option linter.all false
namespace Go.Proofs.YtjpoanaoaeaneaaGreatDoor
open Go.RowKit
structure Tparser where
  s : ByteArray
  at_ : Int
end Go.Proofs.YtjpoanaoaeaneaaGreatDoor
set_option linter.all false
set_option maxRecDepth 100000
set_option maxHeartbeats 6400000
namespace Go.Proofs.YtjpoanaoaeaneaaGreatDoor
open Go.RowKit
noncomputable def lbk_C0 : Code := (loopsOf (bodyOf Tryz.f69)).getD 0 .skip
def lbk_h0 (a0 : Tparser) (i_0 : Int) : St :=
  ⟨[(0, .ptr 0 0)],
   [(0, some (.box 98 [.lit (.string a0.s), .lit (.int .i64 i_0)] false))], 1⟩
def lbk_o0a (a0 : Tparser) (i_0 : Int) : St :=
  ⟨[],
   [(0, some (.box 98 [.lit (.string a0.s), .lit (.int .i64 i_0)] false))], 1⟩
section
variable {i_0 : Int} {n : Nat} {b3 : UInt8} {a0 : Tparser}
theorem lbk_r0_1 (C1 : i_0 < (a0.s.size : Int)) (E2 : a0.s[i_0.toNat]? = some b3) (Z2 : 0 ≤ i_0) (C3 : (b3.toNat : Int) = 32) (W4 : InI (i_0 + 1)) :
    Cont 1 (exec Tryz.prog (tab n) 1 31 (livesOf 69) big lbk_C0) (livesOf 69 0) (lbk_h0 a0 i_0) (lbk_h0 a0 (i_0 + 1)) := by
  have C3_ : ((b3.toNat : Int) == 32) = true := by rw [C3]; simp
  have C3_n : ((b3.toNat : Int) != 32) = false := by rw [C3]; simp
  have W4_ : IntKind.i64.wrap (i_0 + 1) = i_0 + 1 := wr64 W4.1 W4.2
  have EG2 : ∀ h, (a0.s)[i_0.toNat]'h = b3 := fun h => Option.some.inj ((getElem?_pos (a0.s) (i_0.toNat) h).symm.trans E2)
  unfold Cont
  simp +decide [EG2, lbk_h0, loopsOf, Tryz.f69, lbk_C0, C1, E2, Z2, C3_, C3_n, W4_]
theorem lbk_x0_1 (C1 : i_0 < (a0.s.size : Int)) (E2 : a0.s[i_0.toNat]? = some b3) (Z2 : 0 ≤ i_0) (C3 : ¬ (b3.toNat : Int) = 32) :
    Leave 1 (exec Tryz.prog (tab n) 1 31 (livesOf 69) big lbk_C0) (livesOf 69 (outOf 0)) (lbk_h0 a0 i_0) (.exit 0) (lbk_o0a a0 i_0) := by
  have C3_ : ((b3.toNat : Int) == 32) = false := by simpa using C3
  have C3_n : ((b3.toNat : Int) != 32) = true := by simpa using C3
  have EG2 : ∀ h, (a0.s)[i_0.toNat]'h = b3 := fun h => Option.some.inj ((getElem?_pos (a0.s) (i_0.toNat) h).symm.trans E2)
  unfold Leave
  simp +decide [EG2, lbk_h0, loopsOf, Tryz.f69, lbk_o0a, lbk_C0, C1, E2, Z2, C3_, C3_n]
theorem lbk_x0_2 (C1 : ¬ i_0 < (a0.s.size : Int)) :
    Leave 1 (exec Tryz.prog (tab n) 1 31 (livesOf 69) big lbk_C0) (livesOf 69 (outOf 0)) (lbk_h0 a0 i_0) (.exit 0) (lbk_o0a a0 i_0) := by
  unfold Leave
  simp +decide [lbk_h0, loopsOf, Tryz.f69, lbk_o0a, lbk_C0, C1]
theorem lbk_f1 (L1 : loopG Tryz.prog (tab n) 1 31 (livesOf 69) 0 lbk_C0 (lbk_h0 a0 a0.at_) = some (.exit 0, lbk_o0a a0 i_0)) :
    runL n 69 [.ptr 0 0] [.box 98 [.lit (.string a0.s), .lit (.int .i64 (a0.at_))] false] = some (.tup [], [(0, .box 98 [.lit (.string a0.s), .lit (.int .i64 i_0)] false)]) := by
  unfold runL fnL
  simp +decide [Tryz.f69]
  rw [loopX_G (C' := lbk_C0) (e := (lbk_h0 a0 a0.at_)) ?_ ?_, L1]
  rotate_left
  · kernel_rfl
  · simp +decide [lbk_h0]
  simp +decide [lbk_o0a]
end
end Go.Proofs.YtjpoanaoaeaneaaGreatDoor
set_option linter.all false
set_option maxRecDepth 100000
set_option maxHeartbeats 6400000
namespace Go.Proofs.YtjpoanaoaeaneaaGreatDoor
open Go.RowKit
section
variable {r : Int} {a0 : Tparser} {a1 : ByteArray} {b : UInt8} {n : Nat}
theorem lis_f1 (C1 : a0.at_ < (a0.s.size : Int)) (E2 : a0.s[a0.at_.toNat]? = some b) (Z2 : 0 ≤ a0.at_) (K3 : (oIB) [.lit (.string a1), .lit (.int .u8 (b.toNat : Int))] = some (.lit (.int .i64 r))) :
    runL (n + 3) 70 [.ptr 0 0, .lit (.string a1)] [.box 98 [.lit (.string a0.s), .lit (.int .i64 (a0.at_))] false] = some (.lit (.bool (decide (0 ≤ r))), [(0, .box 98 [.lit (.string a0.s), .lit (.int .i64 (a0.at_))] false)]) := by
  have EG2 : ∀ h, (a0.s)[a0.at_.toNat]'h = b := fun h => Option.some.inj ((getElem?_pos (a0.s) (a0.at_.toNat) h).symm.trans E2)
  unfold runL fnL
  simp +decide [EG2, Tryz.f70, C1, E2, Z2, K3]
theorem lis_f2 (C1 : ¬ a0.at_ < (a0.s.size : Int)) :
    runL (n + 3) 70 [.ptr 0 0, .lit (.string a1)] [.box 98 [.lit (.string a0.s), .lit (.int .i64 (a0.at_))] false] = some (.lit (.bool false), [(0, .box 98 [.lit (.string a0.s), .lit (.int .i64 (a0.at_))] false)]) := by
  unfold runL fnL
  simp +decide [Tryz.f70, C1]
end
end Go.Proofs.YtjpoanaoaeaneaaGreatDoor
