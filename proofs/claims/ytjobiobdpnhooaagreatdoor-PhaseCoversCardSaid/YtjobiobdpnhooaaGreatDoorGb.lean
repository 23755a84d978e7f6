/- relucertref15.Feed: what a feed of bytes yields: numbers, forms, graphs, regions, queries. -/
import Derived.Test.YtjobiobdpnhooaaGreatDoorGa
import Derived.Test.YtjobiobdpnhooaaGreatDoorWd
import Derived.Test.YtjobiobdpnhooaaGreatDoorWe
set_option linter.all false
set_option linter.all false
set_option maxRecDepth 100000
set_option maxHeartbeats 6400000
namespace Go.Proofs.YtjobiobdpnhooaaGreatDoor
open Go.RowKit
attribute [local irreducible] run runL loopG exec

/-- the terms of a small form over the first i variables -/
structure SmL (i : Nat) (l : List (Int × Rat)) : Prop where
  len : l.length ≤ i
  sorted : l.Pairwise (fun a b => a.1 < b.1)
  each : ∀ t ∈ l, 0 ≤ t.1 ∧ t.1 < (i : Int) ∧ t.2 ≠ 0 ∧ H t.2 ≤ 2
theorem SmL.nil (i : Nat) : SmL i [] := ⟨by simp, List.Pairwise.nil, fun t ht => by cases ht⟩
theorem plus_end : ∀ (l : List (Int × Rat)) (v : Int) (q : Rat), (∀ t ∈ l, t.1 < v ∧ t.2 ≠ 0) → plusV false l v q = l ++ put1 v q
  | [], v, q, _ => rfl
  | t :: l, v, q, h => by
    have h0 := h t List.mem_cons_self
    rw [plusV_lt (by omega) (Or.inr h0.1), plus_end l v q (fun u hu => h u (List.mem_cons_of_mem _ hu))]
    unfold put1
    rw [if_neg h0.2]
    rfl
theorem SmL.step {i : Nat} {l : List (Int × Rat)} {q : Rat} (h : SmL i l) (hq : H q ≤ 2) : SmL (i + 1) (l ++ put1 (i : Int) q) := by
  by_cases h0 : q = 0
  · have e : put1 (i : Int) q = [] := by unfold put1; rw [if_pos h0]
    rw [e, List.append_nil]
    exact ⟨by have := h.len; omega, h.sorted, fun t ht => by obtain ⟨h1, h2, h3⟩ := h.each t ht; exact ⟨h1, by omega, h3⟩⟩
  · have e : put1 (i : Int) q = [((i : Int), q)] := by unfold put1; rw [if_neg h0]
    rw [e]
    refine ⟨by rw [List.length_append]; have := h.len; simp; omega, ?_, fun t ht => ?_⟩
    · rw [List.pairwise_append]
      refine ⟨h.sorted, List.pairwise_singleton _ _, fun a ha b hb => ?_⟩
      rw [List.mem_singleton.1 hb]
      exact (h.each a ha).2.1
    · rcases List.mem_append.1 ht with h9 | h9
      · obtain ⟨h1, h2, h3⟩ := h.each t h9
        exact ⟨h1, by omega, h3⟩
      · rw [List.mem_singleton.1 h9]
        exact ⟨by show (0 : Int) ≤ (i : Int); omega, by show (i : Int) < ((i + 1 : Nat) : Int); omega, h0, hq⟩
theorem num_few {x : Int} (h0 : 0 ≤ x) (h1 : x < 9) (y : Int) : H (((x - 4 : Int) : Rat) / ((dd y : Int) : Rat)) ≤ 2 := by
  have hd : dd y = 1 ∨ dd y = 2 ∨ dd y = 4 := by unfold dd; split; omega; split <;> omega
  have hx : x = 0 ∨ x = 1 ∨ x = 2 ∨ x = 3 ∨ x = 4 ∨ x = 5 ∨ x = 6 ∨ x = 7 ∨ x = 8 := by omega
  rcases hd with e | e | e <;> rw [e] <;> rcases hx with rfl | rfl | rfl | rfl | rfl | rfl | rfl | rfl | rfl <;> decide +kernel
theorem numN_few (bs : List Int) (k : Nat) : H (numN bs k).1 ≤ 2 := by
  have h := nextN_lt (bs := bs) (k := k) (n := 9) (by omega)
  exact num_few h.1 h.2 _
theorem numN_le {bs : List Int} {k : Nat} (hk : k ≤ bs.length) : (numN bs k).2 ≤ bs.length := nextN_le (nextN_le hk)
theorem SmL.up {i : Nat} {l : List (Int × Rat)} (h : SmL i l) : SmL (i + 1) l := ⟨Nat.le_succ_of_le h.len, h.sorted, fun t ht => by have h1 := h.each t ht; exact ⟨h1.1, by omega, h1.2.2.1, h1.2.2.2⟩⟩
/-- a small form over n variables -/
structure SmF (n : Nat) (f : Form) : Prop where
  l : SmL n f.1
  k : H f.2 ≤ 2
def fdB (bs : List Int) (k : Nat) : AB := .box 100 [.sl 1 (bs.map intU8C), .lit (.int .i64 (k : Int))] false
section
variable {n : Nat} {bs : List Int} {k : Nat}
theorem next_c (hb : Byt bs) (hk : k ≤ bs.length) {m : Int} (hm : 0 < m) : runL n 30 [.ptr 0 0, .lit (.int .i64 m)] [fdB bs k] = some (.lit (.int .i64 (nextN bs k m).1), [(0, fdB bs (nextN bs k m).2)]) := by
  have hl := hb.len
  unfold nextN
  cases hx : bs[k]? with
  | some x =>
    have hlt := (List.getElem?_eq_some_iff.1 hx).1
    obtain ⟨x0, x1⟩ := hb.val x (List.mem_of_getElem? hx)
    have h := nx_f2 (n := n) (a0 := ⟨bs, (k : Int)⟩) (a1 := m) (x := x) (by dsimp only; omega) ⟨by dsimp only; omega, by dsimp only; omega⟩ ⟨by dsimp only; omega, by dsimp only; omega⟩ (by dsimp only; rw [Int.toNat_natCast]; exact hx) (by dsimp only; omega) ⟨by omega, by omega⟩ (by omega)
    rw [Int.tmod_eq_emod_of_nonneg x0] at h
    exact h
  | none =>
    have h1 : bs.length ≤ k := List.getElem?_eq_none_iff.1 hx
    exact nx_f1 (n := n) (a0 := ⟨bs, (k : Int)⟩) (a1 := m) (by dsimp only; omega)
theorem num_c (hb : Byt bs) (hk : k ≤ bs.length) : runL (n + 1) 31 [.ptr 0 0] [fdB bs k] = some (ratV (numN bs k).1, [(0, fdB bs (numN bs k).2)]) := by
  have h1 := next_c (n := n) hb hk (m := 9) (by omega)
  have k1 := nextN_le (n := 9) hk
  have b1 := nextN_lt (bs := bs) (k := k) (n := 9) (by omega)
  have h2 := next_c (n := n) hb k1 (m := 4) (by omega)
  have b2 := nextN_lt (bs := bs) (k := (nextN bs k 9).2) (n := 4) (by omega)
  unfold numN
  generalize nextN bs k 9 = p at *
  obtain ⟨x, j1⟩ := p
  dsimp only at *
  generalize nextN bs j1 4 = p at *
  obtain ⟨y, j2⟩ := p
  dsimp only at *
  have W : InI (x - 4) := ⟨by omega, by omega⟩
  have hy : y = 0 ∨ y = 1 ∨ y = 2 ∨ y = 3 := by omega
  rcases hy with rfl | rfl | rfl | rfl
  · exact nu_f1 (a0 := ⟨bs, (k : Int)⟩) h1 W h2 rfl W
  · exact nu_f2 (a0 := ⟨bs, (k : Int)⟩) h1 W h2 (by omega) rfl W
  · exact nu_f3 (a0 := ⟨bs, (k : Int)⟩) h1 W h2 (by omega) (by omega) rfl W
  · exact nu_f4 (a0 := ⟨bs, (k : Int)⟩) h1 W h2 (by omega) (by omega) (by omega) rfl W
theorem form_c (hb : Byt bs) (hk : k ≤ bs.length) {z : Int} (h0 : 0 ≤ z) (h1 : z ≤ 1000) : ∃ (f : Form) (k' : Nat), runL (n + 3) 49 [.ptr 0 0, .lit (.int .i64 z)] [fdB bs k] = some (formV f, [(0, fdB bs k')]) ∧ SmF z.toNat f ∧ k' ≤ bs.length := by
  have hnum := num_c (n := n + 1) hb hk
  have hK := numN_few bs k
  have hk1 := numN_le hk
  generalize numN bs k = p at *
  obtain ⟨K, k1⟩ := p
  dsimp only at *
  obtain ⟨b, hL, h3, h4⟩ := loopG_R (O := tab (n + 3)) (P := Tryz.prog) (m := 1) (N := 26) (lives := livesOf 49) (r := 3) (C := fo_C3) (exN := .exit 0) (M := z.toNat) (enc := fun i (b : List (Int × Rat) × Nat) => fo_h3 ⟨bs, (k : Int)⟩ z i (b.2 : Int) b.1 K) (out := fun b => fo_o3a ⟨bs, (k : Int)⟩ (b.2 : Int) b.1 K) (fun i b => SmL i b.1 ∧ b.2 ≤ bs.length) ([], k1) ⟨SmL.nil 0, hk1⟩ (by omega) (by simp)
    (fun i b hi hI => by
      obtain ⟨l, j⟩ := b
      obtain ⟨hI1, hI2⟩ := hI
      dsimp only at hI1 hI2
      have C1 : (i : Int) < z := by omega
      have W : InI ((i : Int) + 1) := ⟨by omega, by omega⟩
      have n1 := next_c (n := n + 2) hb hI2 (m := 3) (by omega)
      have l1 := nextN_le (n := 3) hI2
      generalize nextN bs j 3 = p at *
      obtain ⟨x, j1⟩ := p
      dsimp only at *
      by_cases hx : 0 < x
      · have n2 := num_c (n := n + 1) hb l1
        have q2 := numN_few bs j1
        have l2 := numN_le l1
        generalize numN bs j1 = p at *
        obtain ⟨q, j2⟩ := p
        dsimp only at *
        have hV : TmB 1 [((i : Int), (1 : Rat))] := fun t ht => by
          cases List.mem_singleton.1 ht
          exact ⟨(by decide : (1 : Rat) ≠ 0), (by decide : H 1 ≤ 1)⟩
        have n3 := scale_c (n := n + 1) (f := ([((i : Int), 1)], 0)) (c := q) (hV.mono (by omega)) (by simp) (by show H 0 ≤ 1000000; decide) (by omega)
        have es : sclV [((i : Int), 1)] q = put1 (i : Int) q := by simp [sclV]
        have ez : (0 : Rat) * q = 0 := Rat.zero_mul q
        dsimp only at n3
        rw [es, ez] at n3
        have hT : TmB 100 l := fun t ht => ⟨(hI1.each t ht).2.2.1, Nat.le_trans (hI1.each t ht).2.2.2 (by omega)⟩
        have hS : TmB 3 (put1 (i : Int) q) := TmB.put _ (by omega)
        have hS2 := put1_len (i : Int) q
        have n4 := add_c (n := n) (f := (l, K)) (g := (put1 (i : Int) q, 0)) hS (by dsimp only; omega) hT (by dsimp only; have := hI1.len; omega) (by dsimp only; omega) (by dsimp only; omega) (by show H 0 ≤ 1000000; decide)
        have ea : addV l (put1 (i : Int) q) = l ++ put1 (i : Int) q := by
          by_cases h0 : q = 0
          · have e1 : put1 (i : Int) q = [] := if_pos h0
            rw [e1, List.append_nil]; rfl
          · have e1 : put1 (i : Int) q = [((i : Int), q)] := if_neg h0
            rw [e1]
            unfold addV
            rw [List.foldl_cons, List.foldl_nil, plus_end _ (i : Int) q (fun t ht => ⟨(hI1.each t ht).2.1, (hI1.each t ht).2.2.1⟩), e1]
        have ek : K + 0 = K := Rat.add_zero K
        dsimp only at n4
        rw [ea, ek] at n4
        exact ⟨(l ++ put1 (i : Int) q, j2), fo_r3_1 (r13 := ([((i : Int), 1)], 0)) C1 n1 hx (var_c (i : Int)) n2 n3 n4 W, hI1.step q2, l2⟩
      · exact ⟨(l, j1), fo_r3_2 C1 n1 hx W, hI1.up, l1⟩)
    (fun b hI => fo_x3_1 (by omega))
  exact ⟨(b.1, K), b.2, fo_f1 (a0 := ⟨bs, (k : Int)⟩) hnum hL, ⟨h3, hK⟩, h4⟩
/-- a small graph -/
structure GrOk (g : TGraph) : Prop where
  i0 : 1 ≤ g.Inputs
  i1 : g.Inputs ≤ 3
  u : g.Units.length ≤ 4
  o0 : 1 ≤ g.Outputs.length
  o1 : g.Outputs.length ≤ 3
  un : ∀ i f, g.Units[i]? = some f → SmF (g.Inputs.toNat + i) f
  ou : ∀ f ∈ g.Outputs, SmF (g.Inputs.toNat + g.Units.length) f
theorem graph_c (hb : Byt bs) (hk : k ≤ bs.length) : ∃ (g : TGraph) (k' : Nat), runL (n + 4) 47 [.ptr 0 0] [fdB bs k] = some (graphV g, [(0, fdB bs k')]) ∧ GrOk g ∧ k' ≤ bs.length := by
  have h1 := next_c (n := n + 3) hb hk (m := 3) (by omega)
  have b1 := nextN_lt (bs := bs) (k := k) (n := 3) (by omega)
  have l1 := nextN_le (n := 3) hk
  generalize nextN bs k 3 = p at *
  obtain ⟨x, j1⟩ := p
  dsimp only at *
  have h2 := next_c (n := n + 3) hb l1 (m := 5) (by omega)
  have b2 := nextN_lt (bs := bs) (k := j1) (n := 5) (by omega)
  have l2 := nextN_le (n := 5) l1
  generalize nextN bs j1 5 = p at *
  obtain ⟨y, j2⟩ := p
  dsimp only at *
  have h3 := next_c (n := n + 3) hb l2 (m := 3) (by omega)
  have b3 := nextN_lt (bs := bs) (k := j2) (n := 3) (by omega)
  have l3 := nextN_le (n := 3) l2
  generalize nextN bs j2 3 = p at *
  obtain ⟨z, j3⟩ := p
  dsimp only at *
  obtain ⟨⟨U, j4⟩, hL1, h4, h5, h6⟩ := loopG_R (O := tab (n + 4)) (P := Tryz.prog) (m := 1) (N := 50) (lives := livesOf 47) (r := 4) (C := gr_C4) (exN := .exit 0) (M := y.toNat) (enc := fun i (b : List Form × Nat) => gr_h4 ⟨bs, (k : Int)⟩ y z i (b.2 : Int) x b.1) (out := fun b => gr_o4a ⟨bs, (k : Int)⟩ y z (b.2 : Int) x b.1)
    (fun i b => b.2 ≤ bs.length ∧ b.1.length = i ∧ ∀ j f, b.1[j]? = some f → SmF ((1 + x).toNat + j) f) ([], j3) ⟨l3, rfl, fun j f h => by simp at h⟩ (by omega) (by simp)
    (fun i b hi hI => by
      obtain ⟨U, j⟩ := b
      obtain ⟨hI1, hI2, hI3⟩ := hI
      dsimp only at hI1 hI2 hI3
      obtain ⟨f, j', h7, h8, h9⟩ := form_c (n := n) hb hI1 (z := (1 + x) + (i : Int)) (by omega) (by omega)
      refine ⟨(U ++ [f], j'), gr_r4_1 (by omega) ⟨by omega, by omega⟩ h7 (by dsimp only; omega) ⟨by omega, by omega⟩, h9, by dsimp only; rw [List.length_append, hI2]; rfl, fun q g hq => ?_⟩
      dsimp only at hq
      by_cases hqi : q < U.length
      · rw [List.getElem?_append_left hqi] at hq; exact hI3 q g hq
      · rw [List.getElem?_append_right (by omega)] at hq
        have h0 : q - U.length = 0 := by
          have := (List.getElem?_eq_some_iff.1 hq).1
          rw [List.length_singleton] at this
          omega
        rw [h0] at hq
        cases hq
        have e : (1 + x).toNat + q = ((1 + x) + (i : Int)).toNat := by omega
        rw [e]; exact h8)
    (fun b hI => gr_x4_1 (by omega))
  dsimp only at hL1 h4 h5 h6
  obtain ⟨⟨O, j5⟩, hL2, h7, h8, h9⟩ := loopG_R (O := tab (n + 4)) (P := Tryz.prog) (m := 1) (N := 50) (lives := livesOf 47) (r := 8) (C := gr_C8) (exN := .exit 2) (M := (1 + z).toNat) (enc := fun i (b : List Form × Nat) => gr_h8 ⟨bs, (k : Int)⟩ y z i (b.2 : Int) x U b.1) (out := fun b => gr_o8a ⟨bs, (k : Int)⟩ (b.2 : Int) x U b.1)
    (fun i b => b.2 ≤ bs.length ∧ b.1.length = i ∧ ∀ f ∈ b.1, SmF ((1 + x) + y).toNat f) ([], j4) ⟨h4, rfl, fun f h => by cases h⟩ (by omega) (by simp)
    (fun i b hi hI => by
      obtain ⟨O, j⟩ := b
      obtain ⟨hI1, hI2, hI3⟩ := hI
      dsimp only at hI1 hI2 hI3
      obtain ⟨f, j', h7, h8, h9⟩ := form_c (n := n) hb hI1 (z := (1 + x) + y) (by omega) (by omega)
      refine ⟨(O ++ [f], j'), gr_r8_1 (by omega) ⟨by omega, by omega⟩ h7 (by dsimp only; omega) ⟨by omega, by omega⟩, h9, by dsimp only; rw [List.length_append, hI2]; rfl, fun g hg => ?_⟩
      rcases List.mem_append.1 hg with hg | hg
      · exact hI3 g hg
      · rw [List.mem_singleton.1 hg]; exact h8)
    (fun b hI => gr_x8_1 (by omega))
  dsimp only at hL2 h7 h8 h9
  refine ⟨⟨1 + x, U, O⟩, j5, gr_f1 (a0 := ⟨bs, (k : Int)⟩) h1 ⟨by omega, by omega⟩ h2 h3 ⟨by omega, by omega⟩ hL1 hL2, ⟨by dsimp only; omega, by dsimp only; omega, by dsimp only; omega, by dsimp only; omega, by dsimp only; omega, h6, fun f hf => ?_⟩, h7⟩
  have e : (1 + x).toNat + U.length = ((1 + x) + y).toNat := by omega
  dsimp only
  rw [e]; exact h9 f hf
/-- a small region of I inputs -/
structure RgOk (I : Nat) (r : TRegion) : Prop where
  lo : r.Lo.length = I
  hi : r.Hi.length = I
  rows : r.Rows.length ≤ 2
  lob : ∀ q ∈ r.Lo, H q ≤ 2
  hib : ∀ q ∈ r.Hi, H q ≤ 5
  le : ∀ (i : Nat) (a b : Rat), r.Lo[i]? = some a → r.Hi[i]? = some b → a ≤ b
  rws : ∀ f ∈ r.Rows, SmF I f
theorem absQ_nonneg (q : Rat) : 0 ≤ absQ q := by
  unfold absQ
  split
  · rename_i h
    have h1 : ¬ 0 ≤ q := fun h2 => by have := Rat.num_nonneg.2 h2; omega
    grind
  · rename_i h
    exact Rat.num_nonneg.1 (by omega)
theorem small_c (hb : Byt bs) (hk : k ≤ bs.length) {z : Int} (h0 : 0 ≤ z) (h1 : z ≤ 1000) : ∃ (r : TRegion) (k' : Nat), runL (n + 4) 48 [.ptr 0 0, .lit (.int .i64 z)] [fdB bs k] = some (regionV r, [(0, fdB bs k')]) ∧ RgOk z.toNat r ∧ k' ≤ bs.length := by
  obtain ⟨⟨lo, hi, j1⟩, hL1, a1, a2, a3, a4, a5, a6⟩ := loopG_R (O := tab (n + 4)) (P := Tryz.prog) (m := 1) (N := 49) (lives := livesOf 48) (r := 3) (C := sm_C3) (exN := .exit 0) (M := z.toNat) (enc := fun i (b : List Rat × List Rat × Nat) => sm_h3 ⟨bs, (k : Int)⟩ z i (b.2.2 : Int) b.1 b.2.1) (out := fun b => sm_o3a ⟨bs, (k : Int)⟩ z (b.2.2 : Int) b.1 b.2.1)
    (fun i b => b.2.2 ≤ bs.length ∧ b.1.length = i ∧ b.2.1.length = i ∧ (∀ q ∈ b.1, H q ≤ 2) ∧ (∀ q ∈ b.2.1, H q ≤ 5) ∧ ∀ (j : Nat) (x y : Rat), b.1[j]? = some x → b.2.1[j]? = some y → x ≤ y) ([], [], k) ⟨hk, rfl, rfl, fun q h => (by cases h), fun q h => (by cases h), fun j x y h => (by simp at h)⟩ (by omega) (by simp)
    (fun i b hi hI => by
      obtain ⟨lo, hi', j⟩ := b
      obtain ⟨i1, i2, i3, i4, i5, i6⟩ := hI
      dsimp only at i1 i2 i3 i4 i5 i6
      have n1 := num_c (n := n + 2) hb i1
      have q1 := numN_few bs j
      have l1 := numN_le i1
      generalize numN bs j = p at *
      obtain ⟨x, j1⟩ := p
      dsimp only at *
      have n2 := num_c (n := n + 2) hb l1
      have q2 := numN_few bs j1
      have l2 := numN_le l1
      generalize numN bs j1 = p at *
      obtain ⟨y, j2⟩ := p
      dsimp only at *
      have hq : H (absQ y) ≤ 2 := by rw [absQ_H]; exact q2
      have hs := H_add x (absQ y)
      have hp := absQ_nonneg y
      refine ⟨(lo ++ [x], hi' ++ [x + absQ y], j2), sm_r3_1 (by omega) n1 n2 (by omega) (by omega) (by omega) (by omega) ⟨by omega, by omega⟩, l2, by dsimp only; rw [List.length_append, i2]; rfl, by dsimp only; rw [List.length_append, i3]; rfl, fun q hq => ?_, fun q hq => ?_, fun a u v hu hv => ?_⟩
      · rcases List.mem_append.1 hq with h | h
        · exact i4 q h
        · rw [List.mem_singleton.1 h]; exact q1
      · rcases List.mem_append.1 hq with h | h
        · exact i5 q h
        · rw [List.mem_singleton.1 h]; omega
      · dsimp only at hu hv
        by_cases ha : a < i
        · rw [List.getElem?_append_left (by omega)] at hu hv
          exact i6 a u v hu hv
        · have h0 : a = i := by
            have := (List.getElem?_eq_some_iff.1 hu).1
            rw [List.length_append, List.length_singleton] at this
            omega
          subst h0
          rw [List.getElem?_append_right (by omega), i2, Nat.sub_self] at hu
          rw [List.getElem?_append_right (by omega), i3, Nat.sub_self] at hv
          cases hu
          cases hv
          grind)
    (fun b hI => sm_x3_1 (by omega))
  dsimp only at hL1 a1 a2 a3 a4 a5 a6
  have n1 := next_c (n := n + 3) hb a1 (m := 3) (by omega)
  have b1 := nextN_lt (bs := bs) (k := j1) (n := 3) (by omega)
  have l1 := nextN_le (n := 3) a1
  generalize nextN bs j1 3 = p at *
  obtain ⟨x, j2⟩ := p
  dsimp only at *
  obtain ⟨⟨R, j3⟩, hL2, c1, c2, c3⟩ := loopG_R (O := tab (n + 4)) (P := Tryz.prog) (m := 1) (N := 49) (lives := livesOf 48) (r := 9) (C := sm_C9) (exN := .exit 2) (M := x.toNat) (enc := fun i (b : List Form × Nat) => sm_h9 ⟨bs, (k : Int)⟩ z (x - (i : Int)) (b.2 : Int) lo hi b.1) (out := fun b => sm_o9a ⟨bs, (k : Int)⟩ (b.2 : Int) lo hi b.1)
    (fun i b => b.2 ≤ bs.length ∧ b.1.length = i ∧ ∀ f ∈ b.1, SmF z.toNat f) ([], j2) ⟨l1, rfl, fun f h => by cases h⟩ (by omega) (by simp)
    (fun i b hi' hI => by
      obtain ⟨R, j⟩ := b
      obtain ⟨i1, i2, i3⟩ := hI
      dsimp only at i1 i2 i3
      obtain ⟨f, j', h7, h8, h9⟩ := form_c (n := n) hb i1 h0 h1
      have e : x - ((i + 1 : Nat) : Int) = x - (i : Int) - 1 := by omega
      refine ⟨(R ++ [f], j'), ?_, h9, by dsimp only; rw [List.length_append, i2]; rfl, fun g hg => ?_⟩
      · dsimp only
        rw [e]
        exact sm_r9_1 (by omega) h7 (by omega) ⟨by omega, by omega⟩
      · rcases List.mem_append.1 hg with hg | hg
        · exact i3 g hg
        · rw [List.mem_singleton.1 hg]; exact h8)
    (fun b hI => sm_x9_1 (by omega))
  dsimp only at hL2 c1 c2 c3
  have e0 : x - ((0 : Nat) : Int) = x := by omega
  rw [e0] at hL2
  exact ⟨⟨lo, hi, R⟩, j3, sm_f1 (a0 := ⟨bs, (k : Int)⟩) hL1 n1 hL2, ⟨a2, a3, by dsimp only; omega, a4, a5, a6, c3⟩, c1⟩
/-- a small query -/
structure QuOk (q : TQuery) : Prop where
  gr : GrOk q.Graph
  rg : RgOk q.Graph.Inputs.toNat q.Region
  go : SmF (q.Graph.Inputs.toNat + q.Graph.Units.length) q.Goal
theorem query_c (hb : Byt bs) (hk : k ≤ bs.length) : ∃ (q : TQuery) (k' : Nat), runL (n + 5) 20 [.ptr 0 0] [fdB bs k] = some (queryV q, [(0, fdB bs k')]) ∧ QuOk q ∧ k' ≤ bs.length := by
  obtain ⟨g, k1, h1, h2, h3⟩ := graph_c (n := n) hb hk
  have := h2.i0
  have := h2.i1
  have := h2.u
  obtain ⟨r, k2, h4, h5, h6⟩ := small_c (n := n) hb h3 (z := g.Inputs) (by omega) (by omega)
  obtain ⟨f, k3, h7, h8, h9⟩ := form_c (n := n + 1) hb h6 (z := g.Inputs + (g.Units.length : Int)) (by omega) (by omega)
  have e : (g.Inputs + (g.Units.length : Int)).toNat = g.Inputs.toNat + g.Units.length := by omega
  rw [e] at h8
  exact ⟨⟨g, r, f⟩, k3, qu_f1 (a0 := ⟨bs, (k : Int)⟩) (r := g) (r2 := r) (r3 := f) h1 h4 ⟨by omega, by omega⟩ h7, ⟨h2, h5, h8⟩, h9⟩
end
end Go.Proofs.YtjobiobdpnhooaaGreatDoor
