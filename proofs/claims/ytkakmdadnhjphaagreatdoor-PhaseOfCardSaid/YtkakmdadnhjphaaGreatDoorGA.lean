/- relucertref07: nonzero, plus, Add, Scale, Var, Eval: what they return. relucertref15.Feed: what a feed of bytes yields: numbers, forms, graphs, regions, queries. Valid forms, graphs, regions, queries (relucertref03, 07, 15, 19, 21): what the calls return. linear.Valid, graph.Valid, region.Valid, rows.Valid: what the calls return. -/
import Derived.Test.YtkakmdadnhjphaaGreatDoorWA
import Derived.Test.YtkakmdadnhjphaaGreatDoorWB
import Derived.Test.YtkakmdadnhjphaaGreatDoorXA
set_option linter.all false
set_option linter.all false
set_option maxRecDepth 100000
set_option maxHeartbeats 6400000
namespace Go.Proofs.YtkakmdadnhjphaaGreatDoor
open Go.RowKit

theorem nz_same {n : Nat} {F : List (Int × Rat)} {v : Int} {q : Rat} (hq : H q ≤ 17179869184) (h0 : q = 0) :
    runL n 179 [.own 0 F.length, .agg [.lit (.int .i64 v), .lit (.bool (rawQ q).s), natA (rawQ q).l1, natA (rawQ q).l2]] [.row 119 4 (F.map termC) 0] = some (.own 0 F.length, [(0, .row 119 4 (F.map termC) 0), (0, .row 119 4 (F.map termC) 0)]) := by
  unfold runL fnL
  have hs := r_sign (p := q) hq
  have e2 : (sgR q == 0) = true := by rw [sgR_eq_zero.2 h0]; rfl
  simp +decide [Tryz.f179, hs, e2]
theorem nz_new {n : Nat} {F : List (Int × Rat)} {v : Int} {q : Rat} (hq : H q ≤ 17179869184) (h0 : q ≠ 0) (hF : F.length ≤ 10000000) :
    runL n 179 [.own 0 F.length, .agg [.lit (.int .i64 v), .lit (.bool (rawQ q).s), natA (rawQ q).l1, natA (rawQ q).l2]] [.row 119 4 (F.map termC) 0] = some (.own 3 (F ++ [(v, q)]).length, [(3, .row 119 4 ((F ++ [(v, q)]).map termC) 0)]) := by
  unfold runL fnL
  have hs := r_sign (p := q) hq
  have e2 : (sgR q == 0) = false := by simpa using fun h => h0 (sgR_eq_zero.1 h)
  have hr : ∀ b, b ≤ 10000 → roomy (F.length + 1) b = true := fun b hb => roomy_s (by omega) hb
  simp +decide [Tryz.f179, hs, e2, hr]
/-- a round of plus -/
def plF (v : Int) (c : Rat) (i : Nat) (b : List (Int × Rat) × Bool) (t : Int × Rat) : List (Int × Rat) × Bool :=
  if t.1 = v then (b.1 ++ put1 t.1 (t.2 + c), true) else if b.2 = false ∧ v < t.1 then (b.1 ++ (put1 v c ++ put1 t.1 t.2), true) else (b.1 ++ put1 t.1 t.2, b.2)
theorem plF_fold (v : Int) (c : Rat) : ∀ (R : List (Int × Rat)) (i : Nat) (out : List (Int × Rat)) (d : Bool), foldI (plF v c) i (out, d) R = (out ++ plO d R v c, plD d R v)
  | [], i, out, d => by simp [foldI, plO, plD]
  | t :: R, i, out, d => by
    rw [foldI, plO, plD, plF]
    split
    · rw [plF_fold]; simp [List.append_assoc]
    · split
      · rw [plF_fold]; simp [List.append_assoc]
      · rw [plF_fold]; simp [List.append_assoc]
/-- terms of a form that may be handed to plus -/
theorem pl_step {n : Nat} {f : Form} {v : Int} {c : Rat} (hT : TmB 1000000 f.1) (hF : f.1.length ≤ 400000) (hc : H c ≤ 1000000) {i : Nat} {t : Int × Rat} {b : List (Int × Rat) × Bool} (hi : f.1[i]? = some t) (hb : b.1.length ≤ 2 * i) :
    Cont 0 (exec Tryz.prog (tab (n + 1)) 0 61 (livesOf 183) big pl_C4) (livesOf 183 4) (pl_h4 f v c b.1 b.2 i) (pl_h4 f v c (plF v c i b t).1 (plF v c i b t).2 (i + 1)) := by
  obtain ⟨u, q⟩ := t
  obtain ⟨out, d⟩ := b
  have hlt := (List.getElem?_eq_some_iff.1 hi).1
  have ht := hT _ (List.mem_of_getElem? hi)
  have hq : H q ≤ 1000000 := ht.2
  have hq0 : q ≠ 0 := ht.1
  have hH := H_add q c
  have C1 : (i : Int) < (f.1.length : Int) := by omega
  have W : InI ((i : Int) + 1) := ⟨by omega, by omega⟩
  have hb : out.length ≤ 2 * i := hb
  have e3 : put1 u q = [(u, q)] := if_neg hq0
  unfold plF
  dsimp only
  split
  · rename_i e
    by_cases h0 : q + c = 0
    · have e4 : put1 u (q + c) = [] := if_pos h0
      rw [e4, List.append_nil]
      exact pl_r4_1 C1 hi e (by omega) (by omega) (nz_same (by omega) h0) W
    · have e4 : put1 u (q + c) = [(u, q + c)] := if_neg h0
      rw [e4]
      exact pl_r4_2 C1 hi e (by omega) (by omega) (nz_new (by omega) h0 (by omega)) W
  · rename_i e
    split
    · rename_i e2
      obtain ⟨e2, e5⟩ := e2
      rw [e3]
      by_cases h0 : c = 0
      · have e4 : put1 v c = [] := if_pos h0
        rw [e4, List.nil_append]
        exact pl_r4_4 C1 hi e e2 e5 (by omega) (nz_same (by omega) h0) (nz_new (by omega) hq0 (by omega)) W
      · have e4 : put1 v c = [(v, c)] := if_neg h0
        rw [e4, ← List.append_assoc]
        exact pl_r4_6 C1 hi e e2 e5 (by omega) (nz_new (by omega) h0 (by omega)) (nz_new (by omega) hq0 (by rw [List.length_append]; simp; omega)) W
    · rename_i e2
      rw [e3]
      cases d with
      | true => exact pl_r4_10 C1 hi e rfl (nz_new (by omega) hq0 (by omega)) W
      | false => exact pl_r4_8 C1 hi e rfl (fun h => e2 ⟨rfl, h⟩) (nz_new (by omega) hq0 (by omega)) W
theorem plF_len (v : Int) (c : Rat) (i : Nat) (b : List (Int × Rat) × Bool) (t : Int × Rat) : (plF v c i b t).1.length ≤ b.1.length + 2 := by
  have h1 := put1_len t.1 (t.2 + c)
  have h2 := put1_len v c
  have h3 := put1_len t.1 t.2
  unfold plF
  split
  · rw [List.length_append]; omega
  · split
    · rw [List.length_append, List.length_append]; omega
    · rw [List.length_append]; omega
/-- plus -/
theorem plus_c {n : Nat} {f : Form} {v : Int} {c : Rat} (hT : TmB 1000000 f.1) (hF : f.1.length ≤ 400000) (hc : H c ≤ 1000000) :
    run (n + 1) 183 [formV f, .lit (.int .i64 v), ratV c] = some (formV (plusV false f.1 v c, f.2)) := by
  have L : loopG Tryz.prog (tab (n + 1)) 0 61 (livesOf 183) 4 pl_C4 (pl_h4 f v c [] false 0) = some (.exit 0, pl_o4a f v c (plO false f.1 v c) (plD false f.1 v)) := by
    have h := (loopG_I (O := tab (n + 1)) (exN := .exit 0) (L := f.1) (enc := fun i b => pl_h4 f v c b.1 b.2 i) (f := plF v c) (Inv := fun i b => b.1.length ≤ 2 * i) (out := fun b => pl_o4a f v c b.1 b.2) ([], false) (by simp) (by omega) (by simp)
      (fun i t b hi hI => ⟨pl_step hT hF hc hi hI, by have := plF_len v c i b t; omega⟩) (fun b hI => pl_x4_1 (by omega))).1
    rw [plF_fold] at h
    exact h
  have hl := plO_len v c false f.1
  rw [plusV_plO]
  cases hd : plD false f.1 v with
  | true =>
    rw [hd] at L
    rw [if_pos rfl, List.append_nil]
    exact pl_f3 L rfl
  | false =>
    rw [hd] at L
    rw [if_neg (by simp)]
    by_cases h0 : c = 0
    · have e : put1 v c = [] := if_pos h0
      rw [e, List.append_nil]
      exact pl_f1 L rfl (by omega) (nz_same (by omega) h0)
    · have e : put1 v c = [(v, c)] := if_neg h0
      rw [e]
      exact pl_f2 L rfl (by omega) (nz_new (by omega) h0 (by omega))
/-- Scale -/
theorem scale_c {n : Nat} {f : Form} {c : Rat} (hT : TmB 1000000 f.1) (hF : f.1.length ≤ 400000) (hk : H f.2 ≤ 1000000) (hc : H c ≤ 1000000) :
    run (n + 1) 89 [formV f, ratV c] = some (formV (sclV f.1 c, f.2 * c)) := by
  have key : ∀ (R : List (Int × Rat)) (i : Nat) (o : List (Int × Rat)), foldI (fun _ b (t : Int × Rat) => b ++ put1 t.1 (t.2 * c)) i o R = o ++ sclV R c := fun R => by
    induction R with
    | nil => intro i o; simp [foldI, sclV]
    | cons t R ih => intro i o; rw [foldI, ih]; simp [sclV, List.append_assoc]
  refine sc_f1 (by omega) (by omega) ?_
  have h := (loopG_I (O := tab (n + 1)) (exN := .exit 0) (L := f.1) (enc := fun i b => sc_h3 f c i b) (f := fun _ b (t : Int × Rat) => b ++ put1 t.1 (t.2 * c)) (Inv := fun i b => b.length ≤ i) (out := fun b => sc_o3a f c b) [] (by simp) (by omega) (by simp)
    (fun i t b hi hI => by
      obtain ⟨u, q⟩ := t
      have hlt := (List.getElem?_eq_some_iff.1 hi).1
      have hq : H q ≤ 1000000 := (hT _ (List.mem_of_getElem? hi)).2
      have hm := H_mul q c
      have C1 : (i : Int) < (f.1.length : Int) := by omega
      have W : InI ((i : Int) + 1) := ⟨by omega, by omega⟩
      have hl := put1_len u (q * c)
      refine ⟨?_, by rw [List.length_append]; dsimp only; omega⟩
      dsimp only
      by_cases h0 : q * c = 0
      · have e : put1 u (q * c) = [] := if_pos h0
        rw [e, List.append_nil]
        exact sc_r3_1 C1 hi (by omega) (by omega) (nz_same (by omega) h0) W
      · have e : put1 u (q * c) = [(u, q * c)] := if_neg h0
        rw [e]
        exact sc_r3_2 C1 hi (by omega) (by omega) (nz_new (by omega) h0 (by omega)) W) (fun b hI => sc_x3_1 (by omega))).1
  rw [key, List.nil_append] at h
  exact h
/-- Add -/
theorem add_c {n : Nat} {f g : Form} {m b : Nat} (hT : TmB b g.1) (hG : g.1.length ≤ 200000) (hF : TmB m f.1) (hl : f.1.length ≤ 200000) (hm : m + (b + 1) * (g.1.length + 1) ≤ 1000000) (h1 : H f.2 ≤ 1000000) (h2 : H g.2 ≤ 1000000) :
    run (n + 2) 98 [formV f, formV g] = some (formV (addV f.1 g.1, f.2 + g.2)) := by
  have key : ∀ (R : List (Int × Rat)) (i : Nat) (o : List (Int × Rat)), foldI (fun _ b (t : Int × Rat) => plusV false b t.1 t.2) i o R = addV o R := fun R => by
    induction R with
    | nil => intro i o; rfl
    | cons t R ih => intro i o; rw [foldI, ih]; rfl
  have hlen : ∀ (R o : List (Int × Rat)), (addV o R).length ≤ o.length + R.length := fun R => by
    induction R with
    | nil => intro o; simp [addV]
    | cons t R ih =>
      intro o
      have h1 := ih (plusV false o t.1 t.2)
      have h2 := plusV_len false o t.1 t.2
      show (addV (plusV false o t.1 t.2) R).length ≤ _
      rw [List.length_cons]; omega
  refine ad_f1 (by omega) (by omega) ?_ (by have := hlen g.1 f.1; omega)
  have h := (loopG_I (O := tab (n + 2)) (exN := .exit 0) (L := g.1) (enc := fun i o => ad_h3 g i o (f.2 + g.2)) (f := fun _ o (t : Int × Rat) => plusV false o t.1 t.2) (Inv := fun i o => o.length ≤ f.1.length + i ∧ TmB (m + (b + 1) * i) o ∧ i ≤ g.1.length) (out := fun o => ad_o3a o (f.2 + g.2)) f.1 ⟨by omega, by simpa using hF, by omega⟩ (by omega) (by simp)
    (fun i t o hi hI => by
      obtain ⟨u, q⟩ := t
      obtain ⟨hI1, hI2, hI3⟩ := hI
      have hlt := (List.getElem?_eq_some_iff.1 hi).1
      have hq : H q ≤ b := (hT _ (List.mem_of_getElem? hi)).2
      have C1 : (i : Int) < (g.1.length : Int) := by omega
      have W : InI ((i : Int) + 1) := ⟨by omega, by omega⟩
      have hl2 := plusV_len false o u q
      have hmi : (b + 1) * i ≤ (b + 1) * (g.1.length + 1) := Nat.mul_le_mul_left _ (by omega)
      have hb1 : b + 1 ≤ (b + 1) * (g.1.length + 1) := Nat.le_mul_of_pos_right _ (by omega)
      have e : m + (b + 1) * (i + 1) = m + (b + 1) * i + b + 1 := by rw [Nat.mul_succ]; omega
      refine ⟨ad_r3_1 (r3 := (plusV false o u q, f.2 + g.2)) C1 hi (plus_c (f := (o, f.2 + g.2)) (hI2.mono (by omega)) (by dsimp only; omega) (by omega)) W, by dsimp only; omega, ?_, hlt⟩
      rw [e]
      exact hI2.plus hq) (fun b hI => ad_x3_1 (by omega))).1
  rw [key] at h
  exact h
/-- Var -/
theorem var_c {n : Nat} (v : Int) : run n 110 [.lit (.int .i64 v)] = some (formV ([(v, 1)], 0)) := by
  have h := vr_f1 (n := n) (a0 := v)
  have e : ofQ 1 = 1 := by decide +kernel
  rw [e] at h
  rw [h]
  simp
end Go.Proofs.YtkakmdadnhjphaaGreatDoor
set_option linter.all false
set_option maxRecDepth 100000
set_option maxHeartbeats 6400000
namespace Go.Proofs.YtkakmdadnhjphaaGreatDoor
open Go.RowKit
attribute [local irreducible] run runL loopG exec

/-- the terms of a small form over the first i variables -/
structure SmL (i : Nat) (l : List (Int × Rat)) : Prop where
  len : l.length ≤ i
  sorted : l.Pairwise (fun a b => a.1 < b.1)
  each : ∀ t ∈ l, 0 ≤ t.1 ∧ t.1 < (i : Int) ∧ t.2 ≠ 0 ∧ H t.2 ≤ 2
theorem SmL.nil (i : Nat) : SmL i [] := ⟨by simp, List.Pairwise.nil, fun t ht => by cases ht⟩
theorem plus_end : ∀ (l : List (Int × Rat)) (v : Int) (q : Rat), (∀ t ∈ l, t.1 < v ∧ t.2 ≠ 0) → plusV false l v q = l ++ put1 v q
  | [], v, q, _ => rfl
  | t :: l, v, q, h => by
    have h0 := h t List.mem_cons_self
    rw [plusV_lt (by omega) (Or.inr h0.1), plus_end l v q (fun u hu => h u (List.mem_cons_of_mem _ hu))]
    unfold put1
    rw [if_neg h0.2]
    rfl
theorem SmL.step {i : Nat} {l : List (Int × Rat)} {q : Rat} (h : SmL i l) (hq : H q ≤ 2) : SmL (i + 1) (l ++ put1 (i : Int) q) := by
  by_cases h0 : q = 0
  · have e : put1 (i : Int) q = [] := by unfold put1; rw [if_pos h0]
    rw [e, List.append_nil]
    exact ⟨by have := h.len; omega, h.sorted, fun t ht => by obtain ⟨h1, h2, h3⟩ := h.each t ht; exact ⟨h1, by omega, h3⟩⟩
  · have e : put1 (i : Int) q = [((i : Int), q)] := by unfold put1; rw [if_neg h0]
    rw [e]
    refine ⟨by rw [List.length_append]; have := h.len; simp; omega, ?_, fun t ht => ?_⟩
    · rw [List.pairwise_append]
      refine ⟨h.sorted, List.pairwise_singleton _ _, fun a ha b hb => ?_⟩
      rw [List.mem_singleton.1 hb]
      exact (h.each a ha).2.1
    · rcases List.mem_append.1 ht with h9 | h9
      · obtain ⟨h1, h2, h3⟩ := h.each t h9
        exact ⟨h1, by omega, h3⟩
      · rw [List.mem_singleton.1 h9]
        exact ⟨by show (0 : Int) ≤ (i : Int); omega, by show (i : Int) < ((i + 1 : Nat) : Int); omega, h0, hq⟩
theorem num_few {x : Int} (h0 : 0 ≤ x) (h1 : x < 9) (y : Int) : H (((x - 4 : Int) : Rat) / ((dd y : Int) : Rat)) ≤ 2 := by
  have hd : dd y = 1 ∨ dd y = 2 ∨ dd y = 4 := by unfold dd; split; omega; split <;> omega
  have hx : x = 0 ∨ x = 1 ∨ x = 2 ∨ x = 3 ∨ x = 4 ∨ x = 5 ∨ x = 6 ∨ x = 7 ∨ x = 8 := by omega
  rcases hd with e | e | e <;> rw [e] <;> rcases hx with rfl | rfl | rfl | rfl | rfl | rfl | rfl | rfl | rfl <;> decide +kernel
theorem numN_few (bs : List Int) (k : Nat) : H (numN bs k).1 ≤ 2 := by
  have h := nextN_lt (bs := bs) (k := k) (n := 9) (by omega)
  exact num_few h.1 h.2 _
theorem numN_le {bs : List Int} {k : Nat} (hk : k ≤ bs.length) : (numN bs k).2 ≤ bs.length := nextN_le (nextN_le hk)
theorem SmL.up {i : Nat} {l : List (Int × Rat)} (h : SmL i l) : SmL (i + 1) l := ⟨Nat.le_succ_of_le h.len, h.sorted, fun t ht => by have h1 := h.each t ht; exact ⟨h1.1, by omega, h1.2.2.1, h1.2.2.2⟩⟩
/-- a small form over n variables -/
structure SmF (n : Nat) (f : Form) : Prop where
  l : SmL n f.1
  k : H f.2 ≤ 2
def fdB (bs : List Int) (k : Nat) : AB := .box 192 [.sl 1 (bs.map intU8C), .lit (.int .i64 (k : Int))] false
section
variable {n : Nat} {bs : List Int} {k : Nat}
theorem next_c (hb : Byt bs) (hk : k ≤ bs.length) {m : Int} (hm : 0 < m) : runL n 61 [.ptr 0 0, .lit (.int .i64 m)] [fdB bs k] = some (.lit (.int .i64 (nextN bs k m).1), [(0, fdB bs (nextN bs k m).2)]) := by
  have hl := hb.len
  unfold nextN
  cases hx : bs[k]? with
  | some x =>
    have hlt := (List.getElem?_eq_some_iff.1 hx).1
    obtain ⟨x0, x1⟩ := hb.val x (List.mem_of_getElem? hx)
    have h := nx_f2 (n := n) (a0 := ⟨bs, (k : Int)⟩) (a1 := m) (x := x) (by dsimp only; omega) ⟨by dsimp only; omega, by dsimp only; omega⟩ ⟨by dsimp only; omega, by dsimp only; omega⟩ (by dsimp only; rw [Int.toNat_natCast]; exact hx) (by dsimp only; omega) ⟨by omega, by omega⟩ (by omega)
    rw [Int.tmod_eq_emod_of_nonneg x0] at h
    exact h
  | none =>
    have h1 : bs.length ≤ k := List.getElem?_eq_none_iff.1 hx
    exact nx_f1 (n := n) (a0 := ⟨bs, (k : Int)⟩) (a1 := m) (by dsimp only; omega)
theorem num_c (hb : Byt bs) (hk : k ≤ bs.length) : runL (n + 1) 62 [.ptr 0 0] [fdB bs k] = some (ratV (numN bs k).1, [(0, fdB bs (numN bs k).2)]) := by
  have h1 := next_c (n := n) hb hk (m := 9) (by omega)
  have k1 := nextN_le (n := 9) hk
  have b1 := nextN_lt (bs := bs) (k := k) (n := 9) (by omega)
  have h2 := next_c (n := n) hb k1 (m := 4) (by omega)
  have b2 := nextN_lt (bs := bs) (k := (nextN bs k 9).2) (n := 4) (by omega)
  unfold numN
  generalize nextN bs k 9 = p at *
  obtain ⟨x, j1⟩ := p
  dsimp only at *
  generalize nextN bs j1 4 = p at *
  obtain ⟨y, j2⟩ := p
  dsimp only at *
  have W : InI (x - 4) := ⟨by omega, by omega⟩
  have hy : y = 0 ∨ y = 1 ∨ y = 2 ∨ y = 3 := by omega
  rcases hy with rfl | rfl | rfl | rfl
  · exact nu_f1 (a0 := ⟨bs, (k : Int)⟩) h1 W h2 rfl W
  · exact nu_f2 (a0 := ⟨bs, (k : Int)⟩) h1 W h2 (by omega) rfl W
  · exact nu_f3 (a0 := ⟨bs, (k : Int)⟩) h1 W h2 (by omega) (by omega) rfl W
  · exact nu_f4 (a0 := ⟨bs, (k : Int)⟩) h1 W h2 (by omega) (by omega) (by omega) rfl W
theorem form_c (hb : Byt bs) (hk : k ≤ bs.length) {z : Int} (h0 : 0 ≤ z) (h1 : z ≤ 1000) : ∃ (f : Form) (k' : Nat), runL (n + 3) 146 [.ptr 0 0, .lit (.int .i64 z)] [fdB bs k] = some (formV f, [(0, fdB bs k')]) ∧ SmF z.toNat f ∧ k' ≤ bs.length := by
  have hnum := num_c (n := n + 1) hb hk
  have hK := numN_few bs k
  have hk1 := numN_le hk
  generalize numN bs k = p at *
  obtain ⟨K, k1⟩ := p
  dsimp only at *
  obtain ⟨b, hL, h3, h4⟩ := loopG_R (O := tab (n + 3)) (P := Tryz.prog) (m := 1) (N := 26) (lives := livesOf 146) (r := 3) (C := fo_C3) (exN := .exit 0) (M := z.toNat) (enc := fun i (b : List (Int × Rat) × Nat) => fo_h3 ⟨bs, (k : Int)⟩ z i (b.2 : Int) b.1 K) (out := fun b => fo_o3a ⟨bs, (k : Int)⟩ (b.2 : Int) b.1 K) (fun i b => SmL i b.1 ∧ b.2 ≤ bs.length) ([], k1) ⟨SmL.nil 0, hk1⟩ (by omega) (by simp)
    (fun i b hi hI => by
      obtain ⟨l, j⟩ := b
      obtain ⟨hI1, hI2⟩ := hI
      dsimp only at hI1 hI2
      have C1 : (i : Int) < z := by omega
      have W : InI ((i : Int) + 1) := ⟨by omega, by omega⟩
      have n1 := next_c (n := n + 2) hb hI2 (m := 3) (by omega)
      have l1 := nextN_le (n := 3) hI2
      generalize nextN bs j 3 = p at *
      obtain ⟨x, j1⟩ := p
      dsimp only at *
      by_cases hx : 0 < x
      · have n2 := num_c (n := n + 1) hb l1
        have q2 := numN_few bs j1
        have l2 := numN_le l1
        generalize numN bs j1 = p at *
        obtain ⟨q, j2⟩ := p
        dsimp only at *
        have hV : TmB 1 [((i : Int), (1 : Rat))] := fun t ht => by
          cases List.mem_singleton.1 ht
          exact ⟨(by decide : (1 : Rat) ≠ 0), (by decide : H 1 ≤ 1)⟩
        have n3 := scale_c (n := n + 1) (f := ([((i : Int), 1)], 0)) (c := q) (hV.mono (by omega)) (by simp) (by show H 0 ≤ 1000000; decide) (by omega)
        have es : sclV [((i : Int), 1)] q = put1 (i : Int) q := by simp [sclV]
        have ez : (0 : Rat) * q = 0 := Rat.zero_mul q
        dsimp only at n3
        rw [es, ez] at n3
        have hT : TmB 100 l := fun t ht => ⟨(hI1.each t ht).2.2.1, Nat.le_trans (hI1.each t ht).2.2.2 (by omega)⟩
        have hS : TmB 3 (put1 (i : Int) q) := TmB.put _ (by omega)
        have hS2 := put1_len (i : Int) q
        have n4 := add_c (n := n) (f := (l, K)) (g := (put1 (i : Int) q, 0)) hS (by dsimp only; omega) hT (by dsimp only; have := hI1.len; omega) (by dsimp only; omega) (by dsimp only; omega) (by show H 0 ≤ 1000000; decide)
        have ea : addV l (put1 (i : Int) q) = l ++ put1 (i : Int) q := by
          by_cases h0 : q = 0
          · have e1 : put1 (i : Int) q = [] := if_pos h0
            rw [e1, List.append_nil]; rfl
          · have e1 : put1 (i : Int) q = [((i : Int), q)] := if_neg h0
            rw [e1]
            unfold addV
            rw [List.foldl_cons, List.foldl_nil, plus_end _ (i : Int) q (fun t ht => ⟨(hI1.each t ht).2.1, (hI1.each t ht).2.2.1⟩), e1]
        have ek : K + 0 = K := Rat.add_zero K
        dsimp only at n4
        rw [ea, ek] at n4
        exact ⟨(l ++ put1 (i : Int) q, j2), fo_r3_1 (r13 := ([((i : Int), 1)], 0)) C1 n1 hx (var_c (i : Int)) n2 n3 n4 W, hI1.step q2, l2⟩
      · exact ⟨(l, j1), fo_r3_2 C1 n1 hx W, hI1.up, l1⟩)
    (fun b hI => fo_x3_1 (by omega))
  exact ⟨(b.1, K), b.2, fo_f1 (a0 := ⟨bs, (k : Int)⟩) hnum hL, ⟨h3, hK⟩, h4⟩
/-- a small graph -/
structure GrOk (g : TGraph) : Prop where
  i0 : 1 ≤ g.Inputs
  i1 : g.Inputs ≤ 3
  u : g.Units.length ≤ 4
  o0 : 1 ≤ g.Outputs.length
  o1 : g.Outputs.length ≤ 3
  un : ∀ i f, g.Units[i]? = some f → SmF (g.Inputs.toNat + i) f
  ou : ∀ f ∈ g.Outputs, SmF (g.Inputs.toNat + g.Units.length) f
theorem graph_c (hb : Byt bs) (hk : k ≤ bs.length) : ∃ (g : TGraph) (k' : Nat), runL (n + 4) 144 [.ptr 0 0] [fdB bs k] = some (graphV g, [(0, fdB bs k')]) ∧ GrOk g ∧ k' ≤ bs.length := by
  have h1 := next_c (n := n + 3) hb hk (m := 3) (by omega)
  have b1 := nextN_lt (bs := bs) (k := k) (n := 3) (by omega)
  have l1 := nextN_le (n := 3) hk
  generalize nextN bs k 3 = p at *
  obtain ⟨x, j1⟩ := p
  dsimp only at *
  have h2 := next_c (n := n + 3) hb l1 (m := 5) (by omega)
  have b2 := nextN_lt (bs := bs) (k := j1) (n := 5) (by omega)
  have l2 := nextN_le (n := 5) l1
  generalize nextN bs j1 5 = p at *
  obtain ⟨y, j2⟩ := p
  dsimp only at *
  have h3 := next_c (n := n + 3) hb l2 (m := 3) (by omega)
  have b3 := nextN_lt (bs := bs) (k := j2) (n := 3) (by omega)
  have l3 := nextN_le (n := 3) l2
  generalize nextN bs j2 3 = p at *
  obtain ⟨z, j3⟩ := p
  dsimp only at *
  obtain ⟨⟨U, j4⟩, hL1, h4, h5, h6⟩ := loopG_R (O := tab (n + 4)) (P := Tryz.prog) (m := 1) (N := 50) (lives := livesOf 144) (r := 4) (C := gr_C4) (exN := .exit 0) (M := y.toNat) (enc := fun i (b : List Form × Nat) => gr_h4 ⟨bs, (k : Int)⟩ y z i (b.2 : Int) x b.1) (out := fun b => gr_o4a ⟨bs, (k : Int)⟩ y z (b.2 : Int) x b.1)
    (fun i b => b.2 ≤ bs.length ∧ b.1.length = i ∧ ∀ j f, b.1[j]? = some f → SmF ((1 + x).toNat + j) f) ([], j3) ⟨l3, rfl, fun j f h => by simp at h⟩ (by omega) (by simp)
    (fun i b hi hI => by
      obtain ⟨U, j⟩ := b
      obtain ⟨hI1, hI2, hI3⟩ := hI
      dsimp only at hI1 hI2 hI3
      obtain ⟨f, j', h7, h8, h9⟩ := form_c (n := n) hb hI1 (z := (1 + x) + (i : Int)) (by omega) (by omega)
      refine ⟨(U ++ [f], j'), gr_r4_1 (by omega) ⟨by omega, by omega⟩ h7 (by dsimp only; omega) ⟨by omega, by omega⟩, h9, by dsimp only; rw [List.length_append, hI2]; rfl, fun q g hq => ?_⟩
      dsimp only at hq
      by_cases hqi : q < U.length
      · rw [List.getElem?_append_left hqi] at hq; exact hI3 q g hq
      · rw [List.getElem?_append_right (by omega)] at hq
        have h0 : q - U.length = 0 := by
          have := (List.getElem?_eq_some_iff.1 hq).1
          rw [List.length_singleton] at this
          omega
        rw [h0] at hq
        cases hq
        have e : (1 + x).toNat + q = ((1 + x) + (i : Int)).toNat := by omega
        rw [e]; exact h8)
    (fun b hI => gr_x4_1 (by omega))
  dsimp only at hL1 h4 h5 h6
  obtain ⟨⟨O, j5⟩, hL2, h7, h8, h9⟩ := loopG_R (O := tab (n + 4)) (P := Tryz.prog) (m := 1) (N := 50) (lives := livesOf 144) (r := 8) (C := gr_C8) (exN := .exit 2) (M := (1 + z).toNat) (enc := fun i (b : List Form × Nat) => gr_h8 ⟨bs, (k : Int)⟩ y z i (b.2 : Int) x U b.1) (out := fun b => gr_o8a ⟨bs, (k : Int)⟩ (b.2 : Int) x U b.1)
    (fun i b => b.2 ≤ bs.length ∧ b.1.length = i ∧ ∀ f ∈ b.1, SmF ((1 + x) + y).toNat f) ([], j4) ⟨h4, rfl, fun f h => by cases h⟩ (by omega) (by simp)
    (fun i b hi hI => by
      obtain ⟨O, j⟩ := b
      obtain ⟨hI1, hI2, hI3⟩ := hI
      dsimp only at hI1 hI2 hI3
      obtain ⟨f, j', h7, h8, h9⟩ := form_c (n := n) hb hI1 (z := (1 + x) + y) (by omega) (by omega)
      refine ⟨(O ++ [f], j'), gr_r8_1 (by omega) ⟨by omega, by omega⟩ h7 (by dsimp only; omega) ⟨by omega, by omega⟩, h9, by dsimp only; rw [List.length_append, hI2]; rfl, fun g hg => ?_⟩
      rcases List.mem_append.1 hg with hg | hg
      · exact hI3 g hg
      · rw [List.mem_singleton.1 hg]; exact h8)
    (fun b hI => gr_x8_1 (by omega))
  dsimp only at hL2 h7 h8 h9
  refine ⟨⟨1 + x, U, O⟩, j5, gr_f1 (a0 := ⟨bs, (k : Int)⟩) h1 ⟨by omega, by omega⟩ h2 h3 ⟨by omega, by omega⟩ hL1 hL2, ⟨by dsimp only; omega, by dsimp only; omega, by dsimp only; omega, by dsimp only; omega, by dsimp only; omega, h6, fun f hf => ?_⟩, h7⟩
  have e : (1 + x).toNat + U.length = ((1 + x) + y).toNat := by omega
  dsimp only
  rw [e]; exact h9 f hf
/-- a small region of I inputs -/
structure RgOk (I : Nat) (r : TRegion) : Prop where
  lo : r.Lo.length = I
  hi : r.Hi.length = I
  rows : r.Rows.length ≤ 2
  lob : ∀ q ∈ r.Lo, H q ≤ 2
  hib : ∀ q ∈ r.Hi, H q ≤ 5
  le : ∀ (i : Nat) (a b : Rat), r.Lo[i]? = some a → r.Hi[i]? = some b → a ≤ b
  rws : ∀ f ∈ r.Rows, SmF I f
theorem absQ_nonneg (q : Rat) : 0 ≤ absQ q := by
  unfold absQ
  split
  · rename_i h
    have h1 : ¬ 0 ≤ q := fun h2 => by have := Rat.num_nonneg.2 h2; omega
    grind
  · rename_i h
    exact Rat.num_nonneg.1 (by omega)
theorem small_c (hb : Byt bs) (hk : k ≤ bs.length) {z : Int} (h0 : 0 ≤ z) (h1 : z ≤ 1000) : ∃ (r : TRegion) (k' : Nat), runL (n + 4) 145 [.ptr 0 0, .lit (.int .i64 z)] [fdB bs k] = some (regionV r, [(0, fdB bs k')]) ∧ RgOk z.toNat r ∧ k' ≤ bs.length := by
  obtain ⟨⟨lo, hi, j1⟩, hL1, a1, a2, a3, a4, a5, a6⟩ := loopG_R (O := tab (n + 4)) (P := Tryz.prog) (m := 1) (N := 49) (lives := livesOf 145) (r := 3) (C := sm_C3) (exN := .exit 0) (M := z.toNat) (enc := fun i (b : List Rat × List Rat × Nat) => sm_h3 ⟨bs, (k : Int)⟩ z i (b.2.2 : Int) b.1 b.2.1) (out := fun b => sm_o3a ⟨bs, (k : Int)⟩ z (b.2.2 : Int) b.1 b.2.1)
    (fun i b => b.2.2 ≤ bs.length ∧ b.1.length = i ∧ b.2.1.length = i ∧ (∀ q ∈ b.1, H q ≤ 2) ∧ (∀ q ∈ b.2.1, H q ≤ 5) ∧ ∀ (j : Nat) (x y : Rat), b.1[j]? = some x → b.2.1[j]? = some y → x ≤ y) ([], [], k) ⟨hk, rfl, rfl, fun q h => (by cases h), fun q h => (by cases h), fun j x y h => (by simp at h)⟩ (by omega) (by simp)
    (fun i b hi hI => by
      obtain ⟨lo, hi', j⟩ := b
      obtain ⟨i1, i2, i3, i4, i5, i6⟩ := hI
      dsimp only at i1 i2 i3 i4 i5 i6
      have n1 := num_c (n := n + 2) hb i1
      have q1 := numN_few bs j
      have l1 := numN_le i1
      generalize numN bs j = p at *
      obtain ⟨x, j1⟩ := p
      dsimp only at *
      have n2 := num_c (n := n + 2) hb l1
      have q2 := numN_few bs j1
      have l2 := numN_le l1
      generalize numN bs j1 = p at *
      obtain ⟨y, j2⟩ := p
      dsimp only at *
      have hq : H (absQ y) ≤ 2 := by rw [absQ_H]; exact q2
      have hs := H_add x (absQ y)
      have hp := absQ_nonneg y
      refine ⟨(lo ++ [x], hi' ++ [x + absQ y], j2), sm_r3_1 (by omega) n1 n2 (by omega) (by omega) (by omega) (by omega) ⟨by omega, by omega⟩, l2, by dsimp only; rw [List.length_append, i2]; rfl, by dsimp only; rw [List.length_append, i3]; rfl, fun q hq => ?_, fun q hq => ?_, fun a u v hu hv => ?_⟩
      · rcases List.mem_append.1 hq with h | h
        · exact i4 q h
        · rw [List.mem_singleton.1 h]; exact q1
      · rcases List.mem_append.1 hq with h | h
        · exact i5 q h
        · rw [List.mem_singleton.1 h]; omega
      · dsimp only at hu hv
        by_cases ha : a < i
        · rw [List.getElem?_append_left (by omega)] at hu hv
          exact i6 a u v hu hv
        · have h0 : a = i := by
            have := (List.getElem?_eq_some_iff.1 hu).1
            rw [List.length_append, List.length_singleton] at this
            omega
          subst h0
          rw [List.getElem?_append_right (by omega), i2, Nat.sub_self] at hu
          rw [List.getElem?_append_right (by omega), i3, Nat.sub_self] at hv
          cases hu
          cases hv
          grind)
    (fun b hI => sm_x3_1 (by omega))
  dsimp only at hL1 a1 a2 a3 a4 a5 a6
  have n1 := next_c (n := n + 3) hb a1 (m := 3) (by omega)
  have b1 := nextN_lt (bs := bs) (k := j1) (n := 3) (by omega)
  have l1 := nextN_le (n := 3) a1
  generalize nextN bs j1 3 = p at *
  obtain ⟨x, j2⟩ := p
  dsimp only at *
  obtain ⟨⟨R, j3⟩, hL2, c1, c2, c3⟩ := loopG_R (O := tab (n + 4)) (P := Tryz.prog) (m := 1) (N := 49) (lives := livesOf 145) (r := 9) (C := sm_C9) (exN := .exit 2) (M := x.toNat) (enc := fun i (b : List Form × Nat) => sm_h9 ⟨bs, (k : Int)⟩ z (x - (i : Int)) (b.2 : Int) lo hi b.1) (out := fun b => sm_o9a ⟨bs, (k : Int)⟩ (b.2 : Int) lo hi b.1)
    (fun i b => b.2 ≤ bs.length ∧ b.1.length = i ∧ ∀ f ∈ b.1, SmF z.toNat f) ([], j2) ⟨l1, rfl, fun f h => by cases h⟩ (by omega) (by simp)
    (fun i b hi' hI => by
      obtain ⟨R, j⟩ := b
      obtain ⟨i1, i2, i3⟩ := hI
      dsimp only at i1 i2 i3
      obtain ⟨f, j', h7, h8, h9⟩ := form_c (n := n) hb i1 h0 h1
      have e : x - ((i + 1 : Nat) : Int) = x - (i : Int) - 1 := by omega
      refine ⟨(R ++ [f], j'), ?_, h9, by dsimp only; rw [List.length_append, i2]; rfl, fun g hg => ?_⟩
      · dsimp only
        rw [e]
        exact sm_r9_1 (by omega) h7 (by omega) ⟨by omega, by omega⟩
      · rcases List.mem_append.1 hg with hg | hg
        · exact i3 g hg
        · rw [List.mem_singleton.1 hg]; exact h8)
    (fun b hI => sm_x9_1 (by omega))
  dsimp only at hL2 c1 c2 c3
  have e0 : x - ((0 : Nat) : Int) = x := by omega
  rw [e0] at hL2
  exact ⟨⟨lo, hi, R⟩, j3, sm_f1 (a0 := ⟨bs, (k : Int)⟩) hL1 n1 hL2, ⟨a2, a3, by dsimp only; omega, a4, a5, a6, c3⟩, c1⟩
/-- a small query -/
structure QuOk (q : TQuery) : Prop where
  gr : GrOk q.Graph
  rg : RgOk q.Graph.Inputs.toNat q.Region
  go : SmF (q.Graph.Inputs.toNat + q.Graph.Units.length) q.Goal
theorem query_c (hb : Byt bs) (hk : k ≤ bs.length) : ∃ (q : TQuery) (k' : Nat), runL (n + 5) 60 [.ptr 0 0] [fdB bs k] = some (queryV q, [(0, fdB bs k')]) ∧ QuOk q ∧ k' ≤ bs.length := by
  obtain ⟨g, k1, h1, h2, h3⟩ := graph_c (n := n) hb hk
  have := h2.i0
  have := h2.i1
  have := h2.u
  obtain ⟨r, k2, h4, h5, h6⟩ := small_c (n := n) hb h3 (z := g.Inputs) (by omega) (by omega)
  obtain ⟨f, k3, h7, h8, h9⟩ := form_c (n := n + 1) hb h6 (z := g.Inputs + (g.Units.length : Int)) (by omega) (by omega)
  have e : (g.Inputs + (g.Units.length : Int)).toNat = g.Inputs.toNat + g.Units.length := by omega
  rw [e] at h8
  exact ⟨⟨g, r, f⟩, k3, qu_f1 (a0 := ⟨bs, (k : Int)⟩) (r := g) (r2 := r) (r3 := f) h1 h4 ⟨by omega, by omega⟩ h7, ⟨h2, h5, h8⟩, h9⟩
end
end Go.Proofs.YtkakmdadnhjphaaGreatDoor
set_option linter.all false
set_option maxRecDepth 100000
set_option maxHeartbeats 6400000
namespace Go.Proofs.YtkakmdadnhjphaaGreatDoor
open Go.RowKit
attribute [local irreducible] run runL loopG exec

theorem num_nonpos (q : Rat) : q.num ≤ 0 ↔ q ≤ 0 := by
  have h := @Rat.num_nonneg (-q)
  have e : (-q).num = -q.num := rfl
  rw [e] at h
  constructor
  · intro h1
    have : 0 ≤ -q := h.1 (by omega)
    grind
  · intro h1
    have h2 : 0 ≤ -q := by grind
    have := h.2 h2
    omega
theorem sgq_pos {q : Rat} : 0 < sgR q ↔ 0 < q := by
  unfold sgR
  have h := num_nonpos q
  constructor
  · intro h1
    have h2 : 0 < q.num := Int.sign_pos_iff.1 h1
    have : ¬ q ≤ 0 := fun h3 => by have := h.2 h3; omega
    grind
  · intro h1
    refine Int.sign_pos_iff.2 ?_
    have : ¬ q.num ≤ 0 := fun h3 => by have := h.1 h3; grind
    omega
/-- the truth value -/
noncomputable def tv (p : Prop) : Bool := @decide p (Classical.propDecidable p)
theorem tv_t {p : Prop} (h : p) : tv p = true := @decide_eq_true p (Classical.propDecidable p) h
theorem tv_f {p : Prop} (h : ¬ p) : tv p = false := @decide_eq_false p (Classical.propDecidable p) h
theorem tv_true {p : Prop} (h : tv p = true) : p := @of_decide_eq_true p (Classical.propDecidable p) h
theorem tv_false {p : Prop} (h : tv p = false) : ¬ p := @of_decide_eq_false p (Classical.propDecidable p) h
theorem tv_iff {p q : Prop} (h : p ↔ q) : tv p = tv q := by rw [propext h]
/-- term i of a form stands in order -/
def OkTm (F : List (Int × Rat)) (vars : Int) (i : Nat) : Prop := ∀ v c, F[i]? = some (v, c) → 0 ≤ v ∧ v < vars ∧ c ≠ 0 ∧ ∀ v' c', 0 < i → F[i - 1]? = some (v', c') → v' < v
def OkFm (f : Form) (vars : Int) : Prop := ∀ i, i < f.1.length → OkTm f.1 vars i
/-- bounds of a form -/
structure BdF (b : Nat) (f : Form) : Prop where
  l : f.1.length ≤ 100000000
  t : ∀ t ∈ f.1, H t.2 ≤ b
  k : H f.2 ≤ b
theorem BdF.mono {b c : Nat} {f : Form} (h : BdF b f) (hb : b ≤ c) : BdF c f := ⟨h.l, fun t ht => Nat.le_trans (h.t t ht) hb, Nat.le_trans h.k hb⟩
theorem validF_c {n : Nat} {f : Form} {vars : Int} (hB : BdF 17179869184 f) : run n 36 [formV f, .lit (.int .i64 vars)] = some (.lit (.bool (tv (OkFm f vars)))) := by
  have hl := hB.l
  have L := loopG_all (O := tab n) (P := Tryz.prog) (m := 0) (N := 59) (lives := livesOf 36) (r := 2) (C := va_C2) (M := f.1.length) (enc := va_h2 f vars) (p := fun i => tv (OkTm f.1 vars i)) (exN := .exit 0) (exE := .ret) (out := va_o2b f) (outE := va_o2a f) (by omega) (by simp) (by simp)
    (fun i hi hI => by
      have hx : f.1[i]? = some f.1[i] := List.getElem?_eq_getElem hi
      generalize f.1[i] = t at hx
      obtain ⟨v, c⟩ := t
      have hc : H c ≤ 17179869184 := hB.t _ (List.mem_of_getElem? hx)
      have C1 : (i : Int) < (f.1.length : Int) := by omega
      have W : InI ((i : Int) + 1) := ⟨by omega, by omega⟩
      have W2 : InI ((i : Int) - 1) := ⟨by omega, by omega⟩
      have hs : sgR c = 0 ↔ c = 0 := sgR_eq_zero
      by_cases h0 : 0 < i
      · have hy : f.1[i - 1]? = some (f.1[i - 1]'(by omega)) := List.getElem?_eq_getElem _
        generalize f.1[i - 1]'(by omega) = t at hy
        obtain ⟨v', c'⟩ := t
        refine ⟨fun hp => ?_, fun hp => ?_⟩
        · obtain ⟨a1, a2, a3, a4⟩ := tv_true hp v c hx
          have a5 := a4 v' c' h0 hy
          exact va_r2_1 C1 hx (by omega) (by omega) (by omega) W2 hy (by omega) (by omega) hc (fun h => a3 (hs.1 h)) W
        · by_cases b1 : v < 0
          · exact va_x2_1 C1 hx b1
          · by_cases b2 : vars ≤ v
            · exact va_x2_2 C1 hx b1 b2
            · by_cases b3 : v ≤ v'
              · exact va_x2_3 C1 hx b1 b2 (by omega) W2 hy (by omega) b3
              · by_cases b4 : c = 0
                · exact va_x2_4 C1 hx b1 b2 (by omega) W2 hy (by omega) b3 hc (hs.2 b4)
                · refine absurd (fun u d hu => ?_) (tv_false hp)
                  rw [hx] at hu; cases hu
                  exact ⟨by omega, by omega, b4, fun v2 c2 _ h2 => by rw [hy] at h2; cases h2; omega⟩
      · refine ⟨fun hp => ?_, fun hp => ?_⟩
        · obtain ⟨a1, a2, a3, a4⟩ := tv_true hp v c hx
          exact va_r2_2 C1 hx (by omega) (by omega) (by omega) hc (fun h => a3 (hs.1 h)) W
        · by_cases b1 : v < 0
          · exact va_x2_1 C1 hx b1
          · by_cases b2 : vars ≤ v
            · exact va_x2_2 C1 hx b1 b2
            · by_cases b4 : c = 0
              · exact va_x2_5 C1 hx b1 b2 (by omega) hc (hs.2 b4)
              · refine absurd (fun u d hu => ?_) (tv_false hp)
                rw [hx] at hu; cases hu
                exact ⟨by omega, by omega, b4, fun v2 c2 h2 => absurd h2 h0⟩)
    (va_x2_6 (by omega))
  by_cases h : OkFm f vars
  · rw [if_pos (fun i hi => tv_t (h i hi))] at L
    rw [tv_t h]
    exact va_f2 L hB.k
  · rw [if_neg (fun h2 => h fun i hi => tv_true (h2 i hi))] at L
    rw [tv_f h]
    exact va_f1 L
theorem all_idx {α : Type} {L : List α} {p : α → Prop} : (∀ i, i < L.length → ∀ x, L[i]? = some x → p x) ↔ ∀ x ∈ L, p x := by
  constructor
  · intro h x hx
    obtain ⟨i, hi⟩ := List.mem_iff_getElem?.1 hx
    exact h i (List.getElem?_eq_some_iff.1 hi).1 x hi
  · intro h i _ x hx
    exact h x (List.mem_of_getElem? hx)
theorem validFs_c {n : Nat} {L : List Form} {vars : Int} (hl : L.length ≤ 100000000) (hB : ∀ f ∈ L, BdF 17179869184 f) : run (n + 1) 225 [.sl 4 (L.map formC), .lit (.int .i64 vars)] = some (.lit (.bool (tv (∀ f ∈ L, OkFm f vars)))) := by
  have hG := loopG_all (O := tab (n + 1)) (P := Tryz.prog) (m := 0) (N := 19) (lives := livesOf 225) (r := 2) (C := vl_C2) (M := L.length) (enc := vl_h2 L vars) (p := fun i => tv (∀ f, L[i]? = some f → OkFm f vars)) (exN := .exit 0) (exE := .ret) (out := vl_o2b) (outE := vl_o2a) (by omega) (by simp) (by simp)
    (fun i hi hI => by
      have hx : L[i]? = some L[i] := List.getElem?_eq_getElem hi
      generalize L[i] = f at hx
      have C1 : (i : Int) < (L.length : Int) := by omega
      have W : InI ((i : Int) + 1) := ⟨by omega, by omega⟩
      have K := validF_c (n := n) (vars := vars) (hB f (List.mem_of_getElem? hx))
      have e : tv (∀ g, L[i]? = some g → OkFm g vars) = tv (OkFm f vars) := tv_iff ⟨fun h => h f hx, fun h g hg => by rw [hx] at hg; cases hg; exact h⟩
      rw [e]
      exact ⟨fun hp => vl_r2_1 C1 hx K hp W, fun hp => vl_x2_1 C1 hx K hp⟩)
    (vl_x2_2 (by omega))
  by_cases h : ∀ f ∈ L, OkFm f vars
  · rw [if_pos (fun i hi => tv_t (all_idx.2 h i hi))] at hG
    rw [tv_t h]
    exact vl_f2 hG
  · rw [if_neg (fun h2 => h (all_idx.1 fun i hi => tv_true (h2 i hi)))] at hG
    rw [tv_f h]
    exact vl_f1 hG
theorem validRs_c {n : Nat} {L : List Rat} (hl : L.length ≤ 100000000) (hB : ∀ q ∈ L, H q ≤ 17179869184) : run n 226 [.sl 3 (L.map ratC)] = some (.lit (.bool true)) := by
  have hG := (loopG_I (O := tab n) (P := Tryz.prog) (m := 0) (N := 16) (lives := livesOf 226) (r := 2) (C := vn_C2) (L := L) (f := fun _ (b : Unit) _ => b) (enc := fun i _ => vn_h2 L i) (exN := .exit 0) (out := fun _ => vn_o2a) (Inv := fun _ _ => True) () trivial (by omega) (by simp)
    (fun i x b hi hI => by
      have hlt := (List.getElem?_eq_some_iff.1 hi).1
      exact ⟨vn_r2_1 (by omega) hi (hB x (List.mem_of_getElem? hi)) ⟨by omega, by omega⟩, trivial⟩)
    (fun b hI => vn_x2_1 (by omega))).1
  exact vn_f1 hG
/-- a graph that is valid -/
structure OkGr (g : TGraph) : Prop where
  i0 : 1 ≤ g.Inputs
  i1 : g.Inputs ≤ 256
  u : (g.Units.length : Int) ≤ 1024
  o0 : 1 ≤ (g.Outputs.length : Int)
  o1 : (g.Outputs.length : Int) ≤ 256
  un : ∀ i, i < g.Units.length → ∀ f, g.Units[i]? = some f → OkFm f (g.Inputs + (i : Int))
  ou : ∀ f ∈ g.Outputs, OkFm f (g.Inputs + (g.Units.length : Int))
structure BdG (b : Nat) (g : TGraph) : Prop where
  lu : g.Units.length ≤ 100000000
  lo : g.Outputs.length ≤ 100000000
  u : ∀ f ∈ g.Units, BdF b f
  o : ∀ f ∈ g.Outputs, BdF b f
theorem validG_c {n : Nat} {g : TGraph} (hB : BdG 17179869184 g) : run (n + 2) 152 [graphV g] = some (.lit (.bool (tv (OkGr g)))) := by
  have hlu := hB.lu
  have hlo := hB.lo
  by_cases c1 : g.Inputs < 1
  · rw [tv_f (fun h => by have := h.i0; omega)]; exact vg_f1 c1
  by_cases c2 : 256 < g.Inputs
  · rw [tv_f (fun h => by have := h.i1; omega)]; exact vg_f2 c1 c2
  by_cases c3 : 1024 < (g.Units.length : Int)
  · rw [tv_f (fun h => by have := h.u; omega)]; exact vg_f3 c1 c2 c3
  by_cases c4 : (g.Outputs.length : Int) < 1
  · rw [tv_f (fun h => by have := h.o0; omega)]; exact vg_f4 c1 c2 c3 c4
  by_cases c5 : 256 < (g.Outputs.length : Int)
  · rw [tv_f (fun h => by have := h.o1; omega)]; exact vg_f5 c1 c2 c3 c4 c5
  have hG := loopG_all (O := tab (n + 2)) (P := Tryz.prog) (m := 0) (N := 57) (lives := livesOf 152) (r := 4) (C := vg_C4) (M := g.Units.length) (enc := vg_h4 g) (p := fun i => tv (∀ f, g.Units[i]? = some f → OkFm f (g.Inputs + (i : Int)))) (exN := .exit 0) (exE := .ret) (out := vg_o4b g) (outE := vg_o4a g) (by omega) (by simp) (by simp)
    (fun i hi hI => by
      have hx : g.Units[i]? = some g.Units[i] := List.getElem?_eq_getElem hi
      generalize g.Units[i] = f at hx
      have C1 : (i : Int) < (g.Units.length : Int) := by omega
      have W : InI ((i : Int) + 1) := ⟨by omega, by omega⟩
      have W2 : InI (g.Inputs + (i : Int)) := ⟨by omega, by omega⟩
      have K := validF_c (n := n + 1) (vars := g.Inputs + (i : Int)) (hB.u f (List.mem_of_getElem? hx))
      have e : tv (∀ f, g.Units[i]? = some f → OkFm f (g.Inputs + (i : Int))) = tv (OkFm f (g.Inputs + (i : Int))) := tv_iff ⟨fun h => h f hx, fun h g hg => by rw [hx] at hg; cases hg; exact h⟩
      rw [e]
      exact ⟨fun hp => vg_r4_1 C1 hx W2 K hp W, fun hp => vg_x4_1 C1 hx W2 K hp⟩)
    (vg_x4_2 (by omega))
  by_cases h : ∀ i, i < g.Units.length → ∀ f, g.Units[i]? = some f → OkFm f (g.Inputs + (i : Int))
  · rw [if_pos (fun i hi => tv_t (h i hi))] at hG
    have K := validFs_c (n := n) (vars := g.Inputs + (g.Units.length : Int)) hlo hB.o
    have e : tv (OkGr g) = tv (∀ f ∈ g.Outputs, OkFm f (g.Inputs + (g.Units.length : Int))) := tv_iff ⟨fun k => k.ou, fun k => ⟨by omega, by omega, by omega, by omega, by omega, h, k⟩⟩
    rw [e]
    exact vg_f7 c1 c2 c3 c4 c5 hG ⟨by omega, by omega⟩ K
  · rw [if_neg (fun h2 => h fun i hi => tv_true (h2 i hi))] at hG
    rw [tv_f (fun k => h k.un)]
    exact vg_f6 c1 c2 c3 c4 c5 hG
theorem vars_c {n : Nat} {g : TGraph} (hB : BdG 17179869184 g) : run (n + 3) 154 [graphV g] = some (.lit (.int .i64 (if tv (OkGr g) = true then g.Inputs + (g.Units.length : Int) else 0))) := by
  have K := validG_c (n := n) hB
  cases h : tv (OkGr g) with
  | false => rw [h] at K; exact vars_f1 K rfl
  | true =>
    rw [h] at K
    have h2 := tv_true h
    have := h2.i0
    have := h2.i1
    have := h2.u
    exact vars_f2 K rfl ⟨by omega, by omega⟩
/-- small things are valid -/
theorem SmF.ok {N : Nat} {f : Form} {vars : Int} (h : SmF N f) (hv : (N : Int) ≤ vars) : OkFm f vars := fun i hi v c hx => by
  obtain ⟨a1, a2, a3, a4⟩ := h.l.each _ (List.mem_of_getElem? hx)
  dsimp only at a1 a2 a3
  refine ⟨a1, by omega, a3, fun v' c' h0 hy => ?_⟩
  obtain ⟨l1, e1⟩ := List.getElem?_eq_some_iff.1 hx
  obtain ⟨l2, e2⟩ := List.getElem?_eq_some_iff.1 hy
  have := List.pairwise_iff_getElem.1 h.l.sorted (i - 1) i l2 l1 (by omega)
  rw [e1, e2] at this
  exact this
theorem SmF.bd {N : Nat} {f : Form} (h : SmF N f) (hN : N ≤ 100000000) : BdF 2 f := ⟨by have := h.l.len; omega, fun t ht => (h.l.each t ht).2.2.2, h.k⟩
theorem GrOk.ok {g : TGraph} (h : GrOk g) : OkGr g := by
  have := h.i0
  have := h.i1
  have := h.u
  have := h.o0
  have := h.o1
  exact ⟨by omega, by omega, by omega, by omega, by omega, fun i hi f hf => (h.un i f hf).ok (by omega), fun f hf => (h.ou f hf).ok (by omega)⟩
theorem GrOk.bd {g : TGraph} (h : GrOk g) : BdG 2 g := by
  have := h.i0
  have := h.i1
  have := h.u
  have := h.o1
  refine ⟨by omega, by omega, fun f hf => ?_, fun f hf => (h.ou f hf).bd (by omega)⟩
  obtain ⟨i, hi⟩ := List.mem_iff_getElem?.1 hf
  have := (List.getElem?_eq_some_iff.1 hi).1
  exact (h.un i f hi).bd (by omega)
theorem BdG.mono {b c : Nat} {g : TGraph} (h : BdG b g) (hb : b ≤ c) : BdG c g := ⟨h.lu, h.lo, fun f hf => (h.u f hf).mono hb, fun f hf => (h.o f hf).mono hb⟩
theorem validR_small {n I : Nat} {r : TRegion} (h : RgOk I r) (hI : 1 ≤ I) (hI2 : I ≤ 256) : run (n + 2) 153 [regionV r, .lit (.int .i64 (I : Int))] = some (.lit (.bool true)) := by
  have h1 := h.lo
  have h2 := h.hi
  have h3 := h.rows
  have K1 := validRs_c (n := n + 1) (L := r.Lo) (by omega) (fun q hq => by have := h.lob q hq; omega)
  have K2 := validRs_c (n := n + 1) (L := r.Hi) (by omega) (fun q hq => by have := h.hib q hq; omega)
  have K3 := validFs_c (n := n) (L := r.Rows) (vars := (I : Int)) (by omega) (fun f hf => ((h.rws f hf).bd (by omega)).mono (by omega))
  rw [tv_t (fun f hf => (h.rws f hf).ok (Int.le_refl _))] at K3
  have hG := (loopG_I (O := tab (n + 2)) (P := Tryz.prog) (m := 0) (N := 66) (lives := livesOf 153) (r := 6) (C := vr19_C6) (L := r.Lo) (f := fun _ (b : Unit) _ => b) (enc := fun i _ => vr19_h6 r (I : Int) i) (exN := .exit 0) (out := fun _ => vr19_o6b) (Inv := fun _ _ => True) () trivial (by omega) (by simp)
    (fun i x b hi hI => by
      have hlt := (List.getElem?_eq_some_iff.1 hi).1
      have hy : r.Hi[i]? = some (r.Hi[i]'(by omega)) := List.getElem?_eq_getElem _
      generalize r.Hi[i]'(by omega) = y at hy
      have hle := h.le i x y hi hy
      have := h.lob x (List.mem_of_getElem? hi)
      have := h.hib y (List.mem_of_getElem? hy)
      refine ⟨vr19_r6_1 (by omega) hi hy (by omega) (by omega) (fun hs => ?_) ⟨by omega, by omega⟩, trivial⟩
      have : 0 < x - y := sgq_pos.1 hs
      grind)
    (fun b hI => vr19_x6_2 (by omega))).1
  exact vr19_f10 (by omega) (by omega) (by omega) (by omega) (by omega) K1 rfl K2 rfl K3 rfl hG
theorem validQ_small {n : Nat} {q : TQuery} (h : QuOk q) : run (n + 4) 66 [queryV q] = some (.lit (.bool true)) := by
  have hg := h.gr
  have := hg.i0
  have := hg.i1
  have := hg.u
  have K1 := validG_c (n := n + 1) (hg.bd.mono (by omega))
  rw [tv_t hg.ok] at K1
  have K2 := validR_small (n := n + 1) h.rg (by omega) (by omega)
  have e : ((q.Graph.Inputs.toNat : Nat) : Int) = q.Graph.Inputs := by omega
  rw [e] at K2
  have K3 := vars_c (n := n) (hg.bd.mono (by omega))
  rw [if_pos (tv_t hg.ok)] at K3
  have K4 := validF_c (n := n + 3) (f := q.Goal) (vars := q.Graph.Inputs + (q.Graph.Units.length : Int)) ((h.go.bd (by omega)).mono (by omega))
  rw [tv_t (h.go.ok (by omega))] at K4
  exact vq_f1 K1 rfl K2 rfl K3 K4
end Go.Proofs.YtkakmdadnhjphaaGreatDoor
set_option linter.all false
set_option maxRecDepth 100000
set_option maxHeartbeats 6400000
namespace Go.Proofs.YtkakmdadnhjphaaGreatDoor
open Go.RowKit
attribute [local irreducible] run runL loopG exec

theorem lvalid_c {n : Nat} {f : Form} {vars : Int} (hB : BdF 17179869184 f) : run n 115 [formV f, .lit (.int .i64 vars)] = some (.lit (.bool (tv (OkFm f vars)))) := by
  have hl := hB.l
  have L := loopG_all (O := tab n) (P := Tryz.prog) (m := 0) (N := 56) (lives := livesOf 115) (r := 2) (C := lva_C2) (M := f.1.length) (enc := lva_h2 f vars) (p := fun i => tv (OkTm f.1 vars i)) (exN := .exit 0) (exE := .ret) (out := lva_o2b f) (outE := lva_o2a f) (by omega) (by simp) (by simp)
    (fun i hi hI => by
      have hx : f.1[i]? = some f.1[i] := List.getElem?_eq_getElem hi
      generalize f.1[i] = t at hx
      obtain ⟨v, c⟩ := t
      have hc : H c ≤ 17179869184 := hB.t _ (List.mem_of_getElem? hx)
      have C1 : (i : Int) < (f.1.length : Int) := by omega
      have W : InI ((i : Int) + 1) := ⟨by omega, by omega⟩
      have W2 : InI ((i : Int) - 1) := ⟨by omega, by omega⟩
      have hs : sgR c = 0 ↔ c = 0 := sgR_eq_zero
      by_cases h0 : 0 < i
      · have hy : f.1[i - 1]? = some (f.1[i - 1]'(by omega)) := List.getElem?_eq_getElem _
        generalize f.1[i - 1]'(by omega) = t at hy
        obtain ⟨v', c'⟩ := t
        refine ⟨fun hp => ?_, fun hp => ?_⟩
        · obtain ⟨a1, a2, a3, a4⟩ := tv_true hp v c hx
          have a5 := a4 v' c' h0 hy
          exact lva_r2_1 C1 hx (by omega) (by omega) (by omega) W2 hy (by omega) (by omega) hc (fun h => a3 (hs.1 h)) W
        · by_cases b1 : v < 0
          · exact lva_x2_1 C1 hx b1
          · by_cases b2 : vars ≤ v
            · exact lva_x2_2 C1 hx b1 b2
            · by_cases b3 : v ≤ v'
              · exact lva_x2_3 C1 hx b1 b2 (by omega) W2 hy (by omega) b3
              · by_cases b4 : c = 0
                · exact lva_x2_4 C1 hx b1 b2 (by omega) W2 hy (by omega) b3 hc (hs.2 b4)
                · refine absurd (fun u d hu => ?_) (tv_false hp)
                  rw [hx] at hu; cases hu
                  exact ⟨by omega, by omega, b4, fun v2 c2 _ h2 => by rw [hy] at h2; cases h2; omega⟩
      · refine ⟨fun hp => ?_, fun hp => ?_⟩
        · obtain ⟨a1, a2, a3, a4⟩ := tv_true hp v c hx
          exact lva_r2_2 C1 hx (by omega) (by omega) (by omega) hc (fun h => a3 (hs.1 h)) W
        · by_cases b1 : v < 0
          · exact lva_x2_1 C1 hx b1
          · by_cases b2 : vars ≤ v
            · exact lva_x2_2 C1 hx b1 b2
            · by_cases b4 : c = 0
              · exact lva_x2_5 C1 hx b1 b2 (by omega) hc (hs.2 b4)
              · refine absurd (fun u d hu => ?_) (tv_false hp)
                rw [hx] at hu; cases hu
                exact ⟨by omega, by omega, b4, fun v2 c2 h2 => absurd h2 h0⟩)
    (lva_x2_6 (by omega))
  by_cases h : OkFm f vars
  · rw [if_pos (fun i hi => tv_t (h i hi))] at L
    rw [tv_t h]
    exact lva_f2 L hB.k
  · rw [if_neg (fun h2 => h fun i hi => tv_true (h2 i hi))] at L
    rw [tv_f h]
    exact lva_f1 L
theorem gvc_c {n : Nat} {f : Form} {vars : Int} (hB : BdF 17179869184 f) : run (n + 1) 269 [formV f, .mem [.lit (.int .i64 vars)]] = some (.lit (.bool (!tv (OkFm f vars)))) := gvc_f1 (lvalid_c (n := n) hB)
theorem ifg_c {n : Nat} {L : List Form} {vars : Int} (hl : L.length ≤ 100000000) (hB : ∀ f ∈ L, BdF 17179869184 f) : ∃ r : Int, run (n + 2) 270 [.sl 4 (L.map formC), .clo 269 [.mem [.lit (.int .i64 vars)]]] = some (.lit (.int .i64 r)) ∧ (0 ≤ r ↔ ¬ ∀ f ∈ L, OkFm f vars) := by
  obtain ⟨ex, t, h1, h2⟩ := loopG_Q (β := Unit) (P := Tryz.prog) (O := tab (n + 2)) (m := 0) (N := 19) (lives := livesOf 270) (r := 2) (C := ifg_C2) (M := L.length) (enc := fun i _ => ifg_h2 L vars i)
    (fun i _ => ∀ j f, j < i → L[j]? = some f → OkFm f vars) (fun ex t => (ex = .exit 0 ∧ t = ifg_o2b ∧ ∀ f ∈ L, OkFm f vars) ∨ (ex = .ret ∧ ∃ i : Nat, t = ifg_o2a i ∧ ¬ ∀ f ∈ L, OkFm f vars)) () (fun j f hj => by omega) (by omega)
    (fun i b hi hI => by
      have hx : L[i]? = some L[i] := List.getElem?_eq_getElem hi
      generalize L[i] = f at hx
      have K := gvc_c (n := n) (vars := vars) (hB f (List.mem_of_getElem? hx))
      by_cases h : OkFm f vars
      · rw [tv_t h] at K
        refine .inl ⟨(), ifg_r2_1 (by omega) hx K rfl ⟨by omega, by omega⟩, fun j g hj hg => ?_⟩
        rcases Nat.lt_succ_iff_lt_or_eq.1 hj with h2 | rfl
        · exact hI j g h2 hg
        · rw [hx] at hg; cases hg; exact h
      · rw [tv_f h] at K
        exact .inr ⟨_, _, by simp, ifg_x2_1 (by omega) hx K rfl, .inr ⟨rfl, i, rfl, fun h2 => h (h2 f (List.mem_of_getElem? hx))⟩⟩)
    (fun b hI => ⟨_, _, by simp, ifg_x2_2 (by omega), .inl ⟨rfl, rfl, fun f hf => by
      obtain ⟨j, hj⟩ := List.mem_iff_getElem?.1 hf
      exact hI j f (List.getElem?_eq_some_iff.1 hj).1 hj⟩⟩)
  rcases h2 with ⟨rfl, rfl, h3⟩ | ⟨rfl, i, rfl, h3⟩
  · exact ⟨-1, ifg_f2 h1, fun h => by omega, fun h => absurd h3 h⟩
  · exact ⟨(i : Int), ifg_f1 h1, fun _ => h3, fun _ => by omega⟩
theorem gvs_c {n : Nat} {L : List Form} {vars : Int} (hl : L.length ≤ 100000000) (hB : ∀ f ∈ L, BdF 17179869184 f) : run (n + 4) 221 [.sl 4 (L.map formC), .lit (.int .i64 vars)] = some (.lit (.bool (tv (∀ f ∈ L, OkFm f vars)))) := by
  obtain ⟨r, h1, h2⟩ := ifg_c (n := n) (vars := vars) hl hB
  have h3 := gva_f1 (n := n) (cfg_f1 (n := n) h1)
  rw [h3]
  by_cases h : ∀ f ∈ L, OkFm f vars
  · rw [tv_t h, decide_eq_false (fun h4 => (h2.1 h4) h)]; rfl
  · rw [tv_f h, decide_eq_true (h2.2 h)]; rfl
theorem gvalid_c {n : Nat} {g : TGraph} (hB : BdG 17179869184 g) : run (n + 5) 148 [graphV g] = some (.lit (.bool (tv (OkGr g)))) := by
  have hlu := hB.lu
  have hlo := hB.lo
  by_cases c1 : g.Inputs < 1
  · rw [tv_f (fun h => by have := h.i0; omega)]; exact gV_f1 c1
  by_cases c2 : 256 < g.Inputs
  · rw [tv_f (fun h => by have := h.i1; omega)]; exact gV_f2 c1 c2
  by_cases c3 : 1024 < (g.Units.length : Int)
  · rw [tv_f (fun h => by have := h.u; omega)]; exact gV_f3 c1 c2 c3
  by_cases c4 : (g.Outputs.length : Int) < 1
  · rw [tv_f (fun h => by have := h.o0; omega)]; exact gV_f4 c1 c2 c3 c4
  by_cases c5 : 256 < (g.Outputs.length : Int)
  · rw [tv_f (fun h => by have := h.o1; omega)]; exact gV_f5 c1 c2 c3 c4 c5
  have hG := loopG_all (O := tab (n + 5)) (P := Tryz.prog) (m := 0) (N := 56) (lives := livesOf 148) (r := 4) (C := gV_C4) (M := g.Units.length) (enc := gV_h4 g) (p := fun i => tv (∀ f, g.Units[i]? = some f → OkFm f (g.Inputs + (i : Int)))) (exN := .exit 0) (exE := .ret) (out := gV_o4b g) (outE := gV_o4a g) (by omega) (by simp) (by simp)
    (fun i hi hI => by
      have hx : g.Units[i]? = some g.Units[i] := List.getElem?_eq_getElem hi
      generalize g.Units[i] = f at hx
      have C1 : (i : Int) < (g.Units.length : Int) := by omega
      have W : InI ((i : Int) + 1) := ⟨by omega, by omega⟩
      have W2 : InI (g.Inputs + (i : Int)) := ⟨by omega, by omega⟩
      have K := lvalid_c (n := n + 4) (vars := g.Inputs + (i : Int)) (hB.u f (List.mem_of_getElem? hx))
      have e : tv (∀ f, g.Units[i]? = some f → OkFm f (g.Inputs + (i : Int))) = tv (OkFm f (g.Inputs + (i : Int))) := tv_iff ⟨fun h => h f hx, fun h g hg => by rw [hx] at hg; cases hg; exact h⟩
      rw [e]
      exact ⟨fun hp => gV_r4_1 C1 hx W2 K hp W, fun hp => gV_x4_1 C1 hx W2 K hp⟩)
    (gV_x4_2 (by omega))
  by_cases h : ∀ i, i < g.Units.length → ∀ f, g.Units[i]? = some f → OkFm f (g.Inputs + (i : Int))
  · rw [if_pos (fun i hi => tv_t (h i hi))] at hG
    have K := gvs_c (n := n) (vars := g.Inputs + (g.Units.length : Int)) hlo hB.o
    have e : tv (OkGr g) = tv (∀ f ∈ g.Outputs, OkFm f (g.Inputs + (g.Units.length : Int))) := tv_iff ⟨fun k => k.ou, fun k => ⟨by omega, by omega, by omega, by omega, by omega, h, k⟩⟩
    rw [e]
    exact gV_f7 c1 c2 c3 c4 c5 hG ⟨by omega, by omega⟩ K
  · rw [if_neg (fun h2 => h fun i hi => tv_true (h2 i hi))] at hG
    rw [tv_f (fun k => h k.un)]
    exact gV_f6 c1 c2 c3 c4 c5 hG
theorem rvc_c {n : Nat} {f : Form} {vars : Int} (hB : BdF 17179869184 f) : run (n + 1) 223 [formV f, .mem [.lit (.int .i64 vars)]] = some (.lit (.bool (!tv (OkFm f vars)))) := rVc_f1 (lvalid_c (n := n) hB)
theorem ifr_c {n : Nat} {L : List Form} {vars : Int} (hl : L.length ≤ 100000000) (hB : ∀ f ∈ L, BdF 17179869184 f) (h : ∀ f ∈ L, OkFm f vars) : run (n + 2) 270 [.sl 4 (L.map formC), .clo 223 [.mem [.lit (.int .i64 vars)]]] = some (.lit (.int .i64 (-1))) := by
  refine ifr_f2 (loopG_I (O := tab (n + 2)) (P := Tryz.prog) (m := 0) (N := 19) (lives := livesOf 270) (r := 2) (C := ifr_C2) (L := L) (f := fun _ (b : Unit) _ => b) (enc := fun i _ => ifr_h2 L vars i) (exN := .exit 0) (out := fun _ => ifr_o2b) (Inv := fun _ _ => True) () trivial (by omega) (by simp)
    (fun i x b hi hI => by
      have hlt := (List.getElem?_eq_some_iff.1 hi).1
      have K := rvc_c (n := n) (vars := vars) (hB x (List.mem_of_getElem? hi))
      rw [tv_t (h x (List.mem_of_getElem? hi))] at K
      exact ⟨ifr_r2_1 (by omega) hi K rfl ⟨by omega, by omega⟩, trivial⟩)
    (fun b hI => ifr_x2_2 (by omega))).1
theorem rvalid_small {n I : Nat} {r : TRegion} (h : RgOk I r) (hI : 1 ≤ I) (hI2 : I ≤ 256) : run (n + 4) 149 [regionV r, .lit (.int .i64 (I : Int))] = some (.lit (.bool true)) := by
  have h1 := h.lo
  have h2 := h.hi
  have h3 := h.rows
  have K3 := cfr_f1 (n := n) (ifr_c (n := n) (L := r.Rows) (vars := (I : Int)) (by omega) (fun f hf => ((h.rws f hf).bd (by omega)).mono (by omega)) (fun f hf => (h.rws f hf).ok (Int.le_refl _)))
  have hG := (loopG_I (O := tab (n + 4)) (P := Tryz.prog) (m := 0) (N := 69) (lives := livesOf 149) (r := 4) (C := rV_C4) (L := r.Lo) (f := fun _ (b : Unit) _ => b) (enc := fun i _ => rV_h4 r (I : Int) i) (exN := .exit 0) (out := fun _ => rV_o4b r (I : Int)) (Inv := fun _ _ => True) () trivial (by omega) (by simp)
    (fun i x b hi hI => by
      have hlt := (List.getElem?_eq_some_iff.1 hi).1
      have hy : r.Hi[i]? = some (r.Hi[i]'(by omega)) := List.getElem?_eq_getElem _
      generalize r.Hi[i]'(by omega) = y at hy
      have hle := h.le i x y hi hy
      have := h.lob x (List.mem_of_getElem? hi)
      have := h.hib y (List.mem_of_getElem? hy)
      refine ⟨rV_r4_1 (by omega) hi (by omega) hy (by omega) (fun hs => ?_) ⟨by omega, by omega⟩, trivial⟩
      have : 0 < x - y := sgq_pos.1 hs
      grind)
    (fun b hI => rV_x4_2 (by omega))).1
  exact rV_f7 (by omega) (by omega) (by omega) (by omega) (by omega) hG K3
theorem qvalid_small {n : Nat} {q : TQuery} (h : QuOk q) : run (n + 6) 64 [queryV q] = some (.lit (.bool true)) := by
  have hg := h.gr
  have := hg.i0
  have := hg.i1
  have := hg.u
  have K1 := gvalid_c (n := n) (hg.bd.mono (by omega))
  rw [tv_t hg.ok] at K1
  have K2 := rvalid_small (n := n + 1) h.rg (by omega) (by omega)
  have e : ((q.Graph.Inputs.toNat : Nat) : Int) = q.Graph.Inputs := by omega
  rw [e] at K2
  have K4 := lvalid_c (n := n + 5) (f := q.Goal) (vars := q.Graph.Inputs + (q.Graph.Units.length : Int)) ((h.go.bd (by omega)).mono (by omega))
  rw [tv_t (h.go.ok (by omega))] at K4
  exact qV_f1 K1 rfl K2 rfl ⟨by omega, by omega⟩ K4
end Go.Proofs.YtkakmdadnhjphaaGreatDoor
