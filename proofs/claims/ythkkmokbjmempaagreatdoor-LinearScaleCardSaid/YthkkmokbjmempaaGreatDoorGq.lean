/- Equality of numbers and of forms (relucertref07.Equal, linear.same, linear.Equal): what the calls return. -/
import Derived.Test.YthkkmokbjmempaaGreatDoorGX
import Derived.Test.YthkkmokbjmempaaGreatDoorYc
import Derived.Test.YthkkmokbjmempaaGreatDoorZc
import Derived.Test.YthkkmokbjmempaaGreatDoorZG
set_option linter.all false
set_option linter.all false
set_option maxRecDepth 100000
set_option maxHeartbeats 6400000
namespace Go.Proofs.YthkkmokbjmempaaGreatDoor
open Go.RowKit
attribute [local irreducible] run runL loopG exec

theorem list_all {α : Type} {l m : List α} (hl : l.length = m.length) : (∀ i, i < l.length → l[i]? = m[i]?) → l = m := fun h => by
  apply List.ext_getElem?
  intro i
  rcases Nat.lt_or_ge i l.length with hi | hi
  · exact h i hi
  · rw [List.getElem?_eq_none hi, List.getElem?_eq_none (by omega)]
theorem feq_c {n : Nat} {f g : Form} (hf : BdF 17179869184 f) (hg : BdF 17179869184 g) : run n 22 [formV f, formV g] = some (.lit (.bool (tv (f = g)))) := by
  have l1 := hf.l
  have l2 := hg.l
  by_cases hl : f.1.length = g.1.length
  · by_cases hk : f.2 = g.2
    · have L := loopG_all (O := tab n) (P := Tryz.prog) (m := 0) (N := 57) (lives := livesOf 22) (r := 4) (C := feq_C4) (M := f.1.length) (enc := feq_h4 f g) (p := fun i => tv (f.1[i]? = g.1[i]?)) (exN := .exit 0) (exE := .ret) (out := feq_o4b) (outE := feq_o4a) (by omega) (fun h => by cases h) (fun h => by cases h)
        (fun i hi _ => by
          have hx : f.1[i]? = some f.1[i] := List.getElem?_eq_getElem hi
          have hy : g.1[i]? = some (g.1[i]'(by omega)) := List.getElem?_eq_getElem _
          obtain ⟨t, ht⟩ : ∃ t, f.1[i] = t := ⟨_, rfl⟩
          obtain ⟨u, hu⟩ : ∃ u, (g.1[i]'(by omega)) = u := ⟨_, rfl⟩
          rw [ht] at hx
          rw [hu] at hy
          obtain ⟨v, q⟩ := t
          obtain ⟨v', q'⟩ := u
          have hq := hf.t _ (List.mem_of_getElem? hx)
          have hq' := hg.t _ (List.mem_of_getElem? hy)
          dsimp only at hq hq'
          refine ⟨fun hp => ?_, fun hp => ?_⟩
          · have hp := tv_true hp
            rw [hx, hy] at hp
            cases hp
            exact feq_r4_1 (by omega) hx hy rfl hq hq' rfl ⟨by omega, by omega⟩
          · have hp := tv_false hp
            rw [hx, hy] at hp
            by_cases e1 : v = v'
            · exact feq_x4_2 (by omega) hx hy e1 hq hq' fun e2 => hp (by rw [e1, e2])
            · exact feq_x4_1 (by omega) hx hy e1)
        (feq_x4_3 (by omega))
      by_cases hA : ∀ i, i < f.1.length → tv (f.1[i]? = g.1[i]?) = true
      · rw [if_pos hA] at L
        rw [tv_t (Prod.ext (list_all hl fun i hi => tv_true (hA i hi)) hk)]
        exact feq_f4 (by omega) hf.k hg.k hk L
      · rw [if_neg hA] at L
        rw [tv_f fun h => hA fun i hi => tv_t (by rw [h])]
        exact feq_f3 (by omega) hf.k hg.k hk L
    · rw [tv_f fun h => hk (by rw [h])]
      exact feq_f2 (by omega) hf.k hg.k hk
  · rw [tv_f fun h => hl (by rw [h])]
    exact feq_f1 (by omega)
theorem seq_c {n : Nat} {l m : List Nat} (hl : l.length ≤ 4000000000) (hm : m.length ≤ 4000000000) : run n 128 [natA l, natA m] = some (.lit (.bool (tv (l = m)))) := by
  by_cases h : l.length = m.length
  · have L := loopG_all (O := tab n) (P := Tryz.prog) (m := 0) (N := 26) (lives := livesOf 128) (r := 4) (C := seq_C4) (M := l.length) (enc := seq_h4 l m) (p := fun i => tv (l[i]? = m[i]?)) (exN := .exit 0) (exE := .ret) (out := seq_o4b) (outE := seq_o4a) (by omega) (fun h => by cases h) (fun h => by cases h)
      (fun i hi _ => by
        have hx : l[i]? = some l[i] := List.getElem?_eq_getElem hi
        have hy : m[i]? = some (m[i]'(by omega)) := List.getElem?_eq_getElem _
        refine ⟨fun hp => ?_, fun hp => ?_⟩
        · have hp := tv_true hp
          rw [hx, hy] at hp
          have e := Option.some.inj hp
          exact seq_r4_1 (by omega) hx hy (by omega) ⟨by omega, by omega⟩
        · have hp := tv_false hp
          rw [hx, hy] at hp
          exact seq_x4_1 (by omega) hx hy fun e => hp (by rw [show l[i] = (m[i]'(by omega)) by omega]))
      (seq_x4_2 (by omega))
    by_cases hA : ∀ i, i < l.length → tv (l[i]? = m[i]?) = true
    · rw [if_pos hA] at L
      rw [tv_t (list_all h fun i hi => tv_true (hA i hi))]
      exact seq_f3 (by omega) L
    · rw [if_neg hA] at L
      rw [tv_f fun e => hA fun i hi => tv_t (by rw [e])]
      exact seq_f2 (by omega) L
  · rw [tv_f fun e => h (by rw [e])]
    exact seq_f1 (by omega)
theorem sam_c {n : Nat} {p q : Rat} (hp : H p ≤ 1000000000) (hq : H q ≤ 1000000000) : run (n + 1) 85 [ratV p, ratV q] = some (.lit (.bool (tv (p = q)))) := by
  have a1 : (rawQ p).l1.length ≤ H p := Nat.le_max_left _ _
  have a2 : (rawQ p).l2.length ≤ H p := Nat.le_trans (dlmb_len _) (Nat.le_max_right _ _)
  have b1 : (rawQ q).l1.length ≤ H q := Nat.le_max_left _ _
  have b2 : (rawQ q).l2.length ≤ H q := Nat.le_trans (dlmb_len _) (Nat.le_max_right _ _)
  have K1 := seq_c (n := n) (l := (rawQ p).l1) (m := (rawQ q).l1) (by omega) (by omega)
  have K2 := seq_c (n := n) (l := (rawQ p).l2) (m := (rawQ q).l2) (by omega) (by omega)
  by_cases h1 : (rawQ p).s = (rawQ q).s
  · by_cases h2 : (rawQ p).l1 = (rawQ q).l1
    · have e : tv (p = q) = tv ((rawQ p).l2 = (rawQ q).l2) := tv_iff ⟨fun h => by rw [h], fun h => rawQ_inj (by
        generalize rawQ p = x at *
        generalize rawQ q = y at *
        obtain ⟨x1, x2, x3⟩ := x
        obtain ⟨y1, y2, y3⟩ := y
        dsimp only at h1 h2 h
        rw [h1, h2, h])⟩
      rw [e]
      exact sam_f1 h1 K1 (tv_t h2) K2
    · rw [tv_f fun h => h2 (by rw [h])]
      exact sam_f2 h1 K1 (tv_f h2)
  · rw [tv_f fun h => h1 (by rw [h])]
    exact sam_f3 h1
theorem leq_c {n : Nat} {f g : Form} (hf : BdF 1000000000 f) (hg : BdF 1000000000 g) : run (n + 2) 35 [formV f, formV g] = some (.lit (.bool (tv (f = g)))) := by
  have l1 := hf.l
  have l2 := hg.l
  have K := sam_c (n := n) hf.k hg.k
  by_cases hl : f.1.length = g.1.length
  · by_cases hk : f.2 = g.2
    · have L := loopG_all (O := tab (n + 2)) (P := Tryz.prog) (m := 0) (N := 52) (lives := livesOf 35) (r := 4) (C := leq_C4) (M := f.1.length) (enc := leq_h4 f g) (p := fun i => tv (f.1[i]? = g.1[i]?)) (exN := .exit 0) (exE := .ret) (out := leq_o4b) (outE := leq_o4a) (by omega) (fun h => by cases h) (fun h => by cases h)
        (fun i hi _ => by
          have hx : f.1[i]? = some f.1[i] := List.getElem?_eq_getElem hi
          have hy : g.1[i]? = some (g.1[i]'(by omega)) := List.getElem?_eq_getElem _
          obtain ⟨t, ht⟩ : ∃ t, f.1[i] = t := ⟨_, rfl⟩
          obtain ⟨u, hu⟩ : ∃ u, (g.1[i]'(by omega)) = u := ⟨_, rfl⟩
          rw [ht] at hx
          rw [hu] at hy
          obtain ⟨v, q⟩ := t
          obtain ⟨v', q'⟩ := u
          have hq := hf.t _ (List.mem_of_getElem? hx)
          have hq' := hg.t _ (List.mem_of_getElem? hy)
          dsimp only at hq hq'
          have K2 := sam_c (n := n) hq hq'
          refine ⟨fun hp => ?_, fun hp => ?_⟩
          · have hp := tv_true hp
            rw [hx, hy] at hp
            cases hp
            exact leq_r4_1 (by omega) hx hy rfl K2 (tv_t rfl) ⟨by omega, by omega⟩
          · have hp := tv_false hp
            rw [hx, hy] at hp
            by_cases e1 : v = v'
            · exact leq_x4_2 (by omega) hx hy e1 K2 (tv_f fun e2 => hp (by rw [e1, e2]))
            · exact leq_x4_1 (by omega) hx hy e1)
        (leq_x4_3 (by omega))
      by_cases hA : ∀ i, i < f.1.length → tv (f.1[i]? = g.1[i]?) = true
      · rw [if_pos hA] at L
        rw [tv_t (Prod.ext (list_all hl fun i hi => tv_true (hA i hi)) hk)]
        exact leq_f4 (by omega) K (tv_t hk) L
      · rw [if_neg hA] at L
        rw [tv_f fun h => hA fun i hi => tv_t (by rw [h])]
        exact leq_f3 (by omega) K (tv_t hk) L
    · rw [tv_f fun h => hk (by rw [h])]
      exact leq_f2 (by omega) K (tv_f hk)
  · rw [tv_f fun h => hl (by rw [h])]
    exact leq_f1 (by omega)
end Go.Proofs.YthkkmokbjmempaaGreatDoor
