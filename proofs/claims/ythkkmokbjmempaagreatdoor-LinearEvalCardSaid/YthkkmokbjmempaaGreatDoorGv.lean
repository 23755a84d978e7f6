/- Valid forms (relucertref07): what the call returns; the truth value; bounds of forms. -/
import Derived.Test.YthkkmokbjmempaaGreatDoorGa
import Derived.Test.YthkkmokbjmempaaGreatDoorWf
set_option linter.all false
set_option linter.all false
set_option maxRecDepth 100000
set_option maxHeartbeats 6400000
namespace Go.Proofs.YthkkmokbjmempaaGreatDoor
open Go.RowKit
attribute [local irreducible] run runL loopG exec
theorem num_nonpos (q : Rat) : q.num ≤ 0 ↔ q ≤ 0 := by
  have h := @Rat.num_nonneg (-q)
  have e : (-q).num = -q.num := rfl
  rw [e] at h
  constructor
  · intro h1
    have : 0 ≤ -q := h.1 (by omega)
    grind
  · intro h1
    have h2 : 0 ≤ -q := by grind
    have := h.2 h2
    omega
theorem sgq_pos {q : Rat} : 0 < sgR q ↔ 0 < q := by
  unfold sgR
  have h := num_nonpos q
  constructor
  · intro h1
    have h2 : 0 < q.num := Int.sign_pos_iff.1 h1
    have : ¬ q ≤ 0 := fun h3 => by have := h.2 h3; omega
    grind
  · intro h1
    refine Int.sign_pos_iff.2 ?_
    have : ¬ q.num ≤ 0 := fun h3 => by have := h.1 h3; grind
    omega
theorem sgq_nonneg {q : Rat} : 0 ≤ sgR q ↔ 0 ≤ q := by
  unfold sgR
  rw [← Rat.num_nonneg]
  exact Int.sign_nonneg_iff
theorem sgq_nonpos {q : Rat} : sgR q ≤ 0 ↔ q ≤ 0 := by
  have h := @sgq_pos q
  constructor
  · intro h1
    have : ¬ 0 < q := fun h2 => by have := h.2 h2; omega
    grind
  · intro h1
    have : ¬ 0 < sgR q := fun h2 => by have := h.1 h2; grind
    omega
/-- the truth value -/
noncomputable def tv (p : Prop) : Bool := @decide p (Classical.propDecidable p)
theorem tv_t {p : Prop} (h : p) : tv p = true := @decide_eq_true p (Classical.propDecidable p) h
theorem tv_f {p : Prop} (h : ¬ p) : tv p = false := @decide_eq_false p (Classical.propDecidable p) h
theorem tv_true {p : Prop} (h : tv p = true) : p := @of_decide_eq_true p (Classical.propDecidable p) h
theorem tv_false {p : Prop} (h : tv p = false) : ¬ p := @of_decide_eq_false p (Classical.propDecidable p) h
theorem tv_iff {p q : Prop} (h : p ↔ q) : tv p = tv q := by rw [propext h]
/-- term i of a form stands in order -/
def OkTm (F : List (Int × Rat)) (vars : Int) (i : Nat) : Prop := ∀ v c, F[i]? = some (v, c) → 0 ≤ v ∧ v < vars ∧ c ≠ 0 ∧ ∀ v' c', 0 < i → F[i - 1]? = some (v', c') → v' < v
def OkFm (f : Form) (vars : Int) : Prop := ∀ i, i < f.1.length → OkTm f.1 vars i
/-- bounds of a form -/
structure BdF (b : Nat) (f : Form) : Prop where
  l : f.1.length ≤ 100000000
  t : ∀ t ∈ f.1, H t.2 ≤ b
  k : H f.2 ≤ b
theorem BdF.mono {b c : Nat} {f : Form} (h : BdF b f) (hb : b ≤ c) : BdF c f := ⟨h.l, fun t ht => Nat.le_trans (h.t t ht) hb, Nat.le_trans h.k hb⟩
theorem validF_c {n : Nat} {f : Form} {vars : Int} (hB : BdF 17179869184 f) : run n 18 [formV f, .lit (.int .i64 vars)] = some (.lit (.bool (tv (OkFm f vars)))) := by
  have hl := hB.l
  have L := loopG_all (O := tab n) (P := Tryz.prog) (m := 0) (N := 59) (lives := livesOf 18) (r := 2) (C := va_C2) (M := f.1.length) (enc := va_h2 f vars) (p := fun i => tv (OkTm f.1 vars i)) (exN := .exit 0) (exE := .ret) (out := va_o2b f) (outE := va_o2a f) (by omega) (by simp) (by simp)
    (fun i hi hI => by
      have hx : f.1[i]? = some f.1[i] := List.getElem?_eq_getElem hi
      generalize f.1[i] = t at hx
      obtain ⟨v, c⟩ := t
      have hc : H c ≤ 17179869184 := hB.t _ (List.mem_of_getElem? hx)
      have C1 : (i : Int) < (f.1.length : Int) := by omega
      have W : InI ((i : Int) + 1) := ⟨by omega, by omega⟩
      have W2 : InI ((i : Int) - 1) := ⟨by omega, by omega⟩
      have hs : sgR c = 0 ↔ c = 0 := sgR_eq_zero
      by_cases h0 : 0 < i
      · have hy : f.1[i - 1]? = some (f.1[i - 1]'(by omega)) := List.getElem?_eq_getElem _
        generalize f.1[i - 1]'(by omega) = t at hy
        obtain ⟨v', c'⟩ := t
        refine ⟨fun hp => ?_, fun hp => ?_⟩
        · obtain ⟨a1, a2, a3, a4⟩ := tv_true hp v c hx
          have a5 := a4 v' c' h0 hy
          exact va_r2_1 C1 hx (by omega) (by omega) (by omega) W2 hy (by omega) (by omega) hc (fun h => a3 (hs.1 h)) W
        · by_cases b1 : v < 0
          · exact va_x2_1 C1 hx b1
          · by_cases b2 : vars ≤ v
            · exact va_x2_2 C1 hx b1 b2
            · by_cases b3 : v ≤ v'
              · exact va_x2_3 C1 hx b1 b2 (by omega) W2 hy (by omega) b3
              · by_cases b4 : c = 0
                · exact va_x2_4 C1 hx b1 b2 (by omega) W2 hy (by omega) b3 hc (hs.2 b4)
                · refine absurd (fun u d hu => ?_) (tv_false hp)
                  rw [hx] at hu; cases hu
                  exact ⟨by omega, by omega, b4, fun v2 c2 _ h2 => by rw [hy] at h2; cases h2; omega⟩
      · refine ⟨fun hp => ?_, fun hp => ?_⟩
        · obtain ⟨a1, a2, a3, a4⟩ := tv_true hp v c hx
          exact va_r2_2 C1 hx (by omega) (by omega) (by omega) hc (fun h => a3 (hs.1 h)) W
        · by_cases b1 : v < 0
          · exact va_x2_1 C1 hx b1
          · by_cases b2 : vars ≤ v
            · exact va_x2_2 C1 hx b1 b2
            · by_cases b4 : c = 0
              · exact va_x2_5 C1 hx b1 b2 (by omega) hc (hs.2 b4)
              · refine absurd (fun u d hu => ?_) (tv_false hp)
                rw [hx] at hu; cases hu
                exact ⟨by omega, by omega, b4, fun v2 c2 h2 => absurd h2 h0⟩)
    (va_x2_6 (by omega))
  by_cases h : OkFm f vars
  · rw [if_pos (fun i hi => tv_t (h i hi))] at L
    rw [tv_t h]
    exact va_f2 L hB.k
  · rw [if_neg (fun h2 => h fun i hi => tv_true (h2 i hi))] at L
    rw [tv_f h]
    exact va_f1 L
theorem all_idx {α : Type} {L : List α} {p : α → Prop} : (∀ i, i < L.length → ∀ x, L[i]? = some x → p x) ↔ ∀ x ∈ L, p x := by
  constructor
  · intro h x hx
    obtain ⟨i, hi⟩ := List.mem_iff_getElem?.1 hx
    exact h i (List.getElem?_eq_some_iff.1 hi).1 x hi
  · intro h i _ x hx
    exact h x (List.mem_of_getElem? hx)
end Go.Proofs.YthkkmokbjmempaaGreatDoor
