/- relucertref07: nonzero, plus, Add, Scale, Var, Eval: what they return. Valid forms (relucertref07): what the call returns; the truth value; bounds of forms. relucertref07.Eval: what it returns. relucertref15.Feed: what a feed of bytes yields: numbers, forms, graphs, regions, queries. Valid forms, graphs, regions, queries (relucertref03, 07, 15, 19, 21): what the calls return. relucertref07.Eval; relucertref03.Max; relucertref15.Values, forms, Pre; relucertref19.Inside: what they return. Sorted lists of terms without zeros: sums and multiples, as the program and as the reference build them, are the same. relucertref03.SameAll of equal lists. -/
import Derived.Test.YtlpmemelhlnfbaaGreatDoorGA6
import Derived.Test.YtlpmemelhlnfbaaGreatDoorGA7
import Derived.Test.YtlpmemelhlnfbaaGreatDoorGA15
set_option linter.all false
set_option linter.all false
set_option maxRecDepth 100000
set_option maxHeartbeats 6400000
namespace Go.Proofs.YtlpmemelhlnfbaaGreatDoor
open Go.RowKit

end Go.Proofs.YtlpmemelhlnfbaaGreatDoor
set_option linter.all false
set_option maxRecDepth 100000
set_option maxHeartbeats 6400000
namespace Go.Proofs.YtlpmemelhlnfbaaGreatDoor
open Go.RowKit
attribute [local irreducible] run runL loopG exec
theorem sgq_nonneg {q : Rat} : 0 ≤ sgR q ↔ 0 ≤ q := by
  unfold sgR
  rw [← Rat.num_nonneg]
  exact Int.sign_nonneg_iff
/-- the truth value -/
noncomputable def tv (p : Prop) : Bool := @decide p (Classical.propDecidable p)
theorem tv_t {p : Prop} (h : p) : tv p = true := @decide_eq_true p (Classical.propDecidable p) h
theorem tv_f {p : Prop} (h : ¬ p) : tv p = false := @decide_eq_false p (Classical.propDecidable p) h
theorem tv_true {p : Prop} (h : tv p = true) : p := @of_decide_eq_true p (Classical.propDecidable p) h
theorem tv_false {p : Prop} (h : tv p = false) : ¬ p := @of_decide_eq_false p (Classical.propDecidable p) h
theorem tv_iff {p q : Prop} (h : p ↔ q) : tv p = tv q := by rw [propext h]
/-- term i of a form stands in order -/
def OkTm (F : List (Int × Rat)) (vars : Int) (i : Nat) : Prop := ∀ v c, F[i]? = some (v, c) → 0 ≤ v ∧ v < vars ∧ c ≠ 0 ∧ ∀ v' c', 0 < i → F[i - 1]? = some (v', c') → v' < v
def OkFm (f : Form) (vars : Int) : Prop := ∀ i, i < f.1.length → OkTm f.1 vars i
/-- bounds of a form -/
structure BdF (b : Nat) (f : Form) : Prop where
  l : f.1.length ≤ 100000000
  t : ∀ t ∈ f.1, H t.2 ≤ b
  k : H f.2 ≤ b
theorem BdF.mono {b c : Nat} {f : Form} (h : BdF b f) (hb : b ≤ c) : BdF c f := ⟨h.l, fun t ht => Nat.le_trans (h.t t ht) hb, Nat.le_trans h.k hb⟩
theorem validF_c {n : Nat} {f : Form} {vars : Int} (hB : BdF 17179869184 f) : run n 51 [formV f, .lit (.int .i64 vars)] = some (.lit (.bool (tv (OkFm f vars)))) := by
  have hl := hB.l
  have L := loopG_all (O := tab n) (P := Tryz.prog) (m := 0) (N := 59) (lives := livesOf 51) (r := 2) (C := va_C2) (M := f.1.length) (enc := va_h2 f vars) (p := fun i => tv (OkTm f.1 vars i)) (exN := .exit 0) (exE := .ret) (out := va_o2b f) (outE := va_o2a f) (by omega) (by simp) (by simp)
    (fun i hi hI => by
      have hx : f.1[i]? = some f.1[i] := List.getElem?_eq_getElem hi
      generalize f.1[i] = t at hx
      obtain ⟨v, c⟩ := t
      have hc : H c ≤ 17179869184 := hB.t _ (List.mem_of_getElem? hx)
      have C1 : (i : Int) < (f.1.length : Int) := by omega
      have W : InI ((i : Int) + 1) := ⟨by omega, by omega⟩
      have W2 : InI ((i : Int) - 1) := ⟨by omega, by omega⟩
      have hs : sgR c = 0 ↔ c = 0 := sgR_eq_zero
      by_cases h0 : 0 < i
      · have hy : f.1[i - 1]? = some (f.1[i - 1]'(by omega)) := List.getElem?_eq_getElem _
        generalize f.1[i - 1]'(by omega) = t at hy
        obtain ⟨v', c'⟩ := t
        refine ⟨fun hp => ?_, fun hp => ?_⟩
        · obtain ⟨a1, a2, a3, a4⟩ := tv_true hp v c hx
          have a5 := a4 v' c' h0 hy
          exact va_r2_1 C1 hx (by omega) (by omega) (by omega) W2 hy (by omega) (by omega) hc (fun h => a3 (hs.1 h)) W
        · by_cases b1 : v < 0
          · exact va_x2_1 C1 hx b1
          · by_cases b2 : vars ≤ v
            · exact va_x2_2 C1 hx b1 b2
            · by_cases b3 : v ≤ v'
              · exact va_x2_3 C1 hx b1 b2 (by omega) W2 hy (by omega) b3
              · by_cases b4 : c = 0
                · exact va_x2_4 C1 hx b1 b2 (by omega) W2 hy (by omega) b3 hc (hs.2 b4)
                · refine absurd (fun u d hu => ?_) (tv_false hp)
                  rw [hx] at hu; cases hu
                  exact ⟨by omega, by omega, b4, fun v2 c2 _ h2 => by rw [hy] at h2; cases h2; omega⟩
      · refine ⟨fun hp => ?_, fun hp => ?_⟩
        · obtain ⟨a1, a2, a3, a4⟩ := tv_true hp v c hx
          exact va_r2_2 C1 hx (by omega) (by omega) (by omega) hc (fun h => a3 (hs.1 h)) W
        · by_cases b1 : v < 0
          · exact va_x2_1 C1 hx b1
          · by_cases b2 : vars ≤ v
            · exact va_x2_2 C1 hx b1 b2
            · by_cases b4 : c = 0
              · exact va_x2_5 C1 hx b1 b2 (by omega) hc (hs.2 b4)
              · refine absurd (fun u d hu => ?_) (tv_false hp)
                rw [hx] at hu; cases hu
                exact ⟨by omega, by omega, b4, fun v2 c2 h2 => absurd h2 h0⟩)
    (va_x2_6 (by omega))
  by_cases h : OkFm f vars
  · rw [if_pos (fun i hi => tv_t (h i hi))] at L
    rw [tv_t h]
    exact va_f2 L hB.k
  · rw [if_neg (fun h2 => h fun i hi => tv_true (h2 i hi))] at L
    rw [tv_f h]
    exact va_f1 L
theorem all_idx {α : Type} {L : List α} {p : α → Prop} : (∀ i, i < L.length → ∀ x, L[i]? = some x → p x) ↔ ∀ x ∈ L, p x := by
  constructor
  · intro h x hx
    obtain ⟨i, hi⟩ := List.mem_iff_getElem?.1 hx
    exact h i (List.getElem?_eq_some_iff.1 hi).1 x hi
  · intro h i _ x hx
    exact h x (List.mem_of_getElem? hx)
end Go.Proofs.YtlpmemelhlnfbaaGreatDoor
set_option linter.all false
set_option maxRecDepth 100000
set_option maxHeartbeats 6400000
namespace Go.Proofs.YtlpmemelhlnfbaaGreatDoor
open Go.RowKit
attribute [local irreducible] run runL loopG exec

/-- a form's value -/
def evV (X : List Rat) (f : Form) : Rat := f.1.foldl (fun s t => s + t.2 * X.getD t.1.toNat 0) f.2
def evF (X : List Rat) (i : Nat) (s : Rat) (t : Int × Rat) : Except Rat Rat :=
  if t.1 < 0 ∨ (X.length : Int) ≤ t.1 then .error s else .ok (s + t.2 * X.getD t.1.toNat 0)
theorem evF_ok {X : List Rat} : ∀ {F : List (Int × Rat)} (i : Nat) (s : Rat), (∀ t ∈ F, 0 ≤ t.1 ∧ t.1 < (X.length : Int)) → foldE (evF X) i s F = .ok (F.foldl (fun s t => s + t.2 * X.getD t.1.toNat 0) s)
  | [], i, s, _ => rfl
  | t :: F, i, s, h => by
    have h1 := h t List.mem_cons_self
    have e : evF X i s t = .ok (s + t.2 * X.getD t.1.toNat 0) := if_neg (by omega)
    rw [foldE, e, List.foldl_cons]
    exact evF_ok (i + 1) _ fun u hu => h u (List.mem_cons_of_mem _ hu)
/-- Eval -/
def evR (X : List Rat) (f : Form) : AV :=
  match foldE (evF X) 0 f.2 f.1 with
  | .ok s => .tup [ratV s, .lit (.int .i64 0)]
  | .error _ => .tup [.agg [.lit (.bool false), .sl 1 [], .sl 1 []], .lit (.int .i64 2)]
theorem eval_c {n : Nat} {f : Form} {X : List Rat} {a b k : Nat} (ha : ∀ t ∈ f.1, H t.2 ≤ a) (hb : ∀ q ∈ X, H q ≤ b) (hk : H f.2 ≤ k) (hX : X.length ≤ 100000000) (hF : f.1.length ≤ 100000000) (hs : k + f.1.length * (a + b + 1) ≤ 17179869184) (hab : a + b ≤ 17179869184) :
    run n 99 [formV f, .sl 3 (X.map ratC)] = some (evR X f) ∧ ∀ s, foldE (evF X) 0 f.2 f.1 = .ok s → H s ≤ k + f.1.length * (a + b + 1) := by
  have L := loopG_E (O := tab n) (P := Tryz.prog) (m := 0) (N := 45) (lives := livesOf 99) (r := 3) (C := ev_C3) (L := f.1) (f := evF X) (enc := fun i s => ev_h3 f X i s) (exN := .exit 0) (exE := .ret) (out := ev_o3b) (outE := ev_o3a) (Inv := fun i s => H s ≤ k + i * (a + b + 1) ∧ i ≤ f.1.length) f.2 ⟨by omega, by omega⟩ (by omega) (by simp) (by simp)
    (fun i t s hi hI => by
      obtain ⟨v, c⟩ := t
      obtain ⟨hI, hle⟩ := hI
      have hlt := (List.getElem?_eq_some_iff.1 hi).1
      have hm : (i + 1) * (a + b + 1) ≤ f.1.length * (a + b + 1) := Nat.mul_le_mul_right _ hlt
      rw [Nat.add_mul, Nat.one_mul] at hm
      have C1 : (i : Int) < (f.1.length : Int) := by omega
      have W : InI ((i : Int) + 1) := ⟨by omega, by omega⟩
      unfold evF
      by_cases hv : v < 0 ∨ (X.length : Int) ≤ v
      · rw [if_pos hv]
        by_cases h0 : v < 0
        · exact ev_x3_1 C1 hi h0
        · exact ev_x3_2 C1 hi h0 (by omega)
      · rw [if_neg hv]
        have hl : v.toNat < X.length := by omega
        have h1 : X[v.toNat]? = some (X.getD v.toNat 0) := by rw [List.getD_eq_getElem?_getD, List.getElem?_eq_getElem hl]; rfl
        have hc : H c ≤ a := ha _ (List.mem_of_getElem? hi)
        have hq : H (X.getD v.toNat 0) ≤ b := hb _ (List.mem_of_getElem? h1)
        have h2 := H_mul c (X.getD v.toNat 0)
        have h3 := H_add s (c * X.getD v.toNat 0)
        dsimp only
        refine ⟨ev_r3_1 C1 hi (by omega) (by omega) h1 (by omega) (by omega) (by omega) (by omega) (by omega) W, ?_, hlt⟩
        rw [Nat.add_mul, Nat.one_mul]
        omega)
    (fun b hI => ev_x3_3 (by omega))
  refine ⟨?_, fun s hs' => (L.2 s hs').1⟩
  unfold evR
  cases hE : foldE (evF X) 0 f.2 f.1 with
  | ok s => rw [hE] at L; exact ev_f2 L.1
  | error s => rw [hE] at L; exact ev_f1 L.1
theorem eval_ok {n : Nat} {f : Form} {X : List Rat} {a b k : Nat} (ha : ∀ t ∈ f.1, H t.2 ≤ a) (hb : ∀ q ∈ X, H q ≤ b) (hk : H f.2 ≤ k) (hX : X.length ≤ 100000000) (hF : f.1.length ≤ 100000000) (hs : k + f.1.length * (a + b + 1) ≤ 17179869184) (hab : a + b ≤ 17179869184)
    (hv : ∀ t ∈ f.1, 0 ≤ t.1 ∧ t.1 < (X.length : Int)) :
    run n 99 [formV f, .sl 3 (X.map ratC)] = some (.tup [ratV (evV X f), .lit (.int .i64 0)]) ∧ H (evV X f) ≤ k + f.1.length * (a + b + 1) := by
  have h := eval_c (n := n) ha hb hk hX hF hs hab
  have e : foldE (evF X) 0 f.2 f.1 = .ok (evV X f) := evF_ok 0 f.2 hv
  refine ⟨?_, h.2 _ e⟩
  have h1 := h.1
  unfold evR at h1
  rw [e] at h1
  exact h1
end Go.Proofs.YtlpmemelhlnfbaaGreatDoor
set_option linter.all false
set_option maxRecDepth 100000
set_option maxHeartbeats 6400000
namespace Go.Proofs.YtlpmemelhlnfbaaGreatDoor
open Go.RowKit
attribute [local irreducible] run runL loopG exec

/-- the terms of a small form over the first i variables -/
structure SmL (i : Nat) (l : List (Int × Rat)) : Prop where
  len : l.length ≤ i
  sorted : l.Pairwise (fun a b => a.1 < b.1)
  each : ∀ t ∈ l, 0 ≤ t.1 ∧ t.1 < (i : Int) ∧ t.2 ≠ 0 ∧ H t.2 ≤ 2
theorem SmL.nil (i : Nat) : SmL i [] := ⟨by simp, List.Pairwise.nil, fun t ht => by cases ht⟩
theorem SmL.step {i : Nat} {l : List (Int × Rat)} {q : Rat} (h : SmL i l) (hq : H q ≤ 2) : SmL (i + 1) (l ++ put1 (i : Int) q) := by
  by_cases h0 : q = 0
  · have e : put1 (i : Int) q = [] := by unfold put1; rw [if_pos h0]
    rw [e, List.append_nil]
    exact ⟨by have := h.len; omega, h.sorted, fun t ht => by obtain ⟨h1, h2, h3⟩ := h.each t ht; exact ⟨h1, by omega, h3⟩⟩
  · have e : put1 (i : Int) q = [((i : Int), q)] := by unfold put1; rw [if_neg h0]
    rw [e]
    refine ⟨by rw [List.length_append]; have := h.len; simp; omega, ?_, fun t ht => ?_⟩
    · rw [List.pairwise_append]
      refine ⟨h.sorted, List.pairwise_singleton _ _, fun a ha b hb => ?_⟩
      rw [List.mem_singleton.1 hb]
      exact (h.each a ha).2.1
    · rcases List.mem_append.1 ht with h9 | h9
      · obtain ⟨h1, h2, h3⟩ := h.each t h9
        exact ⟨h1, by omega, h3⟩
      · rw [List.mem_singleton.1 h9]
        exact ⟨by show (0 : Int) ≤ (i : Int); omega, by show (i : Int) < ((i + 1 : Nat) : Int); omega, h0, hq⟩
theorem SmL.up {i : Nat} {l : List (Int × Rat)} (h : SmL i l) : SmL (i + 1) l := ⟨Nat.le_succ_of_le h.len, h.sorted, fun t ht => by have h1 := h.each t ht; exact ⟨h1.1, by omega, h1.2.2.1, h1.2.2.2⟩⟩
/-- a small form over n variables -/
structure SmF (n : Nat) (f : Form) : Prop where
  l : SmL n f.1
  k : H f.2 ≤ 2
section
variable {n : Nat} {bs : List Int} {k : Nat}
/-- a small graph -/
structure GrOk (g : TGraph) : Prop where
  i0 : 1 ≤ g.Inputs
  i1 : g.Inputs ≤ 3
  u : g.Units.length ≤ 4
  o0 : 1 ≤ g.Outputs.length
  o1 : g.Outputs.length ≤ 3
  un : ∀ i f, g.Units[i]? = some f → SmF (g.Inputs.toNat + i) f
  ou : ∀ f ∈ g.Outputs, SmF (g.Inputs.toNat + g.Units.length) f
end
end Go.Proofs.YtlpmemelhlnfbaaGreatDoor
set_option linter.all false
set_option maxRecDepth 100000
set_option maxHeartbeats 6400000
namespace Go.Proofs.YtlpmemelhlnfbaaGreatDoor
open Go.RowKit
attribute [local irreducible] run runL loopG exec

theorem validFs_c {n : Nat} {L : List Form} {vars : Int} (hl : L.length ≤ 100000000) (hB : ∀ f ∈ L, BdF 17179869184 f) : run (n + 1) 91 [.sl 4 (L.map formC), .lit (.int .i64 vars)] = some (.lit (.bool (tv (∀ f ∈ L, OkFm f vars)))) := by
  have hG := loopG_all (O := tab (n + 1)) (P := Tryz.prog) (m := 0) (N := 19) (lives := livesOf 91) (r := 2) (C := vl_C2) (M := L.length) (enc := vl_h2 L vars) (p := fun i => tv (∀ f, L[i]? = some f → OkFm f vars)) (exN := .exit 0) (exE := .ret) (out := vl_o2b) (outE := vl_o2a) (by omega) (by simp) (by simp)
    (fun i hi hI => by
      have hx : L[i]? = some L[i] := List.getElem?_eq_getElem hi
      generalize L[i] = f at hx
      have C1 : (i : Int) < (L.length : Int) := by omega
      have W : InI ((i : Int) + 1) := ⟨by omega, by omega⟩
      have K := validF_c (n := n) (vars := vars) (hB f (List.mem_of_getElem? hx))
      have e : tv (∀ g, L[i]? = some g → OkFm g vars) = tv (OkFm f vars) := tv_iff ⟨fun h => h f hx, fun h g hg => by rw [hx] at hg; cases hg; exact h⟩
      rw [e]
      exact ⟨fun hp => vl_r2_1 C1 hx K hp W, fun hp => vl_x2_1 C1 hx K hp⟩)
    (vl_x2_2 (by omega))
  by_cases h : ∀ f ∈ L, OkFm f vars
  · rw [if_pos (fun i hi => tv_t (all_idx.2 h i hi))] at hG
    rw [tv_t h]
    exact vl_f2 hG
  · rw [if_neg (fun h2 => h (all_idx.1 fun i hi => tv_true (h2 i hi)))] at hG
    rw [tv_f h]
    exact vl_f1 hG
/-- a graph that is valid -/
structure OkGr (g : TGraph) : Prop where
  i0 : 1 ≤ g.Inputs
  i1 : g.Inputs ≤ 256
  u : (g.Units.length : Int) ≤ 1024
  o0 : 1 ≤ (g.Outputs.length : Int)
  o1 : (g.Outputs.length : Int) ≤ 256
  un : ∀ i, i < g.Units.length → ∀ f, g.Units[i]? = some f → OkFm f (g.Inputs + (i : Int))
  ou : ∀ f ∈ g.Outputs, OkFm f (g.Inputs + (g.Units.length : Int))
structure BdG (b : Nat) (g : TGraph) : Prop where
  lu : g.Units.length ≤ 100000000
  lo : g.Outputs.length ≤ 100000000
  u : ∀ f ∈ g.Units, BdF b f
  o : ∀ f ∈ g.Outputs, BdF b f
theorem validG_c {n : Nat} {g : TGraph} (hB : BdG 17179869184 g) : run (n + 2) 25 [graphV g] = some (.lit (.bool (tv (OkGr g)))) := by
  have hlu := hB.lu
  have hlo := hB.lo
  by_cases c1 : g.Inputs < 1
  · rw [tv_f (fun h => by have := h.i0; omega)]; exact vg_f1 c1
  by_cases c2 : 256 < g.Inputs
  · rw [tv_f (fun h => by have := h.i1; omega)]; exact vg_f2 c1 c2
  by_cases c3 : 1024 < (g.Units.length : Int)
  · rw [tv_f (fun h => by have := h.u; omega)]; exact vg_f3 c1 c2 c3
  by_cases c4 : (g.Outputs.length : Int) < 1
  · rw [tv_f (fun h => by have := h.o0; omega)]; exact vg_f4 c1 c2 c3 c4
  by_cases c5 : 256 < (g.Outputs.length : Int)
  · rw [tv_f (fun h => by have := h.o1; omega)]; exact vg_f5 c1 c2 c3 c4 c5
  have hG := loopG_all (O := tab (n + 2)) (P := Tryz.prog) (m := 0) (N := 57) (lives := livesOf 25) (r := 4) (C := vg_C4) (M := g.Units.length) (enc := vg_h4 g) (p := fun i => tv (∀ f, g.Units[i]? = some f → OkFm f (g.Inputs + (i : Int)))) (exN := .exit 0) (exE := .ret) (out := vg_o4b g) (outE := vg_o4a g) (by omega) (by simp) (by simp)
    (fun i hi hI => by
      have hx : g.Units[i]? = some g.Units[i] := List.getElem?_eq_getElem hi
      generalize g.Units[i] = f at hx
      have C1 : (i : Int) < (g.Units.length : Int) := by omega
      have W : InI ((i : Int) + 1) := ⟨by omega, by omega⟩
      have W2 : InI (g.Inputs + (i : Int)) := ⟨by omega, by omega⟩
      have K := validF_c (n := n + 1) (vars := g.Inputs + (i : Int)) (hB.u f (List.mem_of_getElem? hx))
      have e : tv (∀ f, g.Units[i]? = some f → OkFm f (g.Inputs + (i : Int))) = tv (OkFm f (g.Inputs + (i : Int))) := tv_iff ⟨fun h => h f hx, fun h g hg => by rw [hx] at hg; cases hg; exact h⟩
      rw [e]
      exact ⟨fun hp => vg_r4_1 C1 hx W2 K hp W, fun hp => vg_x4_1 C1 hx W2 K hp⟩)
    (vg_x4_2 (by omega))
  by_cases h : ∀ i, i < g.Units.length → ∀ f, g.Units[i]? = some f → OkFm f (g.Inputs + (i : Int))
  · rw [if_pos (fun i hi => tv_t (h i hi))] at hG
    have K := validFs_c (n := n) (vars := g.Inputs + (g.Units.length : Int)) hlo hB.o
    have e : tv (OkGr g) = tv (∀ f ∈ g.Outputs, OkFm f (g.Inputs + (g.Units.length : Int))) := tv_iff ⟨fun k => k.ou, fun k => ⟨by omega, by omega, by omega, by omega, by omega, h, k⟩⟩
    rw [e]
    exact vg_f7 c1 c2 c3 c4 c5 hG ⟨by omega, by omega⟩ K
  · rw [if_neg (fun h2 => h fun i hi => tv_true (h2 i hi))] at hG
    rw [tv_f (fun k => h k.un)]
    exact vg_f6 c1 c2 c3 c4 c5 hG
/-- small things are valid -/
theorem SmF.ok {N : Nat} {f : Form} {vars : Int} (h : SmF N f) (hv : (N : Int) ≤ vars) : OkFm f vars := fun i hi v c hx => by
  obtain ⟨a1, a2, a3, a4⟩ := h.l.each _ (List.mem_of_getElem? hx)
  dsimp only at a1 a2 a3
  refine ⟨a1, by omega, a3, fun v' c' h0 hy => ?_⟩
  obtain ⟨l1, e1⟩ := List.getElem?_eq_some_iff.1 hx
  obtain ⟨l2, e2⟩ := List.getElem?_eq_some_iff.1 hy
  have := List.pairwise_iff_getElem.1 h.l.sorted (i - 1) i l2 l1 (by omega)
  rw [e1, e2] at this
  exact this
theorem SmF.bd {N : Nat} {f : Form} (h : SmF N f) (hN : N ≤ 100000000) : BdF 2 f := ⟨by have := h.l.len; omega, fun t ht => (h.l.each t ht).2.2.2, h.k⟩
theorem GrOk.ok {g : TGraph} (h : GrOk g) : OkGr g := by
  have := h.i0
  have := h.i1
  have := h.u
  have := h.o0
  have := h.o1
  exact ⟨by omega, by omega, by omega, by omega, by omega, fun i hi f hf => (h.un i f hf).ok (by omega), fun f hf => (h.ou f hf).ok (by omega)⟩
theorem GrOk.bd {g : TGraph} (h : GrOk g) : BdG 2 g := by
  have := h.i0
  have := h.i1
  have := h.u
  have := h.o1
  refine ⟨by omega, by omega, fun f hf => ?_, fun f hf => (h.ou f hf).bd (by omega)⟩
  obtain ⟨i, hi⟩ := List.mem_iff_getElem?.1 hf
  have := (List.getElem?_eq_some_iff.1 hi).1
  exact (h.un i f hi).bd (by omega)
theorem BdG.mono {b c : Nat} {g : TGraph} (h : BdG b g) (hb : b ≤ c) : BdG c g := ⟨h.lu, h.lo, fun f hf => (h.u f hf).mono hb, fun f hf => (h.o f hf).mono hb⟩
end Go.Proofs.YtlpmemelhlnfbaaGreatDoor
set_option linter.all false
set_option maxRecDepth 100000
set_option maxHeartbeats 6400000
namespace Go.Proofs.YtlpmemelhlnfbaaGreatDoor
open Go.RowKit
attribute [local irreducible] run runL loopG exec

/-- the greater one of a number and 0 -/
def max0 (q : Rat) : Rat := if 0 ≤ q then q else 0
theorem max0_H (q : Rat) : H (max0 q) ≤ H q := by
  unfold max0
  split
  · exact Nat.le_refl _
  · have : H 0 ≤ 1 := by decide
    have h2 : H 0 = 1 ∨ H 0 = 0 := by decide
    unfold H
    have : (lmb (q.den)).length ≥ 1 := by
      have := q.den_pos
      rcases Nat.eq_zero_or_pos (lmb q.den).length with h | h
      · have e : lmb q.den = [] := List.eq_nil_of_length_eq_zero h
        have e2 := val_lmb q.den
        rw [e] at e2
        have : q.den = 0 := by rw [← e2]; rfl
        omega
      · exact h
    have h3 : (max (lmb (0 : Rat).num.natAbs).length (lmb (0 : Rat).den).length) ≤ 1 := by decide
    omega
theorem max0_c {n : Nat} {q : Rat} (hq : H q ≤ 17179869184) : run n 100 [ratV q, .agg [.lit (.bool false), .sl 1 [], .sl 1 []]] = some (ratV (max0 q)) := by
  have e : ratV 0 = .agg [.lit (.bool false), .sl 1 [], .sl 1 []] := by simp
  have e2 : q - 0 = q := by grind
  rw [← e]
  have h0 : H 0 ≤ 17179869184 := by decide
  unfold max0
  split
  · rename_i h
    exact mx_f1 hq h0 (by rw [e2]; exact sgq_nonneg.2 h)
  · rename_i h
    exact mx_f2 hq h0 (by rw [e2]; exact fun h2 => h (sgq_nonneg.1 h2))
/-- the values of a graph's variables -/
def valV (U : List Form) (X : List Rat) : List Rat := foldI (fun _ out f => out ++ [max0 (evV out f)]) 0 X U
def bndV (a l b : Nat) : Nat → Nat
  | 0 => b
  | i + 1 => bndV a l b i + a + l * (a + bndV a l b i + 1)
theorem bndV_mono (a l b : Nat) : ∀ {i j : Nat}, i ≤ j → bndV a l b i ≤ bndV a l b j
  | i, 0, h => by
    have e : i = 0 := by omega
    subst e
    exact Nat.le_refl _
  | i, j + 1, h => by
    by_cases e : i = j + 1
    · subst e; exact Nat.le_refl _
    · have := bndV_mono a l b (i := i) (j := j) (by omega)
      rw [bndV]; omega
theorem values_c {n : Nat} {g : TGraph} {X : List Rat} {a l b : Nat} (hG : OkGr g) (hB : BdG a g) (ha : a ≤ 1000000) (hl : ∀ f ∈ g.Units, f.1.length ≤ l) (hX : (X.length : Int) = g.Inputs) (hb : ∀ q ∈ X, H q ≤ b) (hbnd : bndV a l b g.Units.length ≤ 100000000) :
    run (n + 3) 35 [graphV g, .sl 3 (X.map ratC)] = some (.tup [.sl 3 ((valV g.Units X).map ratC), .lit (.int .i64 0)]) ∧ (∀ q ∈ valV g.Units X, H q ≤ bndV a l b g.Units.length) ∧ (valV g.Units X).length = X.length + g.Units.length := by
  have hi0 := hG.i0
  have hi1 := hG.i1
  have hu := hG.u
  have K := validG_c (n := n) (hB.mono (by omega))
  rw [tv_t hG] at K
  have hb0 : b ≤ 100000000 := Nat.le_trans (bndV_mono a l b (Nat.zero_le _)) hbnd
  have L1 := (loopG_I (O := tab (n + 3)) (P := Tryz.prog) (m := 0) (N := 59) (lives := livesOf 35) (r := 5) (C := vs_C5) (L := X) (f := fun _ o x => o ++ [x]) (enc := fun i o => vs_h5 g X o i) (exN := .exit 0) (out := fun o => vs_o5a g o) (Inv := fun i o => o.length = i) [] rfl (by omega) (by simp)
    (fun i x o hi hI => by
      have hlt := (List.getElem?_eq_some_iff.1 hi).1
      have := hb x (List.mem_of_getElem? hi)
      exact ⟨vs_r5_1 (by omega) hi (by omega) (by omega) ⟨by omega, by omega⟩, by rw [List.length_append, hI]; rfl⟩)
    (fun o hI => vs_x5_1 (by omega))).1
  have key : ∀ (R : List Rat) (i : Nat) (o : List Rat), foldI (fun _ o x => o ++ [x]) i o R = o ++ R := fun R => by
    induction R with
    | nil => intro i o; simp [foldI]
    | cons x R ih => intro i o; rw [foldI, ih]; simp
  rw [key, List.nil_append] at L1
  have L2 := loopG_I (O := tab (n + 3)) (P := Tryz.prog) (m := 0) (N := 59) (lives := livesOf 35) (r := 9) (C := vs_C9) (L := g.Units) (f := fun _ (o : List Rat × Nat) f => (o.1 ++ [max0 (evV o.1 f)], o.1.length)) (enc := fun i o => vs_h9 g o.1 i o.2) (exN := .exit 2) (out := fun o => vs_o9a o.1 o.2) (Inv := fun i o => o.1.length = X.length + i ∧ (∀ q ∈ o.1, H q ≤ bndV a l b i) ∧ i ≤ g.Units.length) (X, 0) ⟨rfl, hb, by omega⟩ (by omega) (by simp)
    (fun i f o hi hI => by
      obtain ⟨o, fz⟩ := o
      obtain ⟨h1, h2, h3⟩ := hI
      dsimp only at h1 h2
      have hlt := (List.getElem?_eq_some_iff.1 hi).1
      have hf := List.mem_of_getElem? hi
      have hBf := hB.u f hf
      have hlf := hl f hf
      have hOk := hG.un i hlt f hi
      have hm : bndV a l b (i + 1) ≤ bndV a l b g.Units.length := bndV_mono a l b hlt
      have e1 : bndV a l b (i + 1) = bndV a l b i + a + l * (a + bndV a l b i + 1) := rfl
      have hmul : f.1.length * (a + bndV a l b i + 1) ≤ l * (a + bndV a l b i + 1) := Nat.mul_le_mul_right _ hlf
      have hE := eval_ok (n := n + 2) (f := f) (X := o) hBf.t h2 hBf.k (by omega) hBf.l (by omega) (by omega) (fun t ht => by
        obtain ⟨j, hj⟩ := List.mem_iff_getElem?.1 ht
        have := hOk j (List.getElem?_eq_some_iff.1 hj).1 t.1 t.2 hj
        exact ⟨this.1, by omega⟩)
      have hM := max0_c (n := n + 2) (q := evV o f) (by omega)
      have hH := max0_H (evV o f)
      have hk := hBf.k
      have hE2 := hE.2
      dsimp only
      refine ⟨vs_r9_1 (r8 := evV o f) (by omega) hi hE.1 hM (by omega) ⟨by omega, by omega⟩, by rw [List.length_append, h1]; rfl, fun q hq => ?_, hlt⟩
      rcases List.mem_append.1 hq with h | h
      · exact Nat.le_trans (h2 q h) (bndV_mono a l b (by omega))
      · rw [List.mem_singleton.1 h]; omega)
    (fun o hI => vs_x9_1 (by omega))
  have key2 : ∀ (U : List Form) (i : Nat) (o : List Rat) (z : Nat), (foldI (fun _ (o : List Rat × Nat) f => (o.1 ++ [max0 (evV o.1 f)], o.1.length)) i (o, z) U).1 = foldI (fun _ out f => out ++ [max0 (evV out f)]) i o U := fun U => by
    induction U with
    | nil => intro i o z; rfl
    | cons f U ih => intro i o z; exact ih (i + 1) _ _
  have e : (foldI (fun _ (o : List Rat × Nat) f => (o.1 ++ [max0 (evV o.1 f)], o.1.length)) 0 (X, 0) g.Units).1 = valV g.Units X := key2 _ _ _ _
  obtain ⟨L3, h1, h2, _⟩ := L2
  rw [e] at L3 h1 h2
  exact ⟨vs_f3 K rfl hX L1 L3, h2, h1⟩
end Go.Proofs.YtlpmemelhlnfbaaGreatDoor
set_option linter.all false
namespace Go.Proofs.YtlpmemelhlnfbaaGreatDoor
open Go.RowKit

def Srt (F : List (Int × Rat)) : Prop := F.Pairwise (fun a b => a.1 < b.1) ∧ ∀ t ∈ F, t.2 ≠ 0
def LBd (k : Int) (F : List (Int × Rat)) : Prop := ∀ t ∈ F, k < t.1
theorem Srt.nil : Srt [] := ⟨List.Pairwise.nil, fun t ht => by cases ht⟩
theorem Srt.tail {t : Int × Rat} {F : List (Int × Rat)} (h : Srt (t :: F)) : Srt F := ⟨(List.pairwise_cons.1 h.1).2, fun u hu => h.2 u (by simp [hu])⟩
theorem Srt.head {t : Int × Rat} {F : List (Int × Rat)} (h : Srt (t :: F)) : LBd t.1 F := fun u hu => (List.pairwise_cons.1 h.1).1 u hu
theorem Srt.nz {t : Int × Rat} {F : List (Int × Rat)} (h : Srt (t :: F)) : t.2 ≠ 0 := h.2 t (by simp)
theorem LBd.mono {F : List (Int × Rat)} {k j : Int} (h : LBd k F) (hj : j ≤ k) : LBd j F := fun t ht => by have := h t ht; omega
end Go.Proofs.YtlpmemelhlnfbaaGreatDoor
set_option linter.all false
set_option maxRecDepth 100000
set_option maxHeartbeats 6400000
namespace Go.Proofs.YtlpmemelhlnfbaaGreatDoor
open Go.RowKit
attribute [local irreducible] run runL loopG exec

theorem sal_same {n : Nat} {L : List Rat} (hl : L.length ≤ 100000000) (hB : ∀ q ∈ L, H q ≤ 17179869184) : run n 38 [.sl 3 (L.map ratC), .sl 3 (L.map ratC)] = some (.lit (.bool true)) := by
  refine sal_f3 rfl (loopG_I (O := tab n) (P := Tryz.prog) (m := 0) (N := 27) (lives := livesOf 38) (r := 4) (C := sal_C4) (L := L) (f := fun _ (b : Unit) _ => b) (enc := fun i _ => sal_h4 L L i) (exN := .exit 0) (out := fun _ => sal_o4b) (Inv := fun _ _ => True) () trivial (by omega) (by simp)
    (fun i x b hi hI => by
      have hlt := (List.getElem?_eq_some_iff.1 hi).1
      have hx := hB x (List.mem_of_getElem? hi)
      exact ⟨sal_r4_1 (by omega) hi hi hx hx rfl ⟨by omega, by omega⟩, trivial⟩)
    (fun b hI => sal_x4_2 (by omega))).1
end Go.Proofs.YtlpmemelhlnfbaaGreatDoor
