/- relucertref07: nonzero, plus, Add, Scale, Var, Eval: what they return. Valid forms (relucertref07): what the call returns; the truth value; bounds of forms. relucertref07.Eval: what it returns. Sorted lists of terms without zeros: sums and multiples, as the program and as the reference build them, are the same. Forms whose numbers need not be canonical; relucertref07.Valid of them. linear.Valid of forms whose numbers need not be canonical. -/
import Derived.Test.YtlpmemelhlnfbaaGreatDoorGA7
import Derived.Test.YtlpmemelhlnfbaaGreatDoorGA11
set_option linter.all false
set_option linter.all false
set_option maxRecDepth 100000
set_option maxHeartbeats 6400000
namespace Go.Proofs.YtlpmemelhlnfbaaGreatDoor
open Go.RowKit

end Go.Proofs.YtlpmemelhlnfbaaGreatDoor
set_option linter.all false
set_option maxRecDepth 100000
set_option maxHeartbeats 6400000
namespace Go.Proofs.YtlpmemelhlnfbaaGreatDoor
open Go.RowKit
attribute [local irreducible] run runL loopG exec
/-- the truth value -/
noncomputable def tv (p : Prop) : Bool := @decide p (Classical.propDecidable p)
theorem tv_t {p : Prop} (h : p) : tv p = true := @decide_eq_true p (Classical.propDecidable p) h
theorem tv_f {p : Prop} (h : ¬ p) : tv p = false := @decide_eq_false p (Classical.propDecidable p) h
theorem tv_true {p : Prop} (h : tv p = true) : p := @of_decide_eq_true p (Classical.propDecidable p) h
theorem tv_false {p : Prop} (h : tv p = false) : ¬ p := @of_decide_eq_false p (Classical.propDecidable p) h
theorem tv_iff {p q : Prop} (h : p ↔ q) : tv p = tv q := by rw [propext h]
/-- term i of a form stands in order -/
def OkTm (F : List (Int × Rat)) (vars : Int) (i : Nat) : Prop := ∀ v c, F[i]? = some (v, c) → 0 ≤ v ∧ v < vars ∧ c ≠ 0 ∧ ∀ v' c', 0 < i → F[i - 1]? = some (v', c') → v' < v
def OkFm (f : Form) (vars : Int) : Prop := ∀ i, i < f.1.length → OkTm f.1 vars i
/-- bounds of a form -/
structure BdF (b : Nat) (f : Form) : Prop where
  l : f.1.length ≤ 100000000
  t : ∀ t ∈ f.1, H t.2 ≤ b
  k : H f.2 ≤ b
theorem BdF.mono {b c : Nat} {f : Form} (h : BdF b f) (hb : b ≤ c) : BdF c f := ⟨h.l, fun t ht => Nat.le_trans (h.t t ht) hb, Nat.le_trans h.k hb⟩
theorem all_idx {α : Type} {L : List α} {p : α → Prop} : (∀ i, i < L.length → ∀ x, L[i]? = some x → p x) ↔ ∀ x ∈ L, p x := by
  constructor
  · intro h x hx
    obtain ⟨i, hi⟩ := List.mem_iff_getElem?.1 hx
    exact h i (List.getElem?_eq_some_iff.1 hi).1 x hi
  · intro h i _ x hx
    exact h x (List.mem_of_getElem? hx)
end Go.Proofs.YtlpmemelhlnfbaaGreatDoor
set_option linter.all false
set_option maxRecDepth 100000
set_option maxHeartbeats 6400000
namespace Go.Proofs.YtlpmemelhlnfbaaGreatDoor
open Go.RowKit
attribute [local irreducible] run runL loopG exec

end Go.Proofs.YtlpmemelhlnfbaaGreatDoor
set_option linter.all false
namespace Go.Proofs.YtlpmemelhlnfbaaGreatDoor
open Go.RowKit

def Srt (F : List (Int × Rat)) : Prop := F.Pairwise (fun a b => a.1 < b.1) ∧ ∀ t ∈ F, t.2 ≠ 0
def LBd (k : Int) (F : List (Int × Rat)) : Prop := ∀ t ∈ F, k < t.1
theorem Srt.nil : Srt [] := ⟨List.Pairwise.nil, fun t ht => by cases ht⟩
theorem Srt.tail {t : Int × Rat} {F : List (Int × Rat)} (h : Srt (t :: F)) : Srt F := ⟨(List.pairwise_cons.1 h.1).2, fun u hu => h.2 u (by simp [hu])⟩
theorem Srt.head {t : Int × Rat} {F : List (Int × Rat)} (h : Srt (t :: F)) : LBd t.1 F := fun u hu => (List.pairwise_cons.1 h.1).1 u hu
theorem Srt.nz {t : Int × Rat} {F : List (Int × Rat)} (h : Srt (t :: F)) : t.2 ≠ 0 := h.2 t (by simp)
theorem LBd.mono {F : List (Int × Rat)} {k j : Int} (h : LBd k F) (hj : j ≤ k) : LBd j F := fun t ht => by have := h t ht; omega
/-- canonical forms are sorted -/
theorem OkFm.srt {f : Form} {vars : Int} (h : OkFm f vars) : Srt f.1 ∧ ∀ t ∈ f.1, 0 ≤ t.1 ∧ t.1 < vars := by
  have key : ∀ (i : Nat) (hi : i < f.1.length), 0 ≤ (f.1[i]).1 ∧ (f.1[i]).1 < vars ∧ (f.1[i]).2 ≠ 0 ∧ ∀ (h0 : 0 < i), (f.1[i - 1]'(by omega)).1 < (f.1[i]).1 := fun i hi => by
    obtain ⟨a1, a2, a3, a4⟩ := h i hi (f.1[i]).1 (f.1[i]).2 (List.getElem?_eq_getElem hi)
    exact ⟨a1, a2, a3, fun h0 => a4 _ (f.1[i - 1]'(by omega)).2 h0 (List.getElem?_eq_getElem _)⟩
  have ord : ∀ (j i : Nat) (hj : j < f.1.length) (hij : i < j), (f.1[i]'(by omega)).1 < (f.1[j]).1 := fun j => by
    induction j with
    | zero => intro i hj hij; omega
    | succ j ih =>
      intro i hj hij
      have h1 := (key (j + 1) hj).2.2.2 (by omega)
      have h2 : (f.1[j + 1 - 1]'(by omega)) = f.1[j]'(by omega) := rfl
      rw [h2] at h1
      by_cases e : i = j
      · subst e; exact h1
      · have := ih i (by omega) (by omega); omega
  refine ⟨⟨List.pairwise_iff_getElem.2 fun i j hi hj hij => ord j i hj hij, fun t ht => ?_⟩, fun t ht => ?_⟩
  · obtain ⟨i, hi, rfl⟩ := List.getElem_of_mem ht
    exact (key i hi).2.2.1
  · obtain ⟨i, hi, rfl⟩ := List.getElem_of_mem ht
    exact ⟨(key i hi).1, (key i hi).2.1⟩
end Go.Proofs.YtlpmemelhlnfbaaGreatDoor
set_option linter.all false
set_option maxRecDepth 100000
set_option maxHeartbeats 6400000
namespace Go.Proofs.YtlpmemelhlnfbaaGreatDoor
open Go.RowKit
attribute [local irreducible] run runL loopG exec

/-- a form as it came in -/
def frV (f : FormR) : AV := .agg [.sl 4 (f.1.map termRC), .lit (.bool f.2.s), natA f.2.l1, natA f.2.l2]
def LimR2 (r : Raw) : Prop := Lim r.l1 ∧ Lim r.l2
structure LimF (f : FormR) : Prop where
  t : ∀ t ∈ f.1, LimR2 t.2
  k : LimR2 f.2
def Two (r : Raw) : Prop := r.l1.length ≤ 2 ∧ r.l2.length ≤ 2
theorem Two.rb {r : Raw} (h : Two r) (hl : LimR2 r) : RawB r := ⟨hl.1, hl.2, by have := h.1; omega, by have := h.2; omega⟩
def Cn (r : Raw) : Prop := RatV r.s r.l1 r.l2
theorem Cn.raw {r : Raw} (h : Cn r) : r = rawQ r.q := by
  obtain ⟨s, l1, l2⟩ := r
  obtain ⟨h1, h2, h3⟩ := h
  dsimp only at h1 h2 h3
  unfold Raw.q rawQ
  dsimp only
  rw [← h1, ← h2, ← h3]
theorem dlmb_H (d : Nat) : (lmb d).length ≤ max 1 (dlmb d).length := by
  unfold dlmb
  split
  · rename_i h; subst h; rw [lmb_one]; simp
  · exact Nat.le_max_right _ _
theorem Cn.HB {r : Raw} {m : Nat} (h : Cn r) (hm : 1 ≤ m) (h1 : r.l1.length ≤ m) (h2 : r.l2.length ≤ m) : H r.q ≤ m := by
  have e := h.raw
  have a1 : (lmb r.q.num.natAbs).length ≤ m := by have := congrArg Raw.l1 e; rw [this] at h1; exact h1
  have a2 : (dlmb r.q.den).length ≤ m := by have := congrArg Raw.l2 e; rw [this] at h2; exact h2
  have a3 := dlmb_H r.q.den
  unfold Go.Proofs.YtlpmemelhlnfbaaGreatDoor.H
  omega
theorem Cn.H {r : Raw} (h : Cn r) (ht : Two r) : H r.q ≤ 2 := h.HB (by omega) ht.1 ht.2
def OkTmR (F : List (Int × Raw)) (vars : Int) (i : Nat) : Prop := ∀ v c, F[i]? = some (v, c) → 0 ≤ v ∧ v < vars ∧ c.q ≠ 0 ∧ Cn c ∧ ∀ v' c', 0 < i → F[i - 1]? = some (v', c') → v' < v
def OkFR (f : FormR) (vars : Int) : Prop := (∀ i, i < f.1.length → OkTmR f.1 vars i) ∧ Cn f.2
theorem validRB_c {n : Nat} {f : FormR} {vars : Int} (h8 : f.1.length ≤ 100000) (hrbs : ∀ t ∈ f.1, RawB t.2) (hkb : RawB f.2) : run n 51 [frV f, .lit (.int .i64 vars)] = some (.lit (.bool (tv (OkFR f vars)))) := by
  have L := loopG_all (O := tab n) (P := Tryz.prog) (m := 0) (N := 59) (lives := livesOf 51) (r := 2) (C := vaR_C2) (M := f.1.length) (enc := vaR_h2 f vars) (p := fun i => tv (OkTmR f.1 vars i)) (exN := .exit 0) (exE := .ret) (out := vaR_o2b f) (outE := vaR_o2a f) (by omega) (fun h => by cases h) (fun h => by cases h)
    (fun i hi _ => by
      have hx : f.1[i]? = some f.1[i] := List.getElem?_eq_getElem hi
      obtain ⟨t, ht⟩ : ∃ t, f.1[i] = t := ⟨_, rfl⟩
      rw [ht] at hx
      obtain ⟨v, r⟩ := t
      have hm : (v, r) ∈ f.1 := List.mem_of_getElem? hx
      have hrb : RawB r := hrbs _ hm
      have C1 : (i : Int) < (f.1.length : Int) := by omega
      have hp : 0 < i → ∃ v' r', f.1[i - 1]? = some (v', r') := fun h0 => ⟨(f.1[i - 1]'(by omega)).1, (f.1[i - 1]'(by omega)).2, List.getElem?_eq_getElem _⟩
      refine ⟨fun hp' => ?_, fun hp' => ?_⟩
      · obtain ⟨a1, a2, a3, a4, a5⟩ := tv_true hp' v r hx
        have s0 : ¬ sgR r.q = 0 := fun h => a3 (sgR_eq_zero.1 h)
        by_cases h0 : 0 < i
        · obtain ⟨v', r', hx'⟩ := hp h0
          have := a5 v' r' h0 hx'
          exact vaR_r2_1 C1 hx (by omega) (by omega) (by omega) ⟨by omega, by omega⟩ hx' (by omega) (by omega) hrb s0 a4 ⟨by omega, by omega⟩
        · exact vaR_r2_2 C1 hx (by omega) (by omega) (by omega) hrb s0 a4 ⟨by omega, by omega⟩
      · have hq := tv_false hp'
        by_cases b1 : v < 0
        · exact vaR_x2_1 C1 hx b1
        by_cases b2 : vars ≤ v
        · exact vaR_x2_2 C1 hx b1 b2
        by_cases h0 : 0 < i
        · obtain ⟨v', r', hx'⟩ := hp h0
          by_cases b3 : v ≤ v'
          · exact vaR_x2_3 C1 hx b1 b2 (by omega) ⟨by omega, by omega⟩ hx' (by omega) b3
          by_cases b4 : sgR r.q = 0
          · exact vaR_x2_4 C1 hx b1 b2 (by omega) ⟨by omega, by omega⟩ hx' (by omega) b3 hrb b4
          refine vaR_x2_5 C1 hx b1 b2 (by omega) ⟨by omega, by omega⟩ hx' (by omega) b3 hrb b4 fun b5 => hq fun v2 c2 h2 => ?_
          rw [hx] at h2; cases h2
          refine ⟨by omega, by omega, fun h => b4 (sgR_eq_zero.2 h), b5, fun v3 c3 _ h3 => ?_⟩
          rw [hx'] at h3; cases h3
          omega
        · by_cases b4 : sgR r.q = 0
          · exact vaR_x2_6 C1 hx b1 b2 (by omega) hrb b4
          refine vaR_x2_7 C1 hx b1 b2 (by omega) hrb b4 fun b5 => hq fun v2 c2 h2 => ?_
          rw [hx] at h2; cases h2
          exact ⟨by omega, by omega, fun h => b4 (sgR_eq_zero.2 h), b5, fun v3 c3 h9 h3 => absurd h9 h0⟩)
    (vaR_x2_8 (by omega))
  by_cases hA : ∀ i, i < f.1.length → tv (OkTmR f.1 vars i) = true
  · rw [if_pos hA] at L
    have h := vaR_f2 L hkb
    have e : decide (RatV f.2.s f.2.l1 f.2.l2) = tv (OkFR f vars) := by
      by_cases hk : Cn f.2
      · rw [tv_t ⟨fun i hi => tv_true (hA i hi), hk⟩]; exact decide_eq_true hk
      · rw [tv_f fun h => hk h.2]; exact decide_eq_false hk
    rw [e] at h
    exact h
  · rw [if_neg hA] at L
    rw [tv_f fun h => hA fun i hi => tv_t (h.1 i hi)]
    exact vaR_f1 L
def unR (f : FormR) : Form := (f.1.map fun t => (t.1, t.2.q), f.2.q)
theorem small_formB {f : FormR} {vars : Int} {m : Nat} (hm : 1 ≤ m) (ht : ∀ t ∈ f.1, t.2.l1.length ≤ m ∧ t.2.l2.length ≤ m) (hk : f.2.l1.length ≤ m ∧ f.2.l2.length ≤ m) (ho : OkFR f vars) : frV f = formV (unR f) ∧ (unR f).1.length = f.1.length ∧ (∀ t ∈ (unR f).1, H t.2 ≤ m) ∧ H (unR f).2 ≤ m ∧ OkFm (unR f) vars := by
  have hc : ∀ t ∈ f.1, Cn t.2 := fun t ht => by
    obtain ⟨i, hi⟩ := List.mem_iff_getElem?.1 ht
    exact (ho.1 i (List.getElem?_eq_some_iff.1 hi).1 t.1 t.2 hi).2.2.2.1
  refine ⟨?_, by simp [unR], fun t h9 => ?_, ho.2.HB hm hk.1 hk.2, fun i hi v c h => ?_⟩
  · have e1 : f.1.map termRC = (unR f).1.map termC := by
      simp only [unR, List.map_map]
      apply List.map_congr_left
      intro t ht
      have e := (hc t ht).raw
      simp only [Function.comp, termRC, termC, ratC]
      rw [← e]
    have e2 := ho.2.raw
    unfold frV
    simp only [formV, e1]
    have e3 : rawQ (unR f).2 = f.2 := e2.symm
    rw [e3]
  · simp only [unR, List.mem_map] at h9
    obtain ⟨u, hu, rfl⟩ := h9
    exact (hc u hu).HB hm (ht u hu).1 (ht u hu).2
  · simp only [unR, List.length_map] at hi
    simp only [unR, List.getElem?_map] at h
    obtain ⟨u, hu, he⟩ := Option.map_eq_some_iff.1 h
    cases he
    obtain ⟨a1, a2, a3, _, a5⟩ := ho.1 i hi u.1 u.2 hu
    refine ⟨a1, a2, a3, fun v' c' h0 h' => ?_⟩
    simp only [unR, List.getElem?_map] at h'
    obtain ⟨u', hu', he'⟩ := Option.map_eq_some_iff.1 h'
    cases he'
    exact a5 u'.1 u'.2 h0 hu'
end Go.Proofs.YtlpmemelhlnfbaaGreatDoor
set_option linter.all false
set_option maxRecDepth 100000
set_option maxHeartbeats 6400000
namespace Go.Proofs.YtlpmemelhlnfbaaGreatDoor
open Go.RowKit
attribute [local irreducible] run runL loopG exec

theorem lvalidRB_c {n : Nat} {f : FormR} {vars : Int} (h8 : f.1.length ≤ 100000) (hrbs : ∀ t ∈ f.1, RawB t.2) (hkb : RawB f.2) : run n 60 [frV f, .lit (.int .i64 vars)] = some (.lit (.bool (tv (OkFR f vars)))) := by
  have L := loopG_all (O := tab n) (P := Tryz.prog) (m := 0) (N := 56) (lives := livesOf 60) (r := 2) (C := lvaR_C2) (M := f.1.length) (enc := lvaR_h2 f vars) (p := fun i => tv (OkTmR f.1 vars i)) (exN := .exit 0) (exE := .ret) (out := lvaR_o2b f) (outE := lvaR_o2a f) (by omega) (fun h => by cases h) (fun h => by cases h)
    (fun i hi _ => by
      have hx : f.1[i]? = some f.1[i] := List.getElem?_eq_getElem hi
      obtain ⟨t, ht⟩ : ∃ t, f.1[i] = t := ⟨_, rfl⟩
      rw [ht] at hx
      obtain ⟨v, r⟩ := t
      have hm : (v, r) ∈ f.1 := List.mem_of_getElem? hx
      have hrb : RawB r := hrbs _ hm
      have C1 : (i : Int) < (f.1.length : Int) := by omega
      have hp : 0 < i → ∃ v' r', f.1[i - 1]? = some (v', r') := fun h0 => ⟨(f.1[i - 1]'(by omega)).1, (f.1[i - 1]'(by omega)).2, List.getElem?_eq_getElem _⟩
      refine ⟨fun hp' => ?_, fun hp' => ?_⟩
      · obtain ⟨a1, a2, a3, a4, a5⟩ := tv_true hp' v r hx
        have s0 : ¬ sgR r.q = 0 := fun h => a3 (sgR_eq_zero.1 h)
        by_cases h0 : 0 < i
        · obtain ⟨v', r', hx'⟩ := hp h0
          have := a5 v' r' h0 hx'
          exact lvaR_r2_1 C1 hx (by omega) (by omega) (by omega) ⟨by omega, by omega⟩ hx' (by omega) (by omega) hrb s0 a4 ⟨by omega, by omega⟩
        · exact lvaR_r2_2 C1 hx (by omega) (by omega) (by omega) hrb s0 a4 ⟨by omega, by omega⟩
      · have hq := tv_false hp'
        by_cases b1 : v < 0
        · exact lvaR_x2_1 C1 hx b1
        by_cases b2 : vars ≤ v
        · exact lvaR_x2_2 C1 hx b1 b2
        by_cases h0 : 0 < i
        · obtain ⟨v', r', hx'⟩ := hp h0
          by_cases b3 : v ≤ v'
          · exact lvaR_x2_3 C1 hx b1 b2 (by omega) ⟨by omega, by omega⟩ hx' (by omega) b3
          by_cases b4 : sgR r.q = 0
          · exact lvaR_x2_4 C1 hx b1 b2 (by omega) ⟨by omega, by omega⟩ hx' (by omega) b3 hrb b4
          refine lvaR_x2_5 C1 hx b1 b2 (by omega) ⟨by omega, by omega⟩ hx' (by omega) b3 hrb b4 fun b5 => hq fun v2 c2 h2 => ?_
          rw [hx] at h2; cases h2
          refine ⟨by omega, by omega, fun h => b4 (sgR_eq_zero.2 h), b5, fun v3 c3 _ h3 => ?_⟩
          rw [hx'] at h3; cases h3
          omega
        · by_cases b4 : sgR r.q = 0
          · exact lvaR_x2_6 C1 hx b1 b2 (by omega) hrb b4
          refine lvaR_x2_7 C1 hx b1 b2 (by omega) hrb b4 fun b5 => hq fun v2 c2 h2 => ?_
          rw [hx] at h2; cases h2
          exact ⟨by omega, by omega, fun h => b4 (sgR_eq_zero.2 h), b5, fun v3 c3 h9 h3 => absurd h9 h0⟩)
    (lvaR_x2_8 (by omega))
  by_cases hA : ∀ i, i < f.1.length → tv (OkTmR f.1 vars i) = true
  · rw [if_pos hA] at L
    have h := lvaR_f2 L hkb
    have e : decide (RatV f.2.s f.2.l1 f.2.l2) = tv (OkFR f vars) := by
      by_cases hk : Cn f.2
      · rw [tv_t ⟨fun i hi => tv_true (hA i hi), hk⟩]; exact decide_eq_true hk
      · rw [tv_f fun h => hk h.2]; exact decide_eq_false hk
    rw [e] at h
    exact h
  · rw [if_neg hA] at L
    rw [tv_f fun h => hA fun i hi => tv_t (h.1 i hi)]
    exact lvaR_f1 L
end Go.Proofs.YtlpmemelhlnfbaaGreatDoor
