/- The bounds of the statements about layer 7 (few, small, point): what they return; small forms are canonical. -/
import Derived.Test.YthkkmokbjmempaaGreatDoorGX
import Derived.Test.YthkkmokbjmempaaGreatDoorZa
set_option linter.all false
set_option linter.all false
set_option maxRecDepth 100000
set_option maxHeartbeats 6400000
namespace Go.Proofs.YthkkmokbjmempaaGreatDoor
open Go.RowKit
attribute [local irreducible] run runL loopG exec

/-- a form as it came in -/
def frV (f : FormR) : AV := .agg [.sl 4 (f.1.map termRC), .lit (.bool f.2.s), natA f.2.l1, natA f.2.l2]
def LimR2 (r : Raw) : Prop := Lim r.l1 ∧ Lim r.l2
structure LimF (f : FormR) : Prop where
  t : ∀ t ∈ f.1, LimR2 t.2
  k : LimR2 f.2
def Two (r : Raw) : Prop := r.l1.length ≤ 2 ∧ r.l2.length ≤ 2
def FewR (l : List (Int × Raw)) (c : Raw) : Prop := l.length ≤ 8 ∧ Two c ∧ ∀ t ∈ l, Two t.2
theorem tv_dec {p : Prop} (h : p ∨ ¬ p) : tv p = true ∨ tv p = false := by cases tv p <;> simp
theorem few_c {n : Nat} {l : List (Int × Raw)} {c : Raw} : run n 46 [.sl 4 (l.map termRC), .agg [.lit (.bool c.s), natA c.l1, natA c.l2]] = some (.lit (.bool (tv (FewR l c)))) := by
  by_cases h1 : 8 < l.length
  · rw [tv_f fun h => by have := h.1; omega]
    exact few_f1 (by omega)
  by_cases h2 : 2 < c.l1.length
  · rw [tv_f fun h => by have := h.2.1.1; omega]
    exact few_f2 (by omega) (by omega)
  by_cases h3 : 2 < c.l2.length
  · rw [tv_f fun h => by have := h.2.1.2; omega]
    exact few_f3 (by omega) (by omega) (by omega)
  have L := loopG_all (O := tab n) (P := Tryz.prog) (m := 0) (N := 45) (lives := livesOf 46) (r := 4) (C := few_C4) (M := l.length) (enc := few_h4 l) (p := fun i => tv (∀ t, l[i]? = some t → Two t.2)) (exN := .exit 0) (exE := .ret) (out := few_o4b) (outE := few_o4a) (by omega) (fun h => by cases h) (fun h => by cases h)
    (fun i hi _ => by
      obtain ⟨v, r⟩ : Int × Raw := l[i]
      have hx : l[i]? = some l[i] := List.getElem?_eq_getElem hi
      obtain ⟨t, ht⟩ : ∃ t, l[i] = t := ⟨_, rfl⟩
      rw [ht] at hx
      obtain ⟨v, r⟩ := t
      refine ⟨fun hp => ?_, fun hp => ?_⟩
      · have hp := tv_true hp _ hx
        have a1 := hp.1; have a2 := hp.2
        dsimp only at a1 a2
        exact few_r4_1 (by omega) hx (by omega) (by omega) ⟨by omega, by omega⟩
      · have hp := tv_false hp
        by_cases a1 : 2 < r.l1.length
        · exact few_x4_1 (by omega) hx (by omega)
        · by_cases a2 : 2 < r.l2.length
          · exact few_x4_2 (by omega) hx (by omega) (by omega)
          · exact absurd (fun t ht => by rw [hx] at ht; cases ht; exact ⟨by dsimp only; omega, by dsimp only; omega⟩) hp)
    (few_x4_3 (by omega))
  by_cases hA : ∀ i, i < l.length → tv (∀ t, l[i]? = some t → Two t.2) = true
  · rw [if_pos hA] at L
    rw [tv_t]
    · exact few_f5 (by omega) (by omega) (by omega) L
    · refine ⟨by omega, ⟨by omega, by omega⟩, fun t ht => ?_⟩
      obtain ⟨i, hi⟩ := List.mem_iff_getElem?.1 ht
      exact tv_true (hA i (List.getElem?_eq_some_iff.1 hi).1) t hi
  · rw [if_neg hA] at L
    rw [tv_f]
    · exact few_f4 (by omega) (by omega) (by omega) L
    · intro h
      refine hA fun i hi => tv_t fun t ht => h.2.2 t (List.mem_of_getElem? ht)
theorem Two.rb {r : Raw} (h : Two r) (hl : LimR2 r) : RawB r := ⟨hl.1, hl.2, by have := h.1; omega, by have := h.2; omega⟩
def Cn (r : Raw) : Prop := RatV r.s r.l1 r.l2
theorem Cn.raw {r : Raw} (h : Cn r) : r = rawQ r.q := by
  obtain ⟨s, l1, l2⟩ := r
  obtain ⟨h1, h2, h3⟩ := h
  dsimp only at h1 h2 h3
  unfold Raw.q rawQ
  dsimp only
  rw [← h1, ← h2, ← h3]
theorem dlmb_H (d : Nat) : (lmb d).length ≤ max 1 (dlmb d).length := by
  unfold dlmb
  split
  · rename_i h; subst h; rw [lmb_one]; simp
  · exact Nat.le_max_right _ _
theorem Cn.H {r : Raw} (h : Cn r) (ht : Two r) : H r.q ≤ 2 := by
  have e := h.raw
  have a1 : (lmb r.q.num.natAbs).length ≤ 2 := by have := congrArg Raw.l1 e; have h9 := ht.1; rw [this] at h9; exact h9
  have a2 : (dlmb r.q.den).length ≤ 2 := by have := congrArg Raw.l2 e; have h9 := ht.2; rw [this] at h9; exact h9
  have a3 := dlmb_H r.q.den
  unfold Go.Proofs.YthkkmokbjmempaaGreatDoor.H
  omega
def OkTmR (F : List (Int × Raw)) (vars : Int) (i : Nat) : Prop := ∀ v c, F[i]? = some (v, c) → 0 ≤ v ∧ v < vars ∧ c.q ≠ 0 ∧ Cn c ∧ ∀ v' c', 0 < i → F[i - 1]? = some (v', c') → v' < v
def OkFR (f : FormR) (vars : Int) : Prop := (∀ i, i < f.1.length → OkTmR f.1 vars i) ∧ Cn f.2
theorem validR_c {n : Nat} {f : FormR} {vars : Int} (hl : LimF f) (hf : FewR f.1 f.2) : run n 18 [frV f, .lit (.int .i64 vars)] = some (.lit (.bool (tv (OkFR f vars)))) := by
  have h8 := hf.1
  have L := loopG_all (O := tab n) (P := Tryz.prog) (m := 0) (N := 59) (lives := livesOf 18) (r := 2) (C := vaR_C2) (M := f.1.length) (enc := vaR_h2 f vars) (p := fun i => tv (OkTmR f.1 vars i)) (exN := .exit 0) (exE := .ret) (out := vaR_o2b f) (outE := vaR_o2a f) (by omega) (fun h => by cases h) (fun h => by cases h)
    (fun i hi _ => by
      have hx : f.1[i]? = some f.1[i] := List.getElem?_eq_getElem hi
      obtain ⟨t, ht⟩ : ∃ t, f.1[i] = t := ⟨_, rfl⟩
      rw [ht] at hx
      obtain ⟨v, r⟩ := t
      have hm : (v, r) ∈ f.1 := List.mem_of_getElem? hx
      have hrb : RawB r := (hf.2.2 _ hm).rb (hl.t _ hm)
      have C1 : (i : Int) < (f.1.length : Int) := by omega
      have hp : 0 < i → ∃ v' r', f.1[i - 1]? = some (v', r') := fun h0 => ⟨(f.1[i - 1]'(by omega)).1, (f.1[i - 1]'(by omega)).2, List.getElem?_eq_getElem _⟩
      refine ⟨fun hp' => ?_, fun hp' => ?_⟩
      · obtain ⟨a1, a2, a3, a4, a5⟩ := tv_true hp' v r hx
        have s0 : ¬ sgR r.q = 0 := fun h => a3 (sgR_eq_zero.1 h)
        by_cases h0 : 0 < i
        · obtain ⟨v', r', hx'⟩ := hp h0
          have := a5 v' r' h0 hx'
          exact vaR_r2_1 C1 hx (by omega) (by omega) (by omega) ⟨by omega, by omega⟩ hx' (by omega) (by omega) hrb s0 a4 ⟨by omega, by omega⟩
        · exact vaR_r2_2 C1 hx (by omega) (by omega) (by omega) hrb s0 a4 ⟨by omega, by omega⟩
      · have hq := tv_false hp'
        by_cases b1 : v < 0
        · exact vaR_x2_1 C1 hx b1
        by_cases b2 : vars ≤ v
        · exact vaR_x2_2 C1 hx b1 b2
        by_cases h0 : 0 < i
        · obtain ⟨v', r', hx'⟩ := hp h0
          by_cases b3 : v ≤ v'
          · exact vaR_x2_3 C1 hx b1 b2 (by omega) ⟨by omega, by omega⟩ hx' (by omega) b3
          by_cases b4 : sgR r.q = 0
          · exact vaR_x2_4 C1 hx b1 b2 (by omega) ⟨by omega, by omega⟩ hx' (by omega) b3 hrb b4
          refine vaR_x2_5 C1 hx b1 b2 (by omega) ⟨by omega, by omega⟩ hx' (by omega) b3 hrb b4 fun b5 => hq fun v2 c2 h2 => ?_
          rw [hx] at h2; cases h2
          refine ⟨by omega, by omega, fun h => b4 (sgR_eq_zero.2 h), b5, fun v3 c3 _ h3 => ?_⟩
          rw [hx'] at h3; cases h3
          omega
        · by_cases b4 : sgR r.q = 0
          · exact vaR_x2_6 C1 hx b1 b2 (by omega) hrb b4
          refine vaR_x2_7 C1 hx b1 b2 (by omega) hrb b4 fun b5 => hq fun v2 c2 h2 => ?_
          rw [hx] at h2; cases h2
          exact ⟨by omega, by omega, fun h => b4 (sgR_eq_zero.2 h), b5, fun v3 c3 h9 h3 => absurd h9 h0⟩)
    (vaR_x2_8 (by omega))
  have hkb : RawB f.2 := hf.2.1.rb hl.k
  by_cases hA : ∀ i, i < f.1.length → tv (OkTmR f.1 vars i) = true
  · rw [if_pos hA] at L
    have h := vaR_f2 L hkb
    have e : decide (RatV f.2.s f.2.l1 f.2.l2) = tv (OkFR f vars) := by
      by_cases hk : Cn f.2
      · rw [tv_t ⟨fun i hi => tv_true (hA i hi), hk⟩]; exact decide_eq_true hk
      · rw [tv_f fun h => hk h.2]; exact decide_eq_false hk
    rw [e] at h
    exact h
  · rw [if_neg hA] at L
    rw [tv_f fun h => hA fun i hi => tv_t (h.1 i hi)]
    exact vaR_f1 L
/-- a small form -/
structure SmF7 (F : Form) : Prop where
  l : F.1.length ≤ 8
  t : ∀ t ∈ F.1, H t.2 ≤ 2
  k : H F.2 ≤ 2
  ok : OkFm F 4611686018427387904
def unR (f : FormR) : Form := (f.1.map fun t => (t.1, t.2.q), f.2.q)
theorem small_form {f : FormR} {vars : Int} (hf : FewR f.1 f.2) (ho : OkFR f vars) : frV f = formV (unR f) ∧ (unR f).1.length = f.1.length ∧ (∀ t ∈ (unR f).1, H t.2 ≤ 2) ∧ H (unR f).2 ≤ 2 ∧ OkFm (unR f) vars := by
  have hc : ∀ t ∈ f.1, Cn t.2 := fun t ht => by
    obtain ⟨i, hi⟩ := List.mem_iff_getElem?.1 ht
    exact (ho.1 i (List.getElem?_eq_some_iff.1 hi).1 t.1 t.2 hi).2.2.2.1
  refine ⟨?_, by simp [unR], fun t ht => ?_, ho.2.H hf.2.1, fun i hi v c h => ?_⟩
  · have e1 : f.1.map termRC = (unR f).1.map termC := by
      simp only [unR, List.map_map]
      apply List.map_congr_left
      intro t ht
      have e := (hc t ht).raw
      simp only [Function.comp, termRC, termC, ratC]
      rw [← e]
    have e2 := ho.2.raw
    unfold frV
    simp only [formV, e1]
    have e3 : rawQ (unR f).2 = f.2 := e2.symm
    rw [e3]
  · simp only [unR, List.mem_map] at ht
    obtain ⟨u, hu, rfl⟩ := ht
    exact (hc u hu).H (hf.2.2 u hu)
  · simp only [unR, List.length_map] at hi
    simp only [unR, List.getElem?_map] at h
    obtain ⟨u, hu, he⟩ := Option.map_eq_some_iff.1 h
    cases he
    obtain ⟨a1, a2, a3, _, a5⟩ := ho.1 i hi u.1 u.2 hu
    refine ⟨a1, a2, a3, fun v' c' h0 h' => ?_⟩
    simp only [unR, List.getElem?_map] at h'
    obtain ⟨u', hu', he'⟩ := Option.map_eq_some_iff.1 h'
    cases he'
    exact a5 u'.1 u'.2 h0 hu'
theorem small_or (n : Nat) {f : FormR} (hl : LimF f) : run (n + 1) 17 [frV f] = some (.lit (.bool false)) ∨ (run (n + 1) 17 [frV f] = some (.lit (.bool true)) ∧ ∃ F : Form, frV f = formV F ∧ SmF7 F) := by
  have K := few_c (n := n) (l := f.1) (c := f.2)
  by_cases hf : FewR f.1 f.2
  · rw [tv_t hf] at K
    have V := validR_c (n := n) (vars := 4611686018427387904) hl hf
    have h := sml_f1 K rfl V
    by_cases ho : OkFR f 4611686018427387904
    · rw [tv_t ho] at h
      obtain ⟨a1, a2, a3, a4, a5⟩ := small_form hf ho
      exact .inr ⟨h, _, a1, by rw [a2]; exact hf.1, a3, a4, a5⟩
    · rw [tv_f ho] at h
      exact .inl h
  · rw [tv_f hf] at K
    exact .inl (sml_f2 K rfl)
theorem point_or (n : Nat) {xs : List Raw} (hl : ∀ r ∈ xs, LimR2 r) : run n 24 [.sl 3 (xs.map rawC)] = some (.lit (.bool false)) ∨ (run n 24 [.sl 3 (xs.map rawC)] = some (.lit (.bool true)) ∧ ∃ X : List Rat, xs.map rawC = X.map ratC ∧ X.length ≤ 8 ∧ X.length = xs.length ∧ ∀ q ∈ X, H q ≤ 2) := by
  by_cases h1 : 8 < xs.length
  · exact .inl (pt_f1 (by omega))
  have L := loopG_all (O := tab n) (P := Tryz.prog) (m := 0) (N := 37) (lives := livesOf 24) (r := 4) (C := pt_C4) (M := xs.length) (enc := pt_h4 xs) (p := fun i => tv (∀ r, xs[i]? = some r → Two r ∧ Cn r)) (exN := .exit 0) (exE := .ret) (out := pt_o4b) (outE := pt_o4a) (by omega) (fun h => by cases h) (fun h => by cases h)
    (fun i hi _ => by
      have hx : xs[i]? = some xs[i] := List.getElem?_eq_getElem hi
      obtain ⟨r, ht⟩ : ∃ r, xs[i] = r := ⟨_, rfl⟩
      rw [ht] at hx
      have hm : r ∈ xs := List.mem_of_getElem? hx
      refine ⟨fun hp => ?_, fun hp => ?_⟩
      · obtain ⟨a1, a2⟩ := tv_true hp _ hx
        have b1 := a1.1; have b2 := a1.2
        exact pt_r4_1 (by omega) hx (by omega) (by omega) (a1.rb (hl _ hm)) a2 ⟨by omega, by omega⟩
      · have hp := tv_false hp
        by_cases a1 : 2 < r.l1.length
        · exact pt_x4_1 (by omega) hx (by omega)
        by_cases a2 : 2 < r.l2.length
        · exact pt_x4_2 (by omega) hx (by omega) (by omega)
        have htw : Two r := ⟨by omega, by omega⟩
        refine pt_x4_3 (by omega) hx (by omega) (by omega) (htw.rb (hl _ hm)) fun a3 => hp fun r' hr' => ?_
        rw [hx] at hr'; cases hr'
        exact ⟨htw, a3⟩)
    (pt_x4_4 (by omega))
  by_cases hA : ∀ i, i < xs.length → tv (∀ r, xs[i]? = some r → Two r ∧ Cn r) = true
  · rw [if_pos hA] at L
    have hc : ∀ r ∈ xs, Two r ∧ Cn r := fun r hr => by
      obtain ⟨i, hi⟩ := List.mem_iff_getElem?.1 hr
      exact tv_true (hA i (List.getElem?_eq_some_iff.1 hi).1) r hi
    refine .inr ⟨pt_f3 (by omega) L, xs.map Raw.q, ?_, by simp; omega, by simp, fun q hq => ?_⟩
    · rw [List.map_map]
      apply List.map_congr_left
      intro r hr
      have e := (hc r hr).2.raw
      simp only [Function.comp, rawC, ratC]
      rw [← e]
    · obtain ⟨r, hr, rfl⟩ := List.mem_map.1 hq
      exact (hc r hr).2.H (hc r hr).1
  · rw [if_neg hA] at L
    exact .inl (pt_f2 (by omega) L)
end Go.Proofs.YthkkmokbjmempaaGreatDoor
