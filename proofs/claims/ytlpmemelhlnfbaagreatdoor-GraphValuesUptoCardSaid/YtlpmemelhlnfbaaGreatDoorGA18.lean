/- Forms whose numbers need not be canonical; relucertref07.Valid of them. Valid of graphs whose numbers need not be canonical (relucertref15.Valid, graph.Valid): what the calls return; valid ones are canonical. -/
import Derived.Test.YtlpmemelhlnfbaaGreatDoorGA16
import Derived.Test.YtlpmemelhlnfbaaGreatDoorGA11
import Derived.Test.YtlpmemelhlnfbaaGreatDoorGA12
set_option linter.all false
set_option linter.all false
set_option maxRecDepth 100000
set_option maxHeartbeats 6400000
namespace Go.Proofs.YtlpmemelhlnfbaaGreatDoor
open Go.RowKit
attribute [local irreducible] run runL loopG exec

/-- a form as it came in -/
def frV (f : FormR) : AV := .agg [.sl 4 (f.1.map termRC), .lit (.bool f.2.s), natA f.2.l1, natA f.2.l2]
def LimR2 (r : Raw) : Prop := Lim r.l1 ∧ Lim r.l2
structure LimF (f : FormR) : Prop where
  t : ∀ t ∈ f.1, LimR2 t.2
  k : LimR2 f.2
def Two (r : Raw) : Prop := r.l1.length ≤ 2 ∧ r.l2.length ≤ 2
def FewR (l : List (Int × Raw)) (c : Raw) : Prop := l.length ≤ 8 ∧ Two c ∧ ∀ t ∈ l, Two t.2
theorem Two.rb {r : Raw} (h : Two r) (hl : LimR2 r) : RawB r := ⟨hl.1, hl.2, by have := h.1; omega, by have := h.2; omega⟩
def Cn (r : Raw) : Prop := RatV r.s r.l1 r.l2
theorem Cn.raw {r : Raw} (h : Cn r) : r = rawQ r.q := by
  obtain ⟨s, l1, l2⟩ := r
  obtain ⟨h1, h2, h3⟩ := h
  dsimp only at h1 h2 h3
  unfold Raw.q rawQ
  dsimp only
  rw [← h1, ← h2, ← h3]
theorem dlmb_H (d : Nat) : (lmb d).length ≤ max 1 (dlmb d).length := by
  unfold dlmb
  split
  · rename_i h; subst h; rw [lmb_one]; simp
  · exact Nat.le_max_right _ _
theorem Cn.H {r : Raw} (h : Cn r) (ht : Two r) : H r.q ≤ 2 := by
  have e := h.raw
  have a1 : (lmb r.q.num.natAbs).length ≤ 2 := by have := congrArg Raw.l1 e; have h9 := ht.1; rw [this] at h9; exact h9
  have a2 : (dlmb r.q.den).length ≤ 2 := by have := congrArg Raw.l2 e; have h9 := ht.2; rw [this] at h9; exact h9
  have a3 := dlmb_H r.q.den
  unfold Go.Proofs.YtlpmemelhlnfbaaGreatDoor.H
  omega
def OkTmR (F : List (Int × Raw)) (vars : Int) (i : Nat) : Prop := ∀ v c, F[i]? = some (v, c) → 0 ≤ v ∧ v < vars ∧ c.q ≠ 0 ∧ Cn c ∧ ∀ v' c', 0 < i → F[i - 1]? = some (v', c') → v' < v
def OkFR (f : FormR) (vars : Int) : Prop := (∀ i, i < f.1.length → OkTmR f.1 vars i) ∧ Cn f.2
theorem validR_c {n : Nat} {f : FormR} {vars : Int} (hl : LimF f) (hf : FewR f.1 f.2) : run n 51 [frV f, .lit (.int .i64 vars)] = some (.lit (.bool (tv (OkFR f vars)))) := by
  have h8 := hf.1
  have L := loopG_all (O := tab n) (P := Tryz.prog) (m := 0) (N := 59) (lives := livesOf 51) (r := 2) (C := vaR_C2) (M := f.1.length) (enc := vaR_h2 f vars) (p := fun i => tv (OkTmR f.1 vars i)) (exN := .exit 0) (exE := .ret) (out := vaR_o2b f) (outE := vaR_o2a f) (by omega) (fun h => by cases h) (fun h => by cases h)
    (fun i hi _ => by
      have hx : f.1[i]? = some f.1[i] := List.getElem?_eq_getElem hi
      obtain ⟨t, ht⟩ : ∃ t, f.1[i] = t := ⟨_, rfl⟩
      rw [ht] at hx
      obtain ⟨v, r⟩ := t
      have hm : (v, r) ∈ f.1 := List.mem_of_getElem? hx
      have hrb : RawB r := (hf.2.2 _ hm).rb (hl.t _ hm)
      have C1 : (i : Int) < (f.1.length : Int) := by omega
      have hp : 0 < i → ∃ v' r', f.1[i - 1]? = some (v', r') := fun h0 => ⟨(f.1[i - 1]'(by omega)).1, (f.1[i - 1]'(by omega)).2, List.getElem?_eq_getElem _⟩
      refine ⟨fun hp' => ?_, fun hp' => ?_⟩
      · obtain ⟨a1, a2, a3, a4, a5⟩ := tv_true hp' v r hx
        have s0 : ¬ sgR r.q = 0 := fun h => a3 (sgR_eq_zero.1 h)
        by_cases h0 : 0 < i
        · obtain ⟨v', r', hx'⟩ := hp h0
          have := a5 v' r' h0 hx'
          exact vaR_r2_1 C1 hx (by omega) (by omega) (by omega) ⟨by omega, by omega⟩ hx' (by omega) (by omega) hrb s0 a4 ⟨by omega, by omega⟩
        · exact vaR_r2_2 C1 hx (by omega) (by omega) (by omega) hrb s0 a4 ⟨by omega, by omega⟩
      · have hq := tv_false hp'
        by_cases b1 : v < 0
        · exact vaR_x2_1 C1 hx b1
        by_cases b2 : vars ≤ v
        · exact vaR_x2_2 C1 hx b1 b2
        by_cases h0 : 0 < i
        · obtain ⟨v', r', hx'⟩ := hp h0
          by_cases b3 : v ≤ v'
          · exact vaR_x2_3 C1 hx b1 b2 (by omega) ⟨by omega, by omega⟩ hx' (by omega) b3
          by_cases b4 : sgR r.q = 0
          · exact vaR_x2_4 C1 hx b1 b2 (by omega) ⟨by omega, by omega⟩ hx' (by omega) b3 hrb b4
          refine vaR_x2_5 C1 hx b1 b2 (by omega) ⟨by omega, by omega⟩ hx' (by omega) b3 hrb b4 fun b5 => hq fun v2 c2 h2 => ?_
          rw [hx] at h2; cases h2
          refine ⟨by omega, by omega, fun h => b4 (sgR_eq_zero.2 h), b5, fun v3 c3 _ h3 => ?_⟩
          rw [hx'] at h3; cases h3
          omega
        · by_cases b4 : sgR r.q = 0
          · exact vaR_x2_6 C1 hx b1 b2 (by omega) hrb b4
          refine vaR_x2_7 C1 hx b1 b2 (by omega) hrb b4 fun b5 => hq fun v2 c2 h2 => ?_
          rw [hx] at h2; cases h2
          exact ⟨by omega, by omega, fun h => b4 (sgR_eq_zero.2 h), b5, fun v3 c3 h9 h3 => absurd h9 h0⟩)
    (vaR_x2_8 (by omega))
  have hkb : RawB f.2 := hf.2.1.rb hl.k
  by_cases hA : ∀ i, i < f.1.length → tv (OkTmR f.1 vars i) = true
  · rw [if_pos hA] at L
    have h := vaR_f2 L hkb
    have e : decide (RatV f.2.s f.2.l1 f.2.l2) = tv (OkFR f vars) := by
      by_cases hk : Cn f.2
      · rw [tv_t ⟨fun i hi => tv_true (hA i hi), hk⟩]; exact decide_eq_true hk
      · rw [tv_f fun h => hk h.2]; exact decide_eq_false hk
    rw [e] at h
    exact h
  · rw [if_neg hA] at L
    rw [tv_f fun h => hA fun i hi => tv_t (h.1 i hi)]
    exact vaR_f1 L
def unR (f : FormR) : Form := (f.1.map fun t => (t.1, t.2.q), f.2.q)
theorem small_form {f : FormR} {vars : Int} (hf : FewR f.1 f.2) (ho : OkFR f vars) : frV f = formV (unR f) ∧ (unR f).1.length = f.1.length ∧ (∀ t ∈ (unR f).1, H t.2 ≤ 2) ∧ H (unR f).2 ≤ 2 ∧ OkFm (unR f) vars := by
  have hc : ∀ t ∈ f.1, Cn t.2 := fun t ht => by
    obtain ⟨i, hi⟩ := List.mem_iff_getElem?.1 ht
    exact (ho.1 i (List.getElem?_eq_some_iff.1 hi).1 t.1 t.2 hi).2.2.2.1
  refine ⟨?_, by simp [unR], fun t ht => ?_, ho.2.H hf.2.1, fun i hi v c h => ?_⟩
  · have e1 : f.1.map termRC = (unR f).1.map termC := by
      simp only [unR, List.map_map]
      apply List.map_congr_left
      intro t ht
      have e := (hc t ht).raw
      simp only [Function.comp, termRC, termC, ratC]
      rw [← e]
    have e2 := ho.2.raw
    unfold frV
    simp only [formV, e1]
    have e3 : rawQ (unR f).2 = f.2 := e2.symm
    rw [e3]
  · simp only [unR, List.mem_map] at ht
    obtain ⟨u, hu, rfl⟩ := ht
    exact (hc u hu).H (hf.2.2 u hu)
  · simp only [unR, List.length_map] at hi
    simp only [unR, List.getElem?_map] at h
    obtain ⟨u, hu, he⟩ := Option.map_eq_some_iff.1 h
    cases he
    obtain ⟨a1, a2, a3, _, a5⟩ := ho.1 i hi u.1 u.2 hu
    refine ⟨a1, a2, a3, fun v' c' h0 h' => ?_⟩
    simp only [unR, List.getElem?_map] at h'
    obtain ⟨u', hu', he'⟩ := Option.map_eq_some_iff.1 h'
    cases he'
    exact a5 u'.1 u'.2 h0 hu'
end Go.Proofs.YtlpmemelhlnfbaaGreatDoor
set_option linter.all false
set_option maxRecDepth 100000
set_option maxHeartbeats 6400000
namespace Go.Proofs.YtlpmemelhlnfbaaGreatDoor
open Go.RowKit
attribute [local irreducible] run runL loopG exec

def BdR (f : FormR) : Prop := LimF f ∧ FewR f.1 f.2
/-- a graph that is valid -/
structure OkGrR (g : TGraphR) : Prop where
  i0 : 1 ≤ g.Inputs
  i1 : g.Inputs ≤ 256
  u : (g.Units.length : Int) ≤ 1024
  o0 : 1 ≤ (g.Outputs.length : Int)
  o1 : (g.Outputs.length : Int) ≤ 256
  un : ∀ i, i < g.Units.length → ∀ f, g.Units[i]? = some f → OkFR f (g.Inputs + (i : Int))
  ou : ∀ f ∈ g.Outputs, OkFR f (g.Inputs + (g.Units.length : Int))
structure BdGR (g : TGraphR) : Prop where
  lu : g.Units.length ≤ 100000000
  lo : g.Outputs.length ≤ 100000000
  u : ∀ f ∈ g.Units, BdR f
  o : ∀ f ∈ g.Outputs, BdR f
theorem validR1_c {n : Nat} {f : FormR} {vars : Int} (hB : BdR f) : run n 51 [frV f, .lit (.int .i64 vars)] = some (.lit (.bool (tv (OkFR f vars)))) := validR_c hB.1 hB.2
theorem validFsR_c {n : Nat} {L : List FormR} {vars : Int} (hl : L.length ≤ 100000000) (hB : ∀ f ∈ L, BdR f) : run (n + 1) 91 [.sl 4 (L.map formRC), .lit (.int .i64 vars)] = some (.lit (.bool (tv (∀ f ∈ L, OkFR f vars)))) := by
  have hG := loopG_all (O := tab (n + 1)) (P := Tryz.prog) (m := 0) (N := 19) (lives := livesOf 91) (r := 2) (C := vlR_C2) (M := L.length) (enc := vlR_h2 L vars) (p := fun i => tv (∀ f, L[i]? = some f → OkFR f vars)) (exN := .exit 0) (exE := .ret) (out := vlR_o2b) (outE := vlR_o2a) (by omega) (by simp) (by simp)
    (fun i hi hI => by
      have hx : L[i]? = some L[i] := List.getElem?_eq_getElem hi
      generalize L[i] = f at hx
      have C1 : (i : Int) < (L.length : Int) := by omega
      have W : InI ((i : Int) + 1) := ⟨by omega, by omega⟩
      have K := validR1_c (n := n) (vars := vars) (hB f (List.mem_of_getElem? hx))
      have e : tv (∀ g, L[i]? = some g → OkFR g vars) = tv (OkFR f vars) := tv_iff ⟨fun h => h f hx, fun h g hg => by rw [hx] at hg; cases hg; exact h⟩
      rw [e]
      exact ⟨fun hp => vlR_r2_1 C1 hx K hp W, fun hp => vlR_x2_1 C1 hx K hp⟩)
    (vlR_x2_2 (by omega))
  by_cases h : ∀ f ∈ L, OkFR f vars
  · rw [if_pos (fun i hi => tv_t (all_idx.2 h i hi))] at hG
    rw [tv_t h]
    exact vlR_f2 hG
  · rw [if_neg (fun h2 => h (all_idx.1 fun i hi => tv_true (h2 i hi)))] at hG
    rw [tv_f h]
    exact vlR_f1 hG
theorem validGR_c {n : Nat} {g : TGraphR} (hB : BdGR g) : run (n + 2) 25 [graphRV g] = some (.lit (.bool (tv (OkGrR g)))) := by
  have hlu := hB.lu
  have hlo := hB.lo
  by_cases c1 : g.Inputs < 1
  · rw [tv_f (fun h => by have := h.i0; omega)]; exact vgR_f1 c1
  by_cases c2 : 256 < g.Inputs
  · rw [tv_f (fun h => by have := h.i1; omega)]; exact vgR_f2 c1 c2
  by_cases c3 : 1024 < (g.Units.length : Int)
  · rw [tv_f (fun h => by have := h.u; omega)]; exact vgR_f3 c1 c2 c3
  by_cases c4 : (g.Outputs.length : Int) < 1
  · rw [tv_f (fun h => by have := h.o0; omega)]; exact vgR_f4 c1 c2 c3 c4
  by_cases c5 : 256 < (g.Outputs.length : Int)
  · rw [tv_f (fun h => by have := h.o1; omega)]; exact vgR_f5 c1 c2 c3 c4 c5
  have hG := loopG_all (O := tab (n + 2)) (P := Tryz.prog) (m := 0) (N := 57) (lives := livesOf 25) (r := 4) (C := vgR_C4) (M := g.Units.length) (enc := vgR_h4 g) (p := fun i => tv (∀ f, g.Units[i]? = some f → OkFR f (g.Inputs + (i : Int)))) (exN := .exit 0) (exE := .ret) (out := vgR_o4b g) (outE := vgR_o4a g) (by omega) (by simp) (by simp)
    (fun i hi hI => by
      have hx : g.Units[i]? = some g.Units[i] := List.getElem?_eq_getElem hi
      generalize g.Units[i] = f at hx
      have C1 : (i : Int) < (g.Units.length : Int) := by omega
      have W : InI ((i : Int) + 1) := ⟨by omega, by omega⟩
      have W2 : InI (g.Inputs + (i : Int)) := ⟨by omega, by omega⟩
      have K := validR1_c (n := n + 1) (vars := g.Inputs + (i : Int)) (hB.u f (List.mem_of_getElem? hx))
      have e : tv (∀ f, g.Units[i]? = some f → OkFR f (g.Inputs + (i : Int))) = tv (OkFR f (g.Inputs + (i : Int))) := tv_iff ⟨fun h => h f hx, fun h g hg => by rw [hx] at hg; cases hg; exact h⟩
      rw [e]
      exact ⟨fun hp => vgR_r4_1 C1 hx W2 K hp W, fun hp => vgR_x4_1 C1 hx W2 K hp⟩)
    (vgR_x4_2 (by omega))
  by_cases h : ∀ i, i < g.Units.length → ∀ f, g.Units[i]? = some f → OkFR f (g.Inputs + (i : Int))
  · rw [if_pos (fun i hi => tv_t (h i hi))] at hG
    have K := validFsR_c (n := n) (vars := g.Inputs + (g.Units.length : Int)) hlo hB.o
    have e : tv (OkGrR g) = tv (∀ f ∈ g.Outputs, OkFR f (g.Inputs + (g.Units.length : Int))) := tv_iff ⟨fun k => k.ou, fun k => ⟨by omega, by omega, by omega, by omega, by omega, h, k⟩⟩
    rw [e]
    exact vgR_f7 c1 c2 c3 c4 c5 hG ⟨by omega, by omega⟩ K
  · rw [if_neg (fun h2 => h fun i hi => tv_true (h2 i hi))] at hG
    rw [tv_f (fun k => h k.un)]
    exact vgR_f6 c1 c2 c3 c4 c5 hG
theorem lvalidR0_c {n : Nat} {f : FormR} {vars : Int} (hl : LimF f) (hf : FewR f.1 f.2) : run n 60 [frV f, .lit (.int .i64 vars)] = some (.lit (.bool (tv (OkFR f vars)))) := by
  have h8 := hf.1
  have L := loopG_all (O := tab n) (P := Tryz.prog) (m := 0) (N := 56) (lives := livesOf 60) (r := 2) (C := lvaR_C2) (M := f.1.length) (enc := lvaR_h2 f vars) (p := fun i => tv (OkTmR f.1 vars i)) (exN := .exit 0) (exE := .ret) (out := lvaR_o2b f) (outE := lvaR_o2a f) (by omega) (fun h => by cases h) (fun h => by cases h)
    (fun i hi _ => by
      have hx : f.1[i]? = some f.1[i] := List.getElem?_eq_getElem hi
      obtain ⟨t, ht⟩ : ∃ t, f.1[i] = t := ⟨_, rfl⟩
      rw [ht] at hx
      obtain ⟨v, r⟩ := t
      have hm : (v, r) ∈ f.1 := List.mem_of_getElem? hx
      have hrb : RawB r := (hf.2.2 _ hm).rb (hl.t _ hm)
      have C1 : (i : Int) < (f.1.length : Int) := by omega
      have hp : 0 < i → ∃ v' r', f.1[i - 1]? = some (v', r') := fun h0 => ⟨(f.1[i - 1]'(by omega)).1, (f.1[i - 1]'(by omega)).2, List.getElem?_eq_getElem _⟩
      refine ⟨fun hp' => ?_, fun hp' => ?_⟩
      · obtain ⟨a1, a2, a3, a4, a5⟩ := tv_true hp' v r hx
        have s0 : ¬ sgR r.q = 0 := fun h => a3 (sgR_eq_zero.1 h)
        by_cases h0 : 0 < i
        · obtain ⟨v', r', hx'⟩ := hp h0
          have := a5 v' r' h0 hx'
          exact lvaR_r2_1 C1 hx (by omega) (by omega) (by omega) ⟨by omega, by omega⟩ hx' (by omega) (by omega) hrb s0 a4 ⟨by omega, by omega⟩
        · exact lvaR_r2_2 C1 hx (by omega) (by omega) (by omega) hrb s0 a4 ⟨by omega, by omega⟩
      · have hq := tv_false hp'
        by_cases b1 : v < 0
        · exact lvaR_x2_1 C1 hx b1
        by_cases b2 : vars ≤ v
        · exact lvaR_x2_2 C1 hx b1 b2
        by_cases h0 : 0 < i
        · obtain ⟨v', r', hx'⟩ := hp h0
          by_cases b3 : v ≤ v'
          · exact lvaR_x2_3 C1 hx b1 b2 (by omega) ⟨by omega, by omega⟩ hx' (by omega) b3
          by_cases b4 : sgR r.q = 0
          · exact lvaR_x2_4 C1 hx b1 b2 (by omega) ⟨by omega, by omega⟩ hx' (by omega) b3 hrb b4
          refine lvaR_x2_5 C1 hx b1 b2 (by omega) ⟨by omega, by omega⟩ hx' (by omega) b3 hrb b4 fun b5 => hq fun v2 c2 h2 => ?_
          rw [hx] at h2; cases h2
          refine ⟨by omega, by omega, fun h => b4 (sgR_eq_zero.2 h), b5, fun v3 c3 _ h3 => ?_⟩
          rw [hx'] at h3; cases h3
          omega
        · by_cases b4 : sgR r.q = 0
          · exact lvaR_x2_6 C1 hx b1 b2 (by omega) hrb b4
          refine lvaR_x2_7 C1 hx b1 b2 (by omega) hrb b4 fun b5 => hq fun v2 c2 h2 => ?_
          rw [hx] at h2; cases h2
          exact ⟨by omega, by omega, fun h => b4 (sgR_eq_zero.2 h), b5, fun v3 c3 h9 h3 => absurd h9 h0⟩)
    (lvaR_x2_8 (by omega))
  have hkb : RawB f.2 := hf.2.1.rb hl.k
  by_cases hA : ∀ i, i < f.1.length → tv (OkTmR f.1 vars i) = true
  · rw [if_pos hA] at L
    have h := lvaR_f2 L hkb
    have e : decide (RatV f.2.s f.2.l1 f.2.l2) = tv (OkFR f vars) := by
      by_cases hk : Cn f.2
      · rw [tv_t ⟨fun i hi => tv_true (hA i hi), hk⟩]; exact decide_eq_true hk
      · rw [tv_f fun h => hk h.2]; exact decide_eq_false hk
    rw [e] at h
    exact h
  · rw [if_neg hA] at L
    rw [tv_f fun h => hA fun i hi => tv_t (h.1 i hi)]
    exact lvaR_f1 L
theorem lvalidR_c {n : Nat} {f : FormR} {vars : Int} (hB : BdR f) : run n 60 [frV f, .lit (.int .i64 vars)] = some (.lit (.bool (tv (OkFR f vars)))) := lvalidR0_c hB.1 hB.2
theorem gvcR_c {n : Nat} {f : FormR} {vars : Int} (hB : BdR f) : run (n + 1) 171 [frV f, .mem [.lit (.int .i64 vars)]] = some (.lit (.bool (!tv (OkFR f vars)))) := gvcR_f1 (lvalidR_c (n := n) hB)
theorem ifgR_c {n : Nat} {L : List FormR} {vars : Int} (hl : L.length ≤ 100000000) (hB : ∀ f ∈ L, BdR f) : ∃ r : Int, run (n + 2) 207 [.sl 4 (L.map formRC), .clo 171 [.mem [.lit (.int .i64 vars)]]] = some (.lit (.int .i64 r)) ∧ (0 ≤ r ↔ ¬ ∀ f ∈ L, OkFR f vars) := by
  obtain ⟨ex, t, h1, h2⟩ := loopG_Q (β := Unit) (P := Tryz.prog) (O := tab (n + 2)) (m := 0) (N := 19) (lives := livesOf 207) (r := 2) (C := ifgR_C2) (M := L.length) (enc := fun i _ => ifgR_h2 L vars i)
    (fun i _ => ∀ j f, j < i → L[j]? = some f → OkFR f vars) (fun ex t => (ex = .exit 0 ∧ t = ifgR_o2b ∧ ∀ f ∈ L, OkFR f vars) ∨ (ex = .ret ∧ ∃ i : Nat, t = ifgR_o2a i ∧ ¬ ∀ f ∈ L, OkFR f vars)) () (fun j f hj => by omega) (by omega)
    (fun i b hi hI => by
      have hx : L[i]? = some L[i] := List.getElem?_eq_getElem hi
      generalize L[i] = f at hx
      have K := gvcR_c (n := n) (vars := vars) (hB f (List.mem_of_getElem? hx))
      by_cases h : OkFR f vars
      · rw [tv_t h] at K
        refine .inl ⟨(), ifgR_r2_1 (by omega) hx K rfl ⟨by omega, by omega⟩, fun j g hj hg => ?_⟩
        rcases Nat.lt_succ_iff_lt_or_eq.1 hj with h2 | rfl
        · exact hI j g h2 hg
        · rw [hx] at hg; cases hg; exact h
      · rw [tv_f h] at K
        exact .inr ⟨_, _, by simp, ifgR_x2_1 (by omega) hx K rfl, .inr ⟨rfl, i, rfl, fun h2 => h (h2 f (List.mem_of_getElem? hx))⟩⟩)
    (fun b hI => ⟨_, _, by simp, ifgR_x2_2 (by omega), .inl ⟨rfl, rfl, fun f hf => by
      obtain ⟨j, hj⟩ := List.mem_iff_getElem?.1 hf
      exact hI j f (List.getElem?_eq_some_iff.1 hj).1 hj⟩⟩)
  rcases h2 with ⟨rfl, rfl, h3⟩ | ⟨rfl, i, rfl, h3⟩
  · exact ⟨-1, ifgR_f2 h1, fun h => by omega, fun h => absurd h3 h⟩
  · exact ⟨(i : Int), ifgR_f1 h1, fun _ => h3, fun _ => by omega⟩
theorem gvsR_c {n : Nat} {L : List FormR} {vars : Int} (hl : L.length ≤ 100000000) (hB : ∀ f ∈ L, BdR f) : run (n + 4) 104 [.sl 4 (L.map formRC), .lit (.int .i64 vars)] = some (.lit (.bool (tv (∀ f ∈ L, OkFR f vars)))) := by
  obtain ⟨r, h1, h2⟩ := ifgR_c (n := n) (vars := vars) hl hB
  have h3 := gvaR_f1 (n := n) (cfgR_f1 (n := n) h1)
  rw [h3]
  by_cases h : ∀ f ∈ L, OkFR f vars
  · rw [tv_t h, decide_eq_false (fun h4 => (h2.1 h4) h)]; rfl
  · rw [tv_f h, decide_eq_true (h2.2 h)]; rfl
theorem gvalidR_c {n : Nat} {g : TGraphR} (hB : BdGR g) : run (n + 5) 41 [graphRV g] = some (.lit (.bool (tv (OkGrR g)))) := by
  have hlu := hB.lu
  have hlo := hB.lo
  by_cases c1 : g.Inputs < 1
  · rw [tv_f (fun h => by have := h.i0; omega)]; exact gVR_f1 c1
  by_cases c2 : 256 < g.Inputs
  · rw [tv_f (fun h => by have := h.i1; omega)]; exact gVR_f2 c1 c2
  by_cases c3 : 1024 < (g.Units.length : Int)
  · rw [tv_f (fun h => by have := h.u; omega)]; exact gVR_f3 c1 c2 c3
  by_cases c4 : (g.Outputs.length : Int) < 1
  · rw [tv_f (fun h => by have := h.o0; omega)]; exact gVR_f4 c1 c2 c3 c4
  by_cases c5 : 256 < (g.Outputs.length : Int)
  · rw [tv_f (fun h => by have := h.o1; omega)]; exact gVR_f5 c1 c2 c3 c4 c5
  have hG := loopG_all (O := tab (n + 5)) (P := Tryz.prog) (m := 0) (N := 56) (lives := livesOf 41) (r := 4) (C := gVR_C4) (M := g.Units.length) (enc := gVR_h4 g) (p := fun i => tv (∀ f, g.Units[i]? = some f → OkFR f (g.Inputs + (i : Int)))) (exN := .exit 0) (exE := .ret) (out := gVR_o4b g) (outE := gVR_o4a g) (by omega) (by simp) (by simp)
    (fun i hi hI => by
      have hx : g.Units[i]? = some g.Units[i] := List.getElem?_eq_getElem hi
      generalize g.Units[i] = f at hx
      have C1 : (i : Int) < (g.Units.length : Int) := by omega
      have W : InI ((i : Int) + 1) := ⟨by omega, by omega⟩
      have W2 : InI (g.Inputs + (i : Int)) := ⟨by omega, by omega⟩
      have K := lvalidR_c (n := n + 4) (vars := g.Inputs + (i : Int)) (hB.u f (List.mem_of_getElem? hx))
      have e : tv (∀ f, g.Units[i]? = some f → OkFR f (g.Inputs + (i : Int))) = tv (OkFR f (g.Inputs + (i : Int))) := tv_iff ⟨fun h => h f hx, fun h g hg => by rw [hx] at hg; cases hg; exact h⟩
      rw [e]
      exact ⟨fun hp => gVR_r4_1 C1 hx W2 K hp W, fun hp => gVR_x4_1 C1 hx W2 K hp⟩)
    (gVR_x4_2 (by omega))
  by_cases h : ∀ i, i < g.Units.length → ∀ f, g.Units[i]? = some f → OkFR f (g.Inputs + (i : Int))
  · rw [if_pos (fun i hi => tv_t (h i hi))] at hG
    have K := gvsR_c (n := n) (vars := g.Inputs + (g.Units.length : Int)) hlo hB.o
    have e : tv (OkGrR g) = tv (∀ f ∈ g.Outputs, OkFR f (g.Inputs + (g.Units.length : Int))) := tv_iff ⟨fun k => k.ou, fun k => ⟨by omega, by omega, by omega, by omega, by omega, h, k⟩⟩
    rw [e]
    exact gVR_f7 c1 c2 c3 c4 c5 hG ⟨by omega, by omega⟩ K
  · rw [if_neg (fun h2 => h fun i hi => tv_true (h2 i hi))] at hG
    rw [tv_f (fun k => h k.un)]
    exact gVR_f6 c1 c2 c3 c4 c5 hG
def unG (g : TGraphR) : TGraph := ⟨g.Inputs, g.Units.map unR, g.Outputs.map unR⟩
theorem map_un {L : List FormR} (h : ∀ f ∈ L, frV f = formV (unR f)) : L.map formRC = (L.map unR).map formC := by
  rw [List.map_map]
  apply List.map_congr_left
  intro f hf
  have e : AV.agg (formRC f) = AV.agg (formC (unR f)) := h f hf
  exact AV.agg.inj e
/-- a valid graph of few small numbers is canonical -/
theorem graph_un {g : TGraphR} (hB : BdGR g) (hO : OkGrR g) : graphRV g = graphV (unG g) ∧ OkGr (unG g) ∧ BdG 2 (unG g) ∧ (∀ f ∈ (unG g).Units, f.1.length ≤ 8) ∧ ∀ f ∈ (unG g).Outputs, f.1.length ≤ 8 := by
  have hu : ∀ f ∈ g.Units, ∃ v, OkFR f v := fun f hf => by
    obtain ⟨i, hi⟩ := List.mem_iff_getElem?.1 hf
    exact ⟨_, hO.un i (List.getElem?_eq_some_iff.1 hi).1 f hi⟩
  have ho : ∀ f ∈ g.Outputs, ∃ v, OkFR f v := fun f hf => ⟨_, hO.ou f hf⟩
  have eu := map_un (L := g.Units) fun f hf => by
    obtain ⟨v, hv⟩ := hu f hf
    exact (small_form (hB.u f hf).2 hv).1
  have eo := map_un (L := g.Outputs) fun f hf => by
    obtain ⟨v, hv⟩ := ho f hf
    exact (small_form (hB.o f hf).2 hv).1
  have bd : ∀ L : List FormR, (∀ f ∈ L, BdR f) → (∀ f ∈ L, ∃ v, OkFR f v) → ∀ f ∈ L.map unR, BdF 2 f ∧ f.1.length ≤ 8 := fun L h1 h2 f hf => by
    obtain ⟨f0, h0, rfl⟩ := List.mem_map.1 hf
    obtain ⟨v, hv⟩ := h2 f0 h0
    obtain ⟨_, s2, s3, s4, _⟩ := small_form (h1 f0 h0).2 hv
    have := (h1 f0 h0).2.1
    exact ⟨⟨by omega, s3, s4⟩, by omega⟩
  have bu := bd g.Units hB.u hu
  have bo := bd g.Outputs hB.o ho
  have lu := hB.lu
  have lo := hB.lo
  refine ⟨by simp only [graphRV, graphV, unG, eu, eo], ⟨hO.i0, hO.i1, ?_, ?_, ?_, fun i hi f hf => ?_, fun f hf => ?_⟩, ⟨?_, ?_, fun f hf => (bu f hf).1, fun f hf => (bo f hf).1⟩, fun f hf => (bu f hf).2, fun f hf => (bo f hf).2⟩
  · show ((g.Units.map unR).length : Int) ≤ 1024
    rw [List.length_map]; exact hO.u
  · show 1 ≤ ((g.Outputs.map unR).length : Int)
    rw [List.length_map]; exact hO.o0
  · show ((g.Outputs.map unR).length : Int) ≤ 256
    rw [List.length_map]; exact hO.o1
  · replace hf : (g.Units.map unR)[i]? = some f := hf
    rw [List.getElem?_map] at hf
    obtain ⟨f0, h0, rfl⟩ := Option.map_eq_some_iff.1 hf
    exact (small_form (hB.u f0 (List.mem_of_getElem? h0)).2 (hO.un i (List.getElem?_eq_some_iff.1 h0).1 f0 h0)).2.2.2.2
  · obtain ⟨f0, h0, rfl⟩ := List.mem_map.1 (show f ∈ g.Outputs.map unR from hf)
    have e : ((unG g).Units.length : Int) = (g.Units.length : Int) := by show ((g.Units.map unR).length : Int) = _; rw [List.length_map]
    rw [e]
    exact (small_form (hB.o f0 h0).2 (hO.ou f0 h0)).2.2.2.2
  · show (g.Units.map unR).length ≤ _
    rw [List.length_map]; exact lu
  · show (g.Outputs.map unR).length ≤ _
    rw [List.length_map]; exact lo
end Go.Proofs.YtlpmemelhlnfbaaGreatDoor
