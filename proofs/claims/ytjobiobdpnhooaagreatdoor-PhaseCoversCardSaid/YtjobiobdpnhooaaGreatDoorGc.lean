/- Valid forms, graphs, regions, queries (relucertref03, 07, 15, 19, 21): what the calls return. -/
import Derived.Test.YtjobiobdpnhooaaGreatDoorGb
import Derived.Test.YtjobiobdpnhooaaGreatDoorWf
import Derived.Test.YtjobiobdpnhooaaGreatDoorWg
import Derived.Test.YtjobiobdpnhooaaGreatDoorWh
import Derived.Test.YtjobiobdpnhooaaGreatDoorWi
set_option linter.all false
set_option linter.all false
set_option maxRecDepth 100000
set_option maxHeartbeats 6400000
namespace Go.Proofs.YtjobiobdpnhooaaGreatDoor
open Go.RowKit
attribute [local irreducible] run runL loopG exec

theorem num_nonpos (q : Rat) : q.num ≤ 0 ↔ q ≤ 0 := by
  have h := @Rat.num_nonneg (-q)
  have e : (-q).num = -q.num := rfl
  rw [e] at h
  constructor
  · intro h1
    have : 0 ≤ -q := h.1 (by omega)
    grind
  · intro h1
    have h2 : 0 ≤ -q := by grind
    have := h.2 h2
    omega
theorem sgq_pos {q : Rat} : 0 < sgR q ↔ 0 < q := by
  unfold sgR
  have h := num_nonpos q
  constructor
  · intro h1
    have h2 : 0 < q.num := Int.sign_pos_iff.1 h1
    have : ¬ q ≤ 0 := fun h3 => by have := h.2 h3; omega
    grind
  · intro h1
    refine Int.sign_pos_iff.2 ?_
    have : ¬ q.num ≤ 0 := fun h3 => by have := h.1 h3; grind
    omega
theorem sgq_nonneg {q : Rat} : 0 ≤ sgR q ↔ 0 ≤ q := by
  unfold sgR
  rw [← Rat.num_nonneg]
  exact Int.sign_nonneg_iff
theorem sgq_nonpos {q : Rat} : sgR q ≤ 0 ↔ q ≤ 0 := by
  have h := @sgq_pos q
  constructor
  · intro h1
    have : ¬ 0 < q := fun h2 => by have := h.2 h2; omega
    grind
  · intro h1
    have : ¬ 0 < sgR q := fun h2 => by have := h.1 h2; grind
    omega
/-- the truth value -/
noncomputable def tv (p : Prop) : Bool := @decide p (Classical.propDecidable p)
theorem tv_t {p : Prop} (h : p) : tv p = true := @decide_eq_true p (Classical.propDecidable p) h
theorem tv_f {p : Prop} (h : ¬ p) : tv p = false := @decide_eq_false p (Classical.propDecidable p) h
theorem tv_true {p : Prop} (h : tv p = true) : p := @of_decide_eq_true p (Classical.propDecidable p) h
theorem tv_false {p : Prop} (h : tv p = false) : ¬ p := @of_decide_eq_false p (Classical.propDecidable p) h
theorem tv_iff {p q : Prop} (h : p ↔ q) : tv p = tv q := by rw [propext h]
/-- term i of a form stands in order -/
def OkTm (F : List (Int × Rat)) (vars : Int) (i : Nat) : Prop := ∀ v c, F[i]? = some (v, c) → 0 ≤ v ∧ v < vars ∧ c ≠ 0 ∧ ∀ v' c', 0 < i → F[i - 1]? = some (v', c') → v' < v
def OkFm (f : Form) (vars : Int) : Prop := ∀ i, i < f.1.length → OkTm f.1 vars i
/-- bounds of a form -/
structure BdF (b : Nat) (f : Form) : Prop where
  l : f.1.length ≤ 100000000
  t : ∀ t ∈ f.1, H t.2 ≤ b
  k : H f.2 ≤ b
theorem BdF.mono {b c : Nat} {f : Form} (h : BdF b f) (hb : b ≤ c) : BdF c f := ⟨h.l, fun t ht => Nat.le_trans (h.t t ht) hb, Nat.le_trans h.k hb⟩
theorem validF_c {n : Nat} {f : Form} {vars : Int} (hB : BdF 17179869184 f) : run n 57 [formV f, .lit (.int .i64 vars)] = some (.lit (.bool (tv (OkFm f vars)))) := by
  have hl := hB.l
  have L := loopG_all (O := tab n) (P := Tryz.prog) (m := 0) (N := 59) (lives := livesOf 57) (r := 2) (C := va_C2) (M := f.1.length) (enc := va_h2 f vars) (p := fun i => tv (OkTm f.1 vars i)) (exN := .exit 0) (exE := .ret) (out := va_o2b f) (outE := va_o2a f) (by omega) (by simp) (by simp)
    (fun i hi hI => by
      have hx : f.1[i]? = some f.1[i] := List.getElem?_eq_getElem hi
      generalize f.1[i] = t at hx
      obtain ⟨v, c⟩ := t
      have hc : H c ≤ 17179869184 := hB.t _ (List.mem_of_getElem? hx)
      have C1 : (i : Int) < (f.1.length : Int) := by omega
      have W : InI ((i : Int) + 1) := ⟨by omega, by omega⟩
      have W2 : InI ((i : Int) - 1) := ⟨by omega, by omega⟩
      have hs : sgR c = 0 ↔ c = 0 := sgR_eq_zero
      by_cases h0 : 0 < i
      · have hy : f.1[i - 1]? = some (f.1[i - 1]'(by omega)) := List.getElem?_eq_getElem _
        generalize f.1[i - 1]'(by omega) = t at hy
        obtain ⟨v', c'⟩ := t
        refine ⟨fun hp => ?_, fun hp => ?_⟩
        · obtain ⟨a1, a2, a3, a4⟩ := tv_true hp v c hx
          have a5 := a4 v' c' h0 hy
          exact va_r2_1 C1 hx (by omega) (by omega) (by omega) W2 hy (by omega) (by omega) hc (fun h => a3 (hs.1 h)) W
        · by_cases b1 : v < 0
          · exact va_x2_1 C1 hx b1
          · by_cases b2 : vars ≤ v
            · exact va_x2_2 C1 hx b1 b2
            · by_cases b3 : v ≤ v'
              · exact va_x2_3 C1 hx b1 b2 (by omega) W2 hy (by omega) b3
              · by_cases b4 : c = 0
                · exact va_x2_4 C1 hx b1 b2 (by omega) W2 hy (by omega) b3 hc (hs.2 b4)
                · refine absurd (fun u d hu => ?_) (tv_false hp)
                  rw [hx] at hu; cases hu
                  exact ⟨by omega, by omega, b4, fun v2 c2 _ h2 => by rw [hy] at h2; cases h2; omega⟩
      · refine ⟨fun hp => ?_, fun hp => ?_⟩
        · obtain ⟨a1, a2, a3, a4⟩ := tv_true hp v c hx
          exact va_r2_2 C1 hx (by omega) (by omega) (by omega) hc (fun h => a3 (hs.1 h)) W
        · by_cases b1 : v < 0
          · exact va_x2_1 C1 hx b1
          · by_cases b2 : vars ≤ v
            · exact va_x2_2 C1 hx b1 b2
            · by_cases b4 : c = 0
              · exact va_x2_5 C1 hx b1 b2 (by omega) hc (hs.2 b4)
              · refine absurd (fun u d hu => ?_) (tv_false hp)
                rw [hx] at hu; cases hu
                exact ⟨by omega, by omega, b4, fun v2 c2 h2 => absurd h2 h0⟩)
    (va_x2_6 (by omega))
  by_cases h : OkFm f vars
  · rw [if_pos (fun i hi => tv_t (h i hi))] at L
    rw [tv_t h]
    exact va_f2 L hB.k
  · rw [if_neg (fun h2 => h fun i hi => tv_true (h2 i hi))] at L
    rw [tv_f h]
    exact va_f1 L
theorem all_idx {α : Type} {L : List α} {p : α → Prop} : (∀ i, i < L.length → ∀ x, L[i]? = some x → p x) ↔ ∀ x ∈ L, p x := by
  constructor
  · intro h x hx
    obtain ⟨i, hi⟩ := List.mem_iff_getElem?.1 hx
    exact h i (List.getElem?_eq_some_iff.1 hi).1 x hi
  · intro h i _ x hx
    exact h x (List.mem_of_getElem? hx)
theorem validFs_c {n : Nat} {L : List Form} {vars : Int} (hl : L.length ≤ 100000000) (hB : ∀ f ∈ L, BdF 17179869184 f) : run (n + 1) 86 [.sl 4 (L.map formC), .lit (.int .i64 vars)] = some (.lit (.bool (tv (∀ f ∈ L, OkFm f vars)))) := by
  have hG := loopG_all (O := tab (n + 1)) (P := Tryz.prog) (m := 0) (N := 19) (lives := livesOf 86) (r := 2) (C := vl_C2) (M := L.length) (enc := vl_h2 L vars) (p := fun i => tv (∀ f, L[i]? = some f → OkFm f vars)) (exN := .exit 0) (exE := .ret) (out := vl_o2b) (outE := vl_o2a) (by omega) (by simp) (by simp)
    (fun i hi hI => by
      have hx : L[i]? = some L[i] := List.getElem?_eq_getElem hi
      generalize L[i] = f at hx
      have C1 : (i : Int) < (L.length : Int) := by omega
      have W : InI ((i : Int) + 1) := ⟨by omega, by omega⟩
      have K := validF_c (n := n) (vars := vars) (hB f (List.mem_of_getElem? hx))
      have e : tv (∀ g, L[i]? = some g → OkFm g vars) = tv (OkFm f vars) := tv_iff ⟨fun h => h f hx, fun h g hg => by rw [hx] at hg; cases hg; exact h⟩
      rw [e]
      exact ⟨fun hp => vl_r2_1 C1 hx K hp W, fun hp => vl_x2_1 C1 hx K hp⟩)
    (vl_x2_2 (by omega))
  by_cases h : ∀ f ∈ L, OkFm f vars
  · rw [if_pos (fun i hi => tv_t (all_idx.2 h i hi))] at hG
    rw [tv_t h]
    exact vl_f2 hG
  · rw [if_neg (fun h2 => h (all_idx.1 fun i hi => tv_true (h2 i hi)))] at hG
    rw [tv_f h]
    exact vl_f1 hG
theorem validRs_c {n : Nat} {L : List Rat} (hl : L.length ≤ 100000000) (hB : ∀ q ∈ L, H q ≤ 17179869184) : run n 87 [.sl 3 (L.map ratC)] = some (.lit (.bool true)) := by
  have hG := (loopG_I (O := tab n) (P := Tryz.prog) (m := 0) (N := 16) (lives := livesOf 87) (r := 2) (C := vn_C2) (L := L) (f := fun _ (b : Unit) _ => b) (enc := fun i _ => vn_h2 L i) (exN := .exit 0) (out := fun _ => vn_o2a) (Inv := fun _ _ => True) () trivial (by omega) (by simp)
    (fun i x b hi hI => by
      have hlt := (List.getElem?_eq_some_iff.1 hi).1
      exact ⟨vn_r2_1 (by omega) hi (hB x (List.mem_of_getElem? hi)) ⟨by omega, by omega⟩, trivial⟩)
    (fun b hI => vn_x2_1 (by omega))).1
  exact vn_f1 hG
/-- a graph that is valid -/
structure OkGr (g : TGraph) : Prop where
  i0 : 1 ≤ g.Inputs
  i1 : g.Inputs ≤ 256
  u : (g.Units.length : Int) ≤ 1024
  o0 : 1 ≤ (g.Outputs.length : Int)
  o1 : (g.Outputs.length : Int) ≤ 256
  un : ∀ i, i < g.Units.length → ∀ f, g.Units[i]? = some f → OkFm f (g.Inputs + (i : Int))
  ou : ∀ f ∈ g.Outputs, OkFm f (g.Inputs + (g.Units.length : Int))
structure BdG (b : Nat) (g : TGraph) : Prop where
  lu : g.Units.length ≤ 100000000
  lo : g.Outputs.length ≤ 100000000
  u : ∀ f ∈ g.Units, BdF b f
  o : ∀ f ∈ g.Outputs, BdF b f
theorem validG_c {n : Nat} {g : TGraph} (hB : BdG 17179869184 g) : run (n + 2) 55 [graphV g] = some (.lit (.bool (tv (OkGr g)))) := by
  have hlu := hB.lu
  have hlo := hB.lo
  by_cases c1 : g.Inputs < 1
  · rw [tv_f (fun h => by have := h.i0; omega)]; exact vg_f1 c1
  by_cases c2 : 256 < g.Inputs
  · rw [tv_f (fun h => by have := h.i1; omega)]; exact vg_f2 c1 c2
  by_cases c3 : 1024 < (g.Units.length : Int)
  · rw [tv_f (fun h => by have := h.u; omega)]; exact vg_f3 c1 c2 c3
  by_cases c4 : (g.Outputs.length : Int) < 1
  · rw [tv_f (fun h => by have := h.o0; omega)]; exact vg_f4 c1 c2 c3 c4
  by_cases c5 : 256 < (g.Outputs.length : Int)
  · rw [tv_f (fun h => by have := h.o1; omega)]; exact vg_f5 c1 c2 c3 c4 c5
  have hG := loopG_all (O := tab (n + 2)) (P := Tryz.prog) (m := 0) (N := 57) (lives := livesOf 55) (r := 4) (C := vg_C4) (M := g.Units.length) (enc := vg_h4 g) (p := fun i => tv (∀ f, g.Units[i]? = some f → OkFm f (g.Inputs + (i : Int)))) (exN := .exit 0) (exE := .ret) (out := vg_o4b g) (outE := vg_o4a g) (by omega) (by simp) (by simp)
    (fun i hi hI => by
      have hx : g.Units[i]? = some g.Units[i] := List.getElem?_eq_getElem hi
      generalize g.Units[i] = f at hx
      have C1 : (i : Int) < (g.Units.length : Int) := by omega
      have W : InI ((i : Int) + 1) := ⟨by omega, by omega⟩
      have W2 : InI (g.Inputs + (i : Int)) := ⟨by omega, by omega⟩
      have K := validF_c (n := n + 1) (vars := g.Inputs + (i : Int)) (hB.u f (List.mem_of_getElem? hx))
      have e : tv (∀ f, g.Units[i]? = some f → OkFm f (g.Inputs + (i : Int))) = tv (OkFm f (g.Inputs + (i : Int))) := tv_iff ⟨fun h => h f hx, fun h g hg => by rw [hx] at hg; cases hg; exact h⟩
      rw [e]
      exact ⟨fun hp => vg_r4_1 C1 hx W2 K hp W, fun hp => vg_x4_1 C1 hx W2 K hp⟩)
    (vg_x4_2 (by omega))
  by_cases h : ∀ i, i < g.Units.length → ∀ f, g.Units[i]? = some f → OkFm f (g.Inputs + (i : Int))
  · rw [if_pos (fun i hi => tv_t (h i hi))] at hG
    have K := validFs_c (n := n) (vars := g.Inputs + (g.Units.length : Int)) hlo hB.o
    have e : tv (OkGr g) = tv (∀ f ∈ g.Outputs, OkFm f (g.Inputs + (g.Units.length : Int))) := tv_iff ⟨fun k => k.ou, fun k => ⟨by omega, by omega, by omega, by omega, by omega, h, k⟩⟩
    rw [e]
    exact vg_f7 c1 c2 c3 c4 c5 hG ⟨by omega, by omega⟩ K
  · rw [if_neg (fun h2 => h fun i hi => tv_true (h2 i hi))] at hG
    rw [tv_f (fun k => h k.un)]
    exact vg_f6 c1 c2 c3 c4 c5 hG
theorem vars_c {n : Nat} {g : TGraph} (hB : BdG 17179869184 g) : run (n + 3) 58 [graphV g] = some (.lit (.int .i64 (if tv (OkGr g) = true then g.Inputs + (g.Units.length : Int) else 0))) := by
  have K := validG_c (n := n) hB
  cases h : tv (OkGr g) with
  | false => rw [h] at K; exact vars_f1 K rfl
  | true =>
    rw [h] at K
    have h2 := tv_true h
    have := h2.i0
    have := h2.i1
    have := h2.u
    exact vars_f2 K rfl ⟨by omega, by omega⟩
/-- small things are valid -/
theorem SmF.ok {N : Nat} {f : Form} {vars : Int} (h : SmF N f) (hv : (N : Int) ≤ vars) : OkFm f vars := fun i hi v c hx => by
  obtain ⟨a1, a2, a3, a4⟩ := h.l.each _ (List.mem_of_getElem? hx)
  dsimp only at a1 a2 a3
  refine ⟨a1, by omega, a3, fun v' c' h0 hy => ?_⟩
  obtain ⟨l1, e1⟩ := List.getElem?_eq_some_iff.1 hx
  obtain ⟨l2, e2⟩ := List.getElem?_eq_some_iff.1 hy
  have := List.pairwise_iff_getElem.1 h.l.sorted (i - 1) i l2 l1 (by omega)
  rw [e1, e2] at this
  exact this
theorem SmF.bd {N : Nat} {f : Form} (h : SmF N f) (hN : N ≤ 100000000) : BdF 2 f := ⟨by have := h.l.len; omega, fun t ht => (h.l.each t ht).2.2.2, h.k⟩
theorem GrOk.ok {g : TGraph} (h : GrOk g) : OkGr g := by
  have := h.i0
  have := h.i1
  have := h.u
  have := h.o0
  have := h.o1
  exact ⟨by omega, by omega, by omega, by omega, by omega, fun i hi f hf => (h.un i f hf).ok (by omega), fun f hf => (h.ou f hf).ok (by omega)⟩
theorem GrOk.bd {g : TGraph} (h : GrOk g) : BdG 2 g := by
  have := h.i0
  have := h.i1
  have := h.u
  have := h.o1
  refine ⟨by omega, by omega, fun f hf => ?_, fun f hf => (h.ou f hf).bd (by omega)⟩
  obtain ⟨i, hi⟩ := List.mem_iff_getElem?.1 hf
  have := (List.getElem?_eq_some_iff.1 hi).1
  exact (h.un i f hi).bd (by omega)
theorem BdG.mono {b c : Nat} {g : TGraph} (h : BdG b g) (hb : b ≤ c) : BdG c g := ⟨h.lu, h.lo, fun f hf => (h.u f hf).mono hb, fun f hf => (h.o f hf).mono hb⟩
theorem validR_small {n I : Nat} {r : TRegion} (h : RgOk I r) (hI : 1 ≤ I) (hI2 : I ≤ 256) : run (n + 2) 56 [regionV r, .lit (.int .i64 (I : Int))] = some (.lit (.bool true)) := by
  have h1 := h.lo
  have h2 := h.hi
  have h3 := h.rows
  have K1 := validRs_c (n := n + 1) (L := r.Lo) (by omega) (fun q hq => by have := h.lob q hq; omega)
  have K2 := validRs_c (n := n + 1) (L := r.Hi) (by omega) (fun q hq => by have := h.hib q hq; omega)
  have K3 := validFs_c (n := n) (L := r.Rows) (vars := (I : Int)) (by omega) (fun f hf => ((h.rws f hf).bd (by omega)).mono (by omega))
  rw [tv_t (fun f hf => (h.rws f hf).ok (Int.le_refl _))] at K3
  have hG := (loopG_I (O := tab (n + 2)) (P := Tryz.prog) (m := 0) (N := 66) (lives := livesOf 56) (r := 6) (C := vr19_C6) (L := r.Lo) (f := fun _ (b : Unit) _ => b) (enc := fun i _ => vr19_h6 r (I : Int) i) (exN := .exit 0) (out := fun _ => vr19_o6b) (Inv := fun _ _ => True) () trivial (by omega) (by simp)
    (fun i x b hi hI => by
      have hlt := (List.getElem?_eq_some_iff.1 hi).1
      have hy : r.Hi[i]? = some (r.Hi[i]'(by omega)) := List.getElem?_eq_getElem _
      generalize r.Hi[i]'(by omega) = y at hy
      have hle := h.le i x y hi hy
      have := h.lob x (List.mem_of_getElem? hi)
      have := h.hib y (List.mem_of_getElem? hy)
      refine ⟨vr19_r6_1 (by omega) hi hy (by omega) (by omega) (fun hs => ?_) ⟨by omega, by omega⟩, trivial⟩
      have : 0 < x - y := sgq_pos.1 hs
      grind)
    (fun b hI => vr19_x6_2 (by omega))).1
  exact vr19_f10 (by omega) (by omega) (by omega) (by omega) (by omega) K1 rfl K2 rfl K3 rfl hG
theorem validQ_small {n : Nat} {q : TQuery} (h : QuOk q) : run (n + 4) 25 [queryV q] = some (.lit (.bool true)) := by
  have hg := h.gr
  have := hg.i0
  have := hg.i1
  have := hg.u
  have K1 := validG_c (n := n + 1) (hg.bd.mono (by omega))
  rw [tv_t hg.ok] at K1
  have K2 := validR_small (n := n + 1) h.rg (by omega) (by omega)
  have e : ((q.Graph.Inputs.toNat : Nat) : Int) = q.Graph.Inputs := by omega
  rw [e] at K2
  have K3 := vars_c (n := n) (hg.bd.mono (by omega))
  rw [if_pos (tv_t hg.ok)] at K3
  have K4 := validF_c (n := n + 3) (f := q.Goal) (vars := q.Graph.Inputs + (q.Graph.Units.length : Int)) ((h.go.bd (by omega)).mono (by omega))
  rw [tv_t (h.go.ok (by omega))] at K4
  exact vq_f1 K1 rfl K2 rfl K3 K4
end Go.Proofs.YtjobiobdpnhooaaGreatDoor
