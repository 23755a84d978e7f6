/- relucertref07: nonzero, plus, Add, Scale, Var, Eval: what they return. Valid forms (relucertref07): what the call returns; the truth value; bounds of forms. relucertref07.Eval: what it returns. relucertref15.Feed: what a feed of bytes yields: numbers, forms, graphs, regions, queries. Valid forms, graphs, regions, queries (relucertref03, 07, 15, 19, 21): what the calls return. relucertref07.Eval; relucertref03.Max; relucertref15.Values, forms, Pre; relucertref19.Inside: what they return. linear.put: what it returns. linear.merge, Add, Sub, Scale: what they return. Sorted lists of terms without zeros: sums and multiples, as the program and as the reference build them, are the same. relucertref07.Equal: what it returns. -/
import Derived.Test.YtlpmemelhlnfbaaGreatDoorGA6
import Derived.Test.YtlpmemelhlnfbaaGreatDoorGA7
import Derived.Test.YtlpmemelhlnfbaaGreatDoorGA5
import Derived.Test.YtlpmemelhlnfbaaGreatDoorGA9
set_option linter.all false
set_option linter.all false
set_option maxRecDepth 100000
set_option maxHeartbeats 6400000
namespace Go.Proofs.YtlpmemelhlnfbaaGreatDoor
open Go.RowKit

theorem nz_same {n : Nat} {F : List (Int × Rat)} {v : Int} {q : Rat} (hq : H q ≤ 17179869184) (h0 : q = 0) :
    runL n 163 [.own 0 F.length, .agg [.lit (.int .i64 v), .lit (.bool (rawQ q).s), natA (rawQ q).l1, natA (rawQ q).l2]] [.row 84 4 (F.map termC) 0] = some (.own 0 F.length, [(0, .row 84 4 (F.map termC) 0)]) := by
  unfold runL fnL
  have hs := r_sign (p := q) hq
  have e2 : (sgR q == 0) = true := by rw [sgR_eq_zero.2 h0]; rfl
  simp +decide [Tryz.f163, hs, e2]
theorem nz_new {n : Nat} {F : List (Int × Rat)} {v : Int} {q : Rat} (hq : H q ≤ 17179869184) (h0 : q ≠ 0) (hF : F.length ≤ 10000000) :
    runL n 163 [.own 0 F.length, .agg [.lit (.int .i64 v), .lit (.bool (rawQ q).s), natA (rawQ q).l1, natA (rawQ q).l2]] [.row 84 4 (F.map termC) 0] = some (.own 3 (F ++ [(v, q)]).length, [(3, .row 84 4 ((F ++ [(v, q)]).map termC) 0)]) := by
  unfold runL fnL
  have hs := r_sign (p := q) hq
  have e2 : (sgR q == 0) = false := by simpa using fun h => h0 (sgR_eq_zero.1 h)
  have hr : ∀ b, b ≤ 10000 → roomy (F.length + 1) b = true := fun b hb => roomy_s (by omega) hb
  simp +decide [Tryz.f163, hs, e2, hr]
/-- a round of plus -/
def plF (v : Int) (c : Rat) (i : Nat) (b : List (Int × Rat) × Bool) (t : Int × Rat) : List (Int × Rat) × Bool :=
  if t.1 = v then (b.1 ++ put1 t.1 (t.2 + c), true) else if b.2 = false ∧ v < t.1 then (b.1 ++ (put1 v c ++ put1 t.1 t.2), true) else (b.1 ++ put1 t.1 t.2, b.2)
theorem plF_fold (v : Int) (c : Rat) : ∀ (R : List (Int × Rat)) (i : Nat) (out : List (Int × Rat)) (d : Bool), foldI (plF v c) i (out, d) R = (out ++ plO d R v c, plD d R v)
  | [], i, out, d => by simp [foldI, plO, plD]
  | t :: R, i, out, d => by
    rw [foldI, plO, plD, plF]
    split
    · rw [plF_fold]; simp [List.append_assoc]
    · split
      · rw [plF_fold]; simp [List.append_assoc]
      · rw [plF_fold]; simp [List.append_assoc]
/-- terms of a form that may be handed to plus -/
theorem pl_step {n : Nat} {f : Form} {v : Int} {c : Rat} (hT : TmB 1000000 f.1) (hF : f.1.length ≤ 400000) (hc : H c ≤ 1000000) {i : Nat} {t : Int × Rat} {b : List (Int × Rat) × Bool} (hi : f.1[i]? = some t) (hb : b.1.length ≤ 2 * i) :
    Cont 0 (exec Tryz.prog (tab (n + 1)) 0 61 (livesOf 138) big pl_C4) (livesOf 138 4) (pl_h4 f v c b.1 b.2 i) (pl_h4 f v c (plF v c i b t).1 (plF v c i b t).2 (i + 1)) := by
  obtain ⟨u, q⟩ := t
  obtain ⟨out, d⟩ := b
  have hlt := (List.getElem?_eq_some_iff.1 hi).1
  have ht := hT _ (List.mem_of_getElem? hi)
  have hq : H q ≤ 1000000 := ht.2
  have hq0 : q ≠ 0 := ht.1
  have hH := H_add q c
  have C1 : (i : Int) < (f.1.length : Int) := by omega
  have W : InI ((i : Int) + 1) := ⟨by omega, by omega⟩
  have hb : out.length ≤ 2 * i := hb
  have e3 : put1 u q = [(u, q)] := if_neg hq0
  unfold plF
  dsimp only
  split
  · rename_i e
    by_cases h0 : q + c = 0
    · have e4 : put1 u (q + c) = [] := if_pos h0
      rw [e4, List.append_nil]
      exact pl_r4_1 C1 hi e (by omega) (by omega) (nz_same (by omega) h0) W
    · have e4 : put1 u (q + c) = [(u, q + c)] := if_neg h0
      rw [e4]
      exact pl_r4_2 C1 hi e (by omega) (by omega) (nz_new (by omega) h0 (by omega)) W
  · rename_i e
    split
    · rename_i e2
      obtain ⟨e2, e5⟩ := e2
      rw [e3]
      by_cases h0 : c = 0
      · have e4 : put1 v c = [] := if_pos h0
        rw [e4, List.nil_append]
        exact pl_r4_4 C1 hi e e2 e5 (by omega) (nz_same (by omega) h0) (nz_new (by omega) hq0 (by omega)) W
      · have e4 : put1 v c = [(v, c)] := if_neg h0
        rw [e4, ← List.append_assoc]
        exact pl_r4_6 C1 hi e e2 e5 (by omega) (nz_new (by omega) h0 (by omega)) (nz_new (by omega) hq0 (by rw [List.length_append]; simp; omega)) W
    · rename_i e2
      rw [e3]
      cases d with
      | true => exact pl_r4_10 C1 hi e rfl (nz_new (by omega) hq0 (by omega)) W
      | false => exact pl_r4_8 C1 hi e rfl (fun h => e2 ⟨rfl, h⟩) (nz_new (by omega) hq0 (by omega)) W
theorem plF_len (v : Int) (c : Rat) (i : Nat) (b : List (Int × Rat) × Bool) (t : Int × Rat) : (plF v c i b t).1.length ≤ b.1.length + 2 := by
  have h1 := put1_len t.1 (t.2 + c)
  have h2 := put1_len v c
  have h3 := put1_len t.1 t.2
  unfold plF
  split
  · rw [List.length_append]; omega
  · split
    · rw [List.length_append, List.length_append]; omega
    · rw [List.length_append]; omega
/-- plus -/
theorem plus_c {n : Nat} {f : Form} {v : Int} {c : Rat} (hT : TmB 1000000 f.1) (hF : f.1.length ≤ 400000) (hc : H c ≤ 1000000) :
    run (n + 1) 138 [formV f, .lit (.int .i64 v), ratV c] = some (formV (plusV false f.1 v c, f.2)) := by
  have L : loopG Tryz.prog (tab (n + 1)) 0 61 (livesOf 138) 4 pl_C4 (pl_h4 f v c [] false 0) = some (.exit 0, pl_o4a f v c (plO false f.1 v c) (plD false f.1 v)) := by
    have h := (loopG_I (O := tab (n + 1)) (exN := .exit 0) (L := f.1) (enc := fun i b => pl_h4 f v c b.1 b.2 i) (f := plF v c) (Inv := fun i b => b.1.length ≤ 2 * i) (out := fun b => pl_o4a f v c b.1 b.2) ([], false) (by simp) (by omega) (by simp)
      (fun i t b hi hI => ⟨pl_step hT hF hc hi hI, by have := plF_len v c i b t; omega⟩) (fun b hI => pl_x4_1 (by omega))).1
    rw [plF_fold] at h
    exact h
  have hl := plO_len v c false f.1
  rw [plusV_plO]
  cases hd : plD false f.1 v with
  | true =>
    rw [hd] at L
    rw [if_pos rfl, List.append_nil]
    exact pl_f3 L rfl
  | false =>
    rw [hd] at L
    rw [if_neg (by simp)]
    by_cases h0 : c = 0
    · have e : put1 v c = [] := if_pos h0
      rw [e, List.append_nil]
      exact pl_f1 L rfl (by omega) (nz_same (by omega) h0)
    · have e : put1 v c = [(v, c)] := if_neg h0
      rw [e]
      exact pl_f2 L rfl (by omega) (nz_new (by omega) h0 (by omega))
/-- Scale -/
theorem scale_c {n : Nat} {f : Form} {c : Rat} (hT : TmB 1000000 f.1) (hF : f.1.length ≤ 400000) (hk : H f.2 ≤ 1000000) (hc : H c ≤ 1000000) :
    run (n + 1) 87 [formV f, ratV c] = some (formV (sclV f.1 c, f.2 * c)) := by
  have key : ∀ (R : List (Int × Rat)) (i : Nat) (o : List (Int × Rat)), foldI (fun _ b (t : Int × Rat) => b ++ put1 t.1 (t.2 * c)) i o R = o ++ sclV R c := fun R => by
    induction R with
    | nil => intro i o; simp [foldI, sclV]
    | cons t R ih => intro i o; rw [foldI, ih]; simp [sclV, List.append_assoc]
  refine sc_f1 (by omega) (by omega) ?_
  have h := (loopG_I (O := tab (n + 1)) (exN := .exit 0) (L := f.1) (enc := fun i b => sc_h3 f c i b) (f := fun _ b (t : Int × Rat) => b ++ put1 t.1 (t.2 * c)) (Inv := fun i b => b.length ≤ i) (out := fun b => sc_o3a f c b) [] (by simp) (by omega) (by simp)
    (fun i t b hi hI => by
      obtain ⟨u, q⟩ := t
      have hlt := (List.getElem?_eq_some_iff.1 hi).1
      have hq : H q ≤ 1000000 := (hT _ (List.mem_of_getElem? hi)).2
      have hm := H_mul q c
      have C1 : (i : Int) < (f.1.length : Int) := by omega
      have W : InI ((i : Int) + 1) := ⟨by omega, by omega⟩
      have hl := put1_len u (q * c)
      refine ⟨?_, by rw [List.length_append]; dsimp only; omega⟩
      dsimp only
      by_cases h0 : q * c = 0
      · have e : put1 u (q * c) = [] := if_pos h0
        rw [e, List.append_nil]
        exact sc_r3_1 C1 hi (by omega) (by omega) (nz_same (by omega) h0) W
      · have e : put1 u (q * c) = [(u, q * c)] := if_neg h0
        rw [e]
        exact sc_r3_2 C1 hi (by omega) (by omega) (nz_new (by omega) h0 (by omega)) W) (fun b hI => sc_x3_1 (by omega))).1
  rw [key, List.nil_append] at h
  exact h
/-- Add -/
theorem add_c {n : Nat} {f g : Form} {m b : Nat} (hT : TmB b g.1) (hG : g.1.length ≤ 200000) (hF : TmB m f.1) (hl : f.1.length ≤ 200000) (hm : m + (b + 1) * (g.1.length + 1) ≤ 1000000) (h1 : H f.2 ≤ 1000000) (h2 : H g.2 ≤ 1000000) :
    run (n + 2) 115 [formV f, formV g] = some (formV (addV f.1 g.1, f.2 + g.2)) := by
  have key : ∀ (R : List (Int × Rat)) (i : Nat) (o : List (Int × Rat)), foldI (fun _ b (t : Int × Rat) => plusV false b t.1 t.2) i o R = addV o R := fun R => by
    induction R with
    | nil => intro i o; rfl
    | cons t R ih => intro i o; rw [foldI, ih]; rfl
  have hlen : ∀ (R o : List (Int × Rat)), (addV o R).length ≤ o.length + R.length := fun R => by
    induction R with
    | nil => intro o; simp [addV]
    | cons t R ih =>
      intro o
      have h1 := ih (plusV false o t.1 t.2)
      have h2 := plusV_len false o t.1 t.2
      show (addV (plusV false o t.1 t.2) R).length ≤ _
      rw [List.length_cons]; omega
  refine ad_f1 (by omega) (by omega) ?_ (by have := hlen g.1 f.1; omega)
  have h := (loopG_I (O := tab (n + 2)) (exN := .exit 0) (L := g.1) (enc := fun i o => ad_h3 g i o (f.2 + g.2)) (f := fun _ o (t : Int × Rat) => plusV false o t.1 t.2) (Inv := fun i o => o.length ≤ f.1.length + i ∧ TmB (m + (b + 1) * i) o ∧ i ≤ g.1.length) (out := fun o => ad_o3a o (f.2 + g.2)) f.1 ⟨by omega, by simpa using hF, by omega⟩ (by omega) (by simp)
    (fun i t o hi hI => by
      obtain ⟨u, q⟩ := t
      obtain ⟨hI1, hI2, hI3⟩ := hI
      have hlt := (List.getElem?_eq_some_iff.1 hi).1
      have hq : H q ≤ b := (hT _ (List.mem_of_getElem? hi)).2
      have C1 : (i : Int) < (g.1.length : Int) := by omega
      have W : InI ((i : Int) + 1) := ⟨by omega, by omega⟩
      have hl2 := plusV_len false o u q
      have hmi : (b + 1) * i ≤ (b + 1) * (g.1.length + 1) := Nat.mul_le_mul_left _ (by omega)
      have hb1 : b + 1 ≤ (b + 1) * (g.1.length + 1) := Nat.le_mul_of_pos_right _ (by omega)
      have e : m + (b + 1) * (i + 1) = m + (b + 1) * i + b + 1 := by rw [Nat.mul_succ]; omega
      refine ⟨ad_r3_1 (r3 := (plusV false o u q, f.2 + g.2)) C1 hi (plus_c (f := (o, f.2 + g.2)) (hI2.mono (by omega)) (by dsimp only; omega) (by omega)) W, by dsimp only; omega, ?_, hlt⟩
      rw [e]
      exact hI2.plus hq) (fun b hI => ad_x3_1 (by omega))).1
  rw [key] at h
  exact h
/-- Var -/
theorem var_c {n : Nat} (v : Int) : run n 88 [.lit (.int .i64 v)] = some (formV ([(v, 1)], 0)) := by
  have h := vr_f1 (n := n) (a0 := v)
  have e : ofQ 1 = 1 := by decide +kernel
  rw [e] at h
  rw [h]
  simp
end Go.Proofs.YtlpmemelhlnfbaaGreatDoor
set_option linter.all false
set_option maxRecDepth 100000
set_option maxHeartbeats 6400000
namespace Go.Proofs.YtlpmemelhlnfbaaGreatDoor
open Go.RowKit
attribute [local irreducible] run runL loopG exec
theorem num_nonpos (q : Rat) : q.num ≤ 0 ↔ q ≤ 0 := by
  have h := @Rat.num_nonneg (-q)
  have e : (-q).num = -q.num := rfl
  rw [e] at h
  constructor
  · intro h1
    have : 0 ≤ -q := h.1 (by omega)
    grind
  · intro h1
    have h2 : 0 ≤ -q := by grind
    have := h.2 h2
    omega
theorem sgq_pos {q : Rat} : 0 < sgR q ↔ 0 < q := by
  unfold sgR
  have h := num_nonpos q
  constructor
  · intro h1
    have h2 : 0 < q.num := Int.sign_pos_iff.1 h1
    have : ¬ q ≤ 0 := fun h3 => by have := h.2 h3; omega
    grind
  · intro h1
    refine Int.sign_pos_iff.2 ?_
    have : ¬ q.num ≤ 0 := fun h3 => by have := h.1 h3; grind
    omega
theorem sgq_nonneg {q : Rat} : 0 ≤ sgR q ↔ 0 ≤ q := by
  unfold sgR
  rw [← Rat.num_nonneg]
  exact Int.sign_nonneg_iff
theorem sgq_nonpos {q : Rat} : sgR q ≤ 0 ↔ q ≤ 0 := by
  have h := @sgq_pos q
  constructor
  · intro h1
    have : ¬ 0 < q := fun h2 => by have := h.2 h2; omega
    grind
  · intro h1
    have : ¬ 0 < sgR q := fun h2 => by have := h.1 h2; grind
    omega
/-- the truth value -/
noncomputable def tv (p : Prop) : Bool := @decide p (Classical.propDecidable p)
theorem tv_t {p : Prop} (h : p) : tv p = true := @decide_eq_true p (Classical.propDecidable p) h
theorem tv_f {p : Prop} (h : ¬ p) : tv p = false := @decide_eq_false p (Classical.propDecidable p) h
theorem tv_true {p : Prop} (h : tv p = true) : p := @of_decide_eq_true p (Classical.propDecidable p) h
theorem tv_false {p : Prop} (h : tv p = false) : ¬ p := @of_decide_eq_false p (Classical.propDecidable p) h
theorem tv_iff {p q : Prop} (h : p ↔ q) : tv p = tv q := by rw [propext h]
/-- term i of a form stands in order -/
def OkTm (F : List (Int × Rat)) (vars : Int) (i : Nat) : Prop := ∀ v c, F[i]? = some (v, c) → 0 ≤ v ∧ v < vars ∧ c ≠ 0 ∧ ∀ v' c', 0 < i → F[i - 1]? = some (v', c') → v' < v
def OkFm (f : Form) (vars : Int) : Prop := ∀ i, i < f.1.length → OkTm f.1 vars i
/-- bounds of a form -/
structure BdF (b : Nat) (f : Form) : Prop where
  l : f.1.length ≤ 100000000
  t : ∀ t ∈ f.1, H t.2 ≤ b
  k : H f.2 ≤ b
theorem BdF.mono {b c : Nat} {f : Form} (h : BdF b f) (hb : b ≤ c) : BdF c f := ⟨h.l, fun t ht => Nat.le_trans (h.t t ht) hb, Nat.le_trans h.k hb⟩
theorem validF_c {n : Nat} {f : Form} {vars : Int} (hB : BdF 17179869184 f) : run n 51 [formV f, .lit (.int .i64 vars)] = some (.lit (.bool (tv (OkFm f vars)))) := by
  have hl := hB.l
  have L := loopG_all (O := tab n) (P := Tryz.prog) (m := 0) (N := 59) (lives := livesOf 51) (r := 2) (C := va_C2) (M := f.1.length) (enc := va_h2 f vars) (p := fun i => tv (OkTm f.1 vars i)) (exN := .exit 0) (exE := .ret) (out := va_o2b f) (outE := va_o2a f) (by omega) (by simp) (by simp)
    (fun i hi hI => by
      have hx : f.1[i]? = some f.1[i] := List.getElem?_eq_getElem hi
      generalize f.1[i] = t at hx
      obtain ⟨v, c⟩ := t
      have hc : H c ≤ 17179869184 := hB.t _ (List.mem_of_getElem? hx)
      have C1 : (i : Int) < (f.1.length : Int) := by omega
      have W : InI ((i : Int) + 1) := ⟨by omega, by omega⟩
      have W2 : InI ((i : Int) - 1) := ⟨by omega, by omega⟩
      have hs : sgR c = 0 ↔ c = 0 := sgR_eq_zero
      by_cases h0 : 0 < i
      · have hy : f.1[i - 1]? = some (f.1[i - 1]'(by omega)) := List.getElem?_eq_getElem _
        generalize f.1[i - 1]'(by omega) = t at hy
        obtain ⟨v', c'⟩ := t
        refine ⟨fun hp => ?_, fun hp => ?_⟩
        · obtain ⟨a1, a2, a3, a4⟩ := tv_true hp v c hx
          have a5 := a4 v' c' h0 hy
          exact va_r2_1 C1 hx (by omega) (by omega) (by omega) W2 hy (by omega) (by omega) hc (fun h => a3 (hs.1 h)) W
        · by_cases b1 : v < 0
          · exact va_x2_1 C1 hx b1
          · by_cases b2 : vars ≤ v
            · exact va_x2_2 C1 hx b1 b2
            · by_cases b3 : v ≤ v'
              · exact va_x2_3 C1 hx b1 b2 (by omega) W2 hy (by omega) b3
              · by_cases b4 : c = 0
                · exact va_x2_4 C1 hx b1 b2 (by omega) W2 hy (by omega) b3 hc (hs.2 b4)
                · refine absurd (fun u d hu => ?_) (tv_false hp)
                  rw [hx] at hu; cases hu
                  exact ⟨by omega, by omega, b4, fun v2 c2 _ h2 => by rw [hy] at h2; cases h2; omega⟩
      · refine ⟨fun hp => ?_, fun hp => ?_⟩
        · obtain ⟨a1, a2, a3, a4⟩ := tv_true hp v c hx
          exact va_r2_2 C1 hx (by omega) (by omega) (by omega) hc (fun h => a3 (hs.1 h)) W
        · by_cases b1 : v < 0
          · exact va_x2_1 C1 hx b1
          · by_cases b2 : vars ≤ v
            · exact va_x2_2 C1 hx b1 b2
            · by_cases b4 : c = 0
              · exact va_x2_5 C1 hx b1 b2 (by omega) hc (hs.2 b4)
              · refine absurd (fun u d hu => ?_) (tv_false hp)
                rw [hx] at hu; cases hu
                exact ⟨by omega, by omega, b4, fun v2 c2 h2 => absurd h2 h0⟩)
    (va_x2_6 (by omega))
  by_cases h : OkFm f vars
  · rw [if_pos (fun i hi => tv_t (h i hi))] at L
    rw [tv_t h]
    exact va_f2 L hB.k
  · rw [if_neg (fun h2 => h fun i hi => tv_true (h2 i hi))] at L
    rw [tv_f h]
    exact va_f1 L
theorem all_idx {α : Type} {L : List α} {p : α → Prop} : (∀ i, i < L.length → ∀ x, L[i]? = some x → p x) ↔ ∀ x ∈ L, p x := by
  constructor
  · intro h x hx
    obtain ⟨i, hi⟩ := List.mem_iff_getElem?.1 hx
    exact h i (List.getElem?_eq_some_iff.1 hi).1 x hi
  · intro h i _ x hx
    exact h x (List.mem_of_getElem? hx)
end Go.Proofs.YtlpmemelhlnfbaaGreatDoor
set_option linter.all false
set_option maxRecDepth 100000
set_option maxHeartbeats 6400000
namespace Go.Proofs.YtlpmemelhlnfbaaGreatDoor
open Go.RowKit
attribute [local irreducible] run runL loopG exec

/-- a form's value -/
def evV (X : List Rat) (f : Form) : Rat := f.1.foldl (fun s t => s + t.2 * X.getD t.1.toNat 0) f.2
def evF (X : List Rat) (i : Nat) (s : Rat) (t : Int × Rat) : Except Rat Rat :=
  if t.1 < 0 ∨ (X.length : Int) ≤ t.1 then .error s else .ok (s + t.2 * X.getD t.1.toNat 0)
theorem evF_ok {X : List Rat} : ∀ {F : List (Int × Rat)} (i : Nat) (s : Rat), (∀ t ∈ F, 0 ≤ t.1 ∧ t.1 < (X.length : Int)) → foldE (evF X) i s F = .ok (F.foldl (fun s t => s + t.2 * X.getD t.1.toNat 0) s)
  | [], i, s, _ => rfl
  | t :: F, i, s, h => by
    have h1 := h t List.mem_cons_self
    have e : evF X i s t = .ok (s + t.2 * X.getD t.1.toNat 0) := if_neg (by omega)
    rw [foldE, e, List.foldl_cons]
    exact evF_ok (i + 1) _ fun u hu => h u (List.mem_cons_of_mem _ hu)
/-- Eval -/
def evR (X : List Rat) (f : Form) : AV :=
  match foldE (evF X) 0 f.2 f.1 with
  | .ok s => .tup [ratV s, .lit (.int .i64 0)]
  | .error _ => .tup [.agg [.lit (.bool false), .sl 1 [], .sl 1 []], .lit (.int .i64 2)]
theorem eval_c {n : Nat} {f : Form} {X : List Rat} {a b k : Nat} (ha : ∀ t ∈ f.1, H t.2 ≤ a) (hb : ∀ q ∈ X, H q ≤ b) (hk : H f.2 ≤ k) (hX : X.length ≤ 100000000) (hF : f.1.length ≤ 100000000) (hs : k + f.1.length * (a + b + 1) ≤ 17179869184) (hab : a + b ≤ 17179869184) :
    run n 99 [formV f, .sl 3 (X.map ratC)] = some (evR X f) ∧ ∀ s, foldE (evF X) 0 f.2 f.1 = .ok s → H s ≤ k + f.1.length * (a + b + 1) := by
  have L := loopG_E (O := tab n) (P := Tryz.prog) (m := 0) (N := 45) (lives := livesOf 99) (r := 3) (C := ev_C3) (L := f.1) (f := evF X) (enc := fun i s => ev_h3 f X i s) (exN := .exit 0) (exE := .ret) (out := ev_o3b) (outE := ev_o3a) (Inv := fun i s => H s ≤ k + i * (a + b + 1) ∧ i ≤ f.1.length) f.2 ⟨by omega, by omega⟩ (by omega) (by simp) (by simp)
    (fun i t s hi hI => by
      obtain ⟨v, c⟩ := t
      obtain ⟨hI, hle⟩ := hI
      have hlt := (List.getElem?_eq_some_iff.1 hi).1
      have hm : (i + 1) * (a + b + 1) ≤ f.1.length * (a + b + 1) := Nat.mul_le_mul_right _ hlt
      rw [Nat.add_mul, Nat.one_mul] at hm
      have C1 : (i : Int) < (f.1.length : Int) := by omega
      have W : InI ((i : Int) + 1) := ⟨by omega, by omega⟩
      unfold evF
      by_cases hv : v < 0 ∨ (X.length : Int) ≤ v
      · rw [if_pos hv]
        by_cases h0 : v < 0
        · exact ev_x3_1 C1 hi h0
        · exact ev_x3_2 C1 hi h0 (by omega)
      · rw [if_neg hv]
        have hl : v.toNat < X.length := by omega
        have h1 : X[v.toNat]? = some (X.getD v.toNat 0) := by rw [List.getD_eq_getElem?_getD, List.getElem?_eq_getElem hl]; rfl
        have hc : H c ≤ a := ha _ (List.mem_of_getElem? hi)
        have hq : H (X.getD v.toNat 0) ≤ b := hb _ (List.mem_of_getElem? h1)
        have h2 := H_mul c (X.getD v.toNat 0)
        have h3 := H_add s (c * X.getD v.toNat 0)
        dsimp only
        refine ⟨ev_r3_1 C1 hi (by omega) (by omega) h1 (by omega) (by omega) (by omega) (by omega) (by omega) W, ?_, hlt⟩
        rw [Nat.add_mul, Nat.one_mul]
        omega)
    (fun b hI => ev_x3_3 (by omega))
  refine ⟨?_, fun s hs' => (L.2 s hs').1⟩
  unfold evR
  cases hE : foldE (evF X) 0 f.2 f.1 with
  | ok s => rw [hE] at L; exact ev_f2 L.1
  | error s => rw [hE] at L; exact ev_f1 L.1
theorem eval_ok {n : Nat} {f : Form} {X : List Rat} {a b k : Nat} (ha : ∀ t ∈ f.1, H t.2 ≤ a) (hb : ∀ q ∈ X, H q ≤ b) (hk : H f.2 ≤ k) (hX : X.length ≤ 100000000) (hF : f.1.length ≤ 100000000) (hs : k + f.1.length * (a + b + 1) ≤ 17179869184) (hab : a + b ≤ 17179869184)
    (hv : ∀ t ∈ f.1, 0 ≤ t.1 ∧ t.1 < (X.length : Int)) :
    run n 99 [formV f, .sl 3 (X.map ratC)] = some (.tup [ratV (evV X f), .lit (.int .i64 0)]) ∧ H (evV X f) ≤ k + f.1.length * (a + b + 1) := by
  have h := eval_c (n := n) ha hb hk hX hF hs hab
  have e : foldE (evF X) 0 f.2 f.1 = .ok (evV X f) := evF_ok 0 f.2 hv
  refine ⟨?_, h.2 _ e⟩
  have h1 := h.1
  unfold evR at h1
  rw [e] at h1
  exact h1
end Go.Proofs.YtlpmemelhlnfbaaGreatDoor
set_option linter.all false
set_option maxRecDepth 100000
set_option maxHeartbeats 6400000
namespace Go.Proofs.YtlpmemelhlnfbaaGreatDoor
open Go.RowKit
attribute [local irreducible] run runL loopG exec

/-- the terms of a small form over the first i variables -/
structure SmL (i : Nat) (l : List (Int × Rat)) : Prop where
  len : l.length ≤ i
  sorted : l.Pairwise (fun a b => a.1 < b.1)
  each : ∀ t ∈ l, 0 ≤ t.1 ∧ t.1 < (i : Int) ∧ t.2 ≠ 0 ∧ H t.2 ≤ 2
theorem SmL.nil (i : Nat) : SmL i [] := ⟨by simp, List.Pairwise.nil, fun t ht => by cases ht⟩
theorem plus_end : ∀ (l : List (Int × Rat)) (v : Int) (q : Rat), (∀ t ∈ l, t.1 < v ∧ t.2 ≠ 0) → plusV false l v q = l ++ put1 v q
  | [], v, q, _ => rfl
  | t :: l, v, q, h => by
    have h0 := h t List.mem_cons_self
    rw [plusV_lt (by omega) (Or.inr h0.1), plus_end l v q (fun u hu => h u (List.mem_cons_of_mem _ hu))]
    unfold put1
    rw [if_neg h0.2]
    rfl
theorem SmL.step {i : Nat} {l : List (Int × Rat)} {q : Rat} (h : SmL i l) (hq : H q ≤ 2) : SmL (i + 1) (l ++ put1 (i : Int) q) := by
  by_cases h0 : q = 0
  · have e : put1 (i : Int) q = [] := by unfold put1; rw [if_pos h0]
    rw [e, List.append_nil]
    exact ⟨by have := h.len; omega, h.sorted, fun t ht => by obtain ⟨h1, h2, h3⟩ := h.each t ht; exact ⟨h1, by omega, h3⟩⟩
  · have e : put1 (i : Int) q = [((i : Int), q)] := by unfold put1; rw [if_neg h0]
    rw [e]
    refine ⟨by rw [List.length_append]; have := h.len; simp; omega, ?_, fun t ht => ?_⟩
    · rw [List.pairwise_append]
      refine ⟨h.sorted, List.pairwise_singleton _ _, fun a ha b hb => ?_⟩
      rw [List.mem_singleton.1 hb]
      exact (h.each a ha).2.1
    · rcases List.mem_append.1 ht with h9 | h9
      · obtain ⟨h1, h2, h3⟩ := h.each t h9
        exact ⟨h1, by omega, h3⟩
      · rw [List.mem_singleton.1 h9]
        exact ⟨by show (0 : Int) ≤ (i : Int); omega, by show (i : Int) < ((i + 1 : Nat) : Int); omega, h0, hq⟩
theorem num_few {x : Int} (h0 : 0 ≤ x) (h1 : x < 9) (y : Int) : H (((x - 4 : Int) : Rat) / ((dd y : Int) : Rat)) ≤ 2 := by
  have hd : dd y = 1 ∨ dd y = 2 ∨ dd y = 4 := by unfold dd; split; omega; split <;> omega
  have hx : x = 0 ∨ x = 1 ∨ x = 2 ∨ x = 3 ∨ x = 4 ∨ x = 5 ∨ x = 6 ∨ x = 7 ∨ x = 8 := by omega
  rcases hd with e | e | e <;> rw [e] <;> rcases hx with rfl | rfl | rfl | rfl | rfl | rfl | rfl | rfl | rfl <;> decide +kernel
theorem numN_few (bs : List Int) (k : Nat) : H (numN bs k).1 ≤ 2 := by
  have h := nextN_lt (bs := bs) (k := k) (n := 9) (by omega)
  exact num_few h.1 h.2 _
theorem numN_le {bs : List Int} {k : Nat} (hk : k ≤ bs.length) : (numN bs k).2 ≤ bs.length := nextN_le (nextN_le hk)
theorem SmL.up {i : Nat} {l : List (Int × Rat)} (h : SmL i l) : SmL (i + 1) l := ⟨Nat.le_succ_of_le h.len, h.sorted, fun t ht => by have h1 := h.each t ht; exact ⟨h1.1, by omega, h1.2.2.1, h1.2.2.2⟩⟩
/-- a small form over n variables -/
structure SmF (n : Nat) (f : Form) : Prop where
  l : SmL n f.1
  k : H f.2 ≤ 2
def fdB (bs : List Int) (k : Nat) : AB := .box 156 [.sl 1 (bs.map intU8C), .lit (.int .i64 (k : Int))] false
section
variable {n : Nat} {bs : List Int} {k : Nat}
theorem next_c (hb : Byt bs) (hk : k ≤ bs.length) {m : Int} (hm : 0 < m) : runL n 149 [.ptr 0 0, .lit (.int .i64 m)] [fdB bs k] = some (.lit (.int .i64 (nextN bs k m).1), [(0, fdB bs (nextN bs k m).2)]) := by
  have hl := hb.len
  unfold nextN
  cases hx : bs[k]? with
  | some x =>
    have hlt := (List.getElem?_eq_some_iff.1 hx).1
    obtain ⟨x0, x1⟩ := hb.val x (List.mem_of_getElem? hx)
    have h := nx_f2 (n := n) (a0 := ⟨bs, (k : Int)⟩) (a1 := m) (x := x) (by dsimp only; omega) ⟨by dsimp only; omega, by dsimp only; omega⟩ ⟨by dsimp only; omega, by dsimp only; omega⟩ (by dsimp only; rw [Int.toNat_natCast]; exact hx) (by dsimp only; omega) ⟨by omega, by omega⟩ (by omega)
    rw [Int.tmod_eq_emod_of_nonneg x0] at h
    exact h
  | none =>
    have h1 : bs.length ≤ k := List.getElem?_eq_none_iff.1 hx
    exact nx_f1 (n := n) (a0 := ⟨bs, (k : Int)⟩) (a1 := m) (by dsimp only; omega)
theorem num_c (hb : Byt bs) (hk : k ≤ bs.length) : runL (n + 1) 92 [.ptr 0 0] [fdB bs k] = some (ratV (numN bs k).1, [(0, fdB bs (numN bs k).2)]) := by
  have h1 := next_c (n := n) hb hk (m := 9) (by omega)
  have k1 := nextN_le (n := 9) hk
  have b1 := nextN_lt (bs := bs) (k := k) (n := 9) (by omega)
  have h2 := next_c (n := n) hb k1 (m := 4) (by omega)
  have b2 := nextN_lt (bs := bs) (k := (nextN bs k 9).2) (n := 4) (by omega)
  unfold numN
  generalize nextN bs k 9 = p at *
  obtain ⟨x, j1⟩ := p
  dsimp only at *
  generalize nextN bs j1 4 = p at *
  obtain ⟨y, j2⟩ := p
  dsimp only at *
  have W : InI (x - 4) := ⟨by omega, by omega⟩
  have hy : y = 0 ∨ y = 1 ∨ y = 2 ∨ y = 3 := by omega
  rcases hy with rfl | rfl | rfl | rfl
  · exact nu_f1 (a0 := ⟨bs, (k : Int)⟩) h1 W h2 rfl W
  · exact nu_f2 (a0 := ⟨bs, (k : Int)⟩) h1 W h2 (by omega) rfl W
  · exact nu_f3 (a0 := ⟨bs, (k : Int)⟩) h1 W h2 (by omega) (by omega) rfl W
  · exact nu_f4 (a0 := ⟨bs, (k : Int)⟩) h1 W h2 (by omega) (by omega) (by omega) rfl W
theorem form_c (hb : Byt bs) (hk : k ≤ bs.length) {z : Int} (h0 : 0 ≤ z) (h1 : z ≤ 1000) : ∃ (f : Form) (k' : Nat), runL (n + 3) 150 [.ptr 0 0, .lit (.int .i64 z)] [fdB bs k] = some (formV f, [(0, fdB bs k')]) ∧ SmF z.toNat f ∧ k' ≤ bs.length := by
  have hnum := num_c (n := n + 1) hb hk
  have hK := numN_few bs k
  have hk1 := numN_le hk
  generalize numN bs k = p at *
  obtain ⟨K, k1⟩ := p
  dsimp only at *
  obtain ⟨b, hL, h3, h4⟩ := loopG_R (O := tab (n + 3)) (P := Tryz.prog) (m := 1) (N := 26) (lives := livesOf 150) (r := 3) (C := fo_C3) (exN := .exit 0) (M := z.toNat) (enc := fun i (b : List (Int × Rat) × Nat) => fo_h3 ⟨bs, (k : Int)⟩ z i (b.2 : Int) b.1 K) (out := fun b => fo_o3a ⟨bs, (k : Int)⟩ (b.2 : Int) b.1 K) (fun i b => SmL i b.1 ∧ b.2 ≤ bs.length) ([], k1) ⟨SmL.nil 0, hk1⟩ (by omega) (by simp)
    (fun i b hi hI => by
      obtain ⟨l, j⟩ := b
      obtain ⟨hI1, hI2⟩ := hI
      dsimp only at hI1 hI2
      have C1 : (i : Int) < z := by omega
      have W : InI ((i : Int) + 1) := ⟨by omega, by omega⟩
      have n1 := next_c (n := n + 2) hb hI2 (m := 3) (by omega)
      have l1 := nextN_le (n := 3) hI2
      generalize nextN bs j 3 = p at *
      obtain ⟨x, j1⟩ := p
      dsimp only at *
      by_cases hx : 0 < x
      · have n2 := num_c (n := n + 1) hb l1
        have q2 := numN_few bs j1
        have l2 := numN_le l1
        generalize numN bs j1 = p at *
        obtain ⟨q, j2⟩ := p
        dsimp only at *
        have hV : TmB 1 [((i : Int), (1 : Rat))] := fun t ht => by
          cases List.mem_singleton.1 ht
          exact ⟨(by decide : (1 : Rat) ≠ 0), (by decide : H 1 ≤ 1)⟩
        have n3 := scale_c (n := n + 1) (f := ([((i : Int), 1)], 0)) (c := q) (hV.mono (by omega)) (by simp) (by show H 0 ≤ 1000000; decide) (by omega)
        have es : sclV [((i : Int), 1)] q = put1 (i : Int) q := by simp [sclV]
        have ez : (0 : Rat) * q = 0 := Rat.zero_mul q
        dsimp only at n3
        rw [es, ez] at n3
        have hT : TmB 100 l := fun t ht => ⟨(hI1.each t ht).2.2.1, Nat.le_trans (hI1.each t ht).2.2.2 (by omega)⟩
        have hS : TmB 3 (put1 (i : Int) q) := TmB.put _ (by omega)
        have hS2 := put1_len (i : Int) q
        have n4 := add_c (n := n) (f := (l, K)) (g := (put1 (i : Int) q, 0)) hS (by dsimp only; omega) hT (by dsimp only; have := hI1.len; omega) (by dsimp only; omega) (by dsimp only; omega) (by show H 0 ≤ 1000000; decide)
        have ea : addV l (put1 (i : Int) q) = l ++ put1 (i : Int) q := by
          by_cases h0 : q = 0
          · have e1 : put1 (i : Int) q = [] := if_pos h0
            rw [e1, List.append_nil]; rfl
          · have e1 : put1 (i : Int) q = [((i : Int), q)] := if_neg h0
            rw [e1]
            unfold addV
            rw [List.foldl_cons, List.foldl_nil, plus_end _ (i : Int) q (fun t ht => ⟨(hI1.each t ht).2.1, (hI1.each t ht).2.2.1⟩), e1]
        have ek : K + 0 = K := Rat.add_zero K
        dsimp only at n4
        rw [ea, ek] at n4
        exact ⟨(l ++ put1 (i : Int) q, j2), fo_r3_1 (r13 := ([((i : Int), 1)], 0)) C1 n1 hx (var_c (i : Int)) n2 n3 n4 W, hI1.step q2, l2⟩
      · exact ⟨(l, j1), fo_r3_2 C1 n1 hx W, hI1.up, l1⟩)
    (fun b hI => fo_x3_1 (by omega))
  exact ⟨(b.1, K), b.2, fo_f1 (a0 := ⟨bs, (k : Int)⟩) hnum hL, ⟨h3, hK⟩, h4⟩
/-- a small graph -/
structure GrOk (g : TGraph) : Prop where
  i0 : 1 ≤ g.Inputs
  i1 : g.Inputs ≤ 3
  u : g.Units.length ≤ 4
  o0 : 1 ≤ g.Outputs.length
  o1 : g.Outputs.length ≤ 3
  un : ∀ i f, g.Units[i]? = some f → SmF (g.Inputs.toNat + i) f
  ou : ∀ f ∈ g.Outputs, SmF (g.Inputs.toNat + g.Units.length) f
theorem graph_c (hb : Byt bs) (hk : k ≤ bs.length) : ∃ (g : TGraph) (k' : Nat), runL (n + 4) 75 [.ptr 0 0] [fdB bs k] = some (graphV g, [(0, fdB bs k')]) ∧ GrOk g ∧ k' ≤ bs.length := by
  have h1 := next_c (n := n + 3) hb hk (m := 3) (by omega)
  have b1 := nextN_lt (bs := bs) (k := k) (n := 3) (by omega)
  have l1 := nextN_le (n := 3) hk
  generalize nextN bs k 3 = p at *
  obtain ⟨x, j1⟩ := p
  dsimp only at *
  have h2 := next_c (n := n + 3) hb l1 (m := 5) (by omega)
  have b2 := nextN_lt (bs := bs) (k := j1) (n := 5) (by omega)
  have l2 := nextN_le (n := 5) l1
  generalize nextN bs j1 5 = p at *
  obtain ⟨y, j2⟩ := p
  dsimp only at *
  have h3 := next_c (n := n + 3) hb l2 (m := 3) (by omega)
  have b3 := nextN_lt (bs := bs) (k := j2) (n := 3) (by omega)
  have l3 := nextN_le (n := 3) l2
  generalize nextN bs j2 3 = p at *
  obtain ⟨z, j3⟩ := p
  dsimp only at *
  obtain ⟨⟨U, j4⟩, hL1, h4, h5, h6⟩ := loopG_R (O := tab (n + 4)) (P := Tryz.prog) (m := 1) (N := 50) (lives := livesOf 75) (r := 4) (C := gr_C4) (exN := .exit 0) (M := y.toNat) (enc := fun i (b : List Form × Nat) => gr_h4 ⟨bs, (k : Int)⟩ y z i (b.2 : Int) x b.1) (out := fun b => gr_o4a ⟨bs, (k : Int)⟩ y z (b.2 : Int) x b.1)
    (fun i b => b.2 ≤ bs.length ∧ b.1.length = i ∧ ∀ j f, b.1[j]? = some f → SmF ((1 + x).toNat + j) f) ([], j3) ⟨l3, rfl, fun j f h => by simp at h⟩ (by omega) (by simp)
    (fun i b hi hI => by
      obtain ⟨U, j⟩ := b
      obtain ⟨hI1, hI2, hI3⟩ := hI
      dsimp only at hI1 hI2 hI3
      obtain ⟨f, j', h7, h8, h9⟩ := form_c (n := n) hb hI1 (z := (1 + x) + (i : Int)) (by omega) (by omega)
      refine ⟨(U ++ [f], j'), gr_r4_1 (by omega) ⟨by omega, by omega⟩ h7 (by dsimp only; omega) ⟨by omega, by omega⟩, h9, by dsimp only; rw [List.length_append, hI2]; rfl, fun q g hq => ?_⟩
      dsimp only at hq
      by_cases hqi : q < U.length
      · rw [List.getElem?_append_left hqi] at hq; exact hI3 q g hq
      · rw [List.getElem?_append_right (by omega)] at hq
        have h0 : q - U.length = 0 := by
          have := (List.getElem?_eq_some_iff.1 hq).1
          rw [List.length_singleton] at this
          omega
        rw [h0] at hq
        cases hq
        have e : (1 + x).toNat + q = ((1 + x) + (i : Int)).toNat := by omega
        rw [e]; exact h8)
    (fun b hI => gr_x4_1 (by omega))
  dsimp only at hL1 h4 h5 h6
  obtain ⟨⟨O, j5⟩, hL2, h7, h8, h9⟩ := loopG_R (O := tab (n + 4)) (P := Tryz.prog) (m := 1) (N := 50) (lives := livesOf 75) (r := 8) (C := gr_C8) (exN := .exit 2) (M := (1 + z).toNat) (enc := fun i (b : List Form × Nat) => gr_h8 ⟨bs, (k : Int)⟩ y z i (b.2 : Int) x U b.1) (out := fun b => gr_o8a ⟨bs, (k : Int)⟩ (b.2 : Int) x U b.1)
    (fun i b => b.2 ≤ bs.length ∧ b.1.length = i ∧ ∀ f ∈ b.1, SmF ((1 + x) + y).toNat f) ([], j4) ⟨h4, rfl, fun f h => by cases h⟩ (by omega) (by simp)
    (fun i b hi hI => by
      obtain ⟨O, j⟩ := b
      obtain ⟨hI1, hI2, hI3⟩ := hI
      dsimp only at hI1 hI2 hI3
      obtain ⟨f, j', h7, h8, h9⟩ := form_c (n := n) hb hI1 (z := (1 + x) + y) (by omega) (by omega)
      refine ⟨(O ++ [f], j'), gr_r8_1 (by omega) ⟨by omega, by omega⟩ h7 (by dsimp only; omega) ⟨by omega, by omega⟩, h9, by dsimp only; rw [List.length_append, hI2]; rfl, fun g hg => ?_⟩
      rcases List.mem_append.1 hg with hg | hg
      · exact hI3 g hg
      · rw [List.mem_singleton.1 hg]; exact h8)
    (fun b hI => gr_x8_1 (by omega))
  dsimp only at hL2 h7 h8 h9
  refine ⟨⟨1 + x, U, O⟩, j5, gr_f1 (a0 := ⟨bs, (k : Int)⟩) h1 ⟨by omega, by omega⟩ h2 h3 ⟨by omega, by omega⟩ hL1 hL2, ⟨by dsimp only; omega, by dsimp only; omega, by dsimp only; omega, by dsimp only; omega, by dsimp only; omega, h6, fun f hf => ?_⟩, h7⟩
  have e : (1 + x).toNat + U.length = ((1 + x) + y).toNat := by omega
  dsimp only
  rw [e]; exact h9 f hf
end
end Go.Proofs.YtlpmemelhlnfbaaGreatDoor
set_option linter.all false
set_option maxRecDepth 100000
set_option maxHeartbeats 6400000
namespace Go.Proofs.YtlpmemelhlnfbaaGreatDoor
open Go.RowKit
attribute [local irreducible] run runL loopG exec

theorem validFs_c {n : Nat} {L : List Form} {vars : Int} (hl : L.length ≤ 100000000) (hB : ∀ f ∈ L, BdF 17179869184 f) : run (n + 1) 91 [.sl 4 (L.map formC), .lit (.int .i64 vars)] = some (.lit (.bool (tv (∀ f ∈ L, OkFm f vars)))) := by
  have hG := loopG_all (O := tab (n + 1)) (P := Tryz.prog) (m := 0) (N := 19) (lives := livesOf 91) (r := 2) (C := vl_C2) (M := L.length) (enc := vl_h2 L vars) (p := fun i => tv (∀ f, L[i]? = some f → OkFm f vars)) (exN := .exit 0) (exE := .ret) (out := vl_o2b) (outE := vl_o2a) (by omega) (by simp) (by simp)
    (fun i hi hI => by
      have hx : L[i]? = some L[i] := List.getElem?_eq_getElem hi
      generalize L[i] = f at hx
      have C1 : (i : Int) < (L.length : Int) := by omega
      have W : InI ((i : Int) + 1) := ⟨by omega, by omega⟩
      have K := validF_c (n := n) (vars := vars) (hB f (List.mem_of_getElem? hx))
      have e : tv (∀ g, L[i]? = some g → OkFm g vars) = tv (OkFm f vars) := tv_iff ⟨fun h => h f hx, fun h g hg => by rw [hx] at hg; cases hg; exact h⟩
      rw [e]
      exact ⟨fun hp => vl_r2_1 C1 hx K hp W, fun hp => vl_x2_1 C1 hx K hp⟩)
    (vl_x2_2 (by omega))
  by_cases h : ∀ f ∈ L, OkFm f vars
  · rw [if_pos (fun i hi => tv_t (all_idx.2 h i hi))] at hG
    rw [tv_t h]
    exact vl_f2 hG
  · rw [if_neg (fun h2 => h (all_idx.1 fun i hi => tv_true (h2 i hi)))] at hG
    rw [tv_f h]
    exact vl_f1 hG
/-- a graph that is valid -/
structure OkGr (g : TGraph) : Prop where
  i0 : 1 ≤ g.Inputs
  i1 : g.Inputs ≤ 256
  u : (g.Units.length : Int) ≤ 1024
  o0 : 1 ≤ (g.Outputs.length : Int)
  o1 : (g.Outputs.length : Int) ≤ 256
  un : ∀ i, i < g.Units.length → ∀ f, g.Units[i]? = some f → OkFm f (g.Inputs + (i : Int))
  ou : ∀ f ∈ g.Outputs, OkFm f (g.Inputs + (g.Units.length : Int))
structure BdG (b : Nat) (g : TGraph) : Prop where
  lu : g.Units.length ≤ 100000000
  lo : g.Outputs.length ≤ 100000000
  u : ∀ f ∈ g.Units, BdF b f
  o : ∀ f ∈ g.Outputs, BdF b f
theorem validG_c {n : Nat} {g : TGraph} (hB : BdG 17179869184 g) : run (n + 2) 25 [graphV g] = some (.lit (.bool (tv (OkGr g)))) := by
  have hlu := hB.lu
  have hlo := hB.lo
  by_cases c1 : g.Inputs < 1
  · rw [tv_f (fun h => by have := h.i0; omega)]; exact vg_f1 c1
  by_cases c2 : 256 < g.Inputs
  · rw [tv_f (fun h => by have := h.i1; omega)]; exact vg_f2 c1 c2
  by_cases c3 : 1024 < (g.Units.length : Int)
  · rw [tv_f (fun h => by have := h.u; omega)]; exact vg_f3 c1 c2 c3
  by_cases c4 : (g.Outputs.length : Int) < 1
  · rw [tv_f (fun h => by have := h.o0; omega)]; exact vg_f4 c1 c2 c3 c4
  by_cases c5 : 256 < (g.Outputs.length : Int)
  · rw [tv_f (fun h => by have := h.o1; omega)]; exact vg_f5 c1 c2 c3 c4 c5
  have hG := loopG_all (O := tab (n + 2)) (P := Tryz.prog) (m := 0) (N := 57) (lives := livesOf 25) (r := 4) (C := vg_C4) (M := g.Units.length) (enc := vg_h4 g) (p := fun i => tv (∀ f, g.Units[i]? = some f → OkFm f (g.Inputs + (i : Int)))) (exN := .exit 0) (exE := .ret) (out := vg_o4b g) (outE := vg_o4a g) (by omega) (by simp) (by simp)
    (fun i hi hI => by
      have hx : g.Units[i]? = some g.Units[i] := List.getElem?_eq_getElem hi
      generalize g.Units[i] = f at hx
      have C1 : (i : Int) < (g.Units.length : Int) := by omega
      have W : InI ((i : Int) + 1) := ⟨by omega, by omega⟩
      have W2 : InI (g.Inputs + (i : Int)) := ⟨by omega, by omega⟩
      have K := validF_c (n := n + 1) (vars := g.Inputs + (i : Int)) (hB.u f (List.mem_of_getElem? hx))
      have e : tv (∀ f, g.Units[i]? = some f → OkFm f (g.Inputs + (i : Int))) = tv (OkFm f (g.Inputs + (i : Int))) := tv_iff ⟨fun h => h f hx, fun h g hg => by rw [hx] at hg; cases hg; exact h⟩
      rw [e]
      exact ⟨fun hp => vg_r4_1 C1 hx W2 K hp W, fun hp => vg_x4_1 C1 hx W2 K hp⟩)
    (vg_x4_2 (by omega))
  by_cases h : ∀ i, i < g.Units.length → ∀ f, g.Units[i]? = some f → OkFm f (g.Inputs + (i : Int))
  · rw [if_pos (fun i hi => tv_t (h i hi))] at hG
    have K := validFs_c (n := n) (vars := g.Inputs + (g.Units.length : Int)) hlo hB.o
    have e : tv (OkGr g) = tv (∀ f ∈ g.Outputs, OkFm f (g.Inputs + (g.Units.length : Int))) := tv_iff ⟨fun k => k.ou, fun k => ⟨by omega, by omega, by omega, by omega, by omega, h, k⟩⟩
    rw [e]
    exact vg_f7 c1 c2 c3 c4 c5 hG ⟨by omega, by omega⟩ K
  · rw [if_neg (fun h2 => h fun i hi => tv_true (h2 i hi))] at hG
    rw [tv_f (fun k => h k.un)]
    exact vg_f6 c1 c2 c3 c4 c5 hG
/-- small things are valid -/
theorem SmF.ok {N : Nat} {f : Form} {vars : Int} (h : SmF N f) (hv : (N : Int) ≤ vars) : OkFm f vars := fun i hi v c hx => by
  obtain ⟨a1, a2, a3, a4⟩ := h.l.each _ (List.mem_of_getElem? hx)
  dsimp only at a1 a2 a3
  refine ⟨a1, by omega, a3, fun v' c' h0 hy => ?_⟩
  obtain ⟨l1, e1⟩ := List.getElem?_eq_some_iff.1 hx
  obtain ⟨l2, e2⟩ := List.getElem?_eq_some_iff.1 hy
  have := List.pairwise_iff_getElem.1 h.l.sorted (i - 1) i l2 l1 (by omega)
  rw [e1, e2] at this
  exact this
theorem SmF.bd {N : Nat} {f : Form} (h : SmF N f) (hN : N ≤ 100000000) : BdF 2 f := ⟨by have := h.l.len; omega, fun t ht => (h.l.each t ht).2.2.2, h.k⟩
theorem GrOk.ok {g : TGraph} (h : GrOk g) : OkGr g := by
  have := h.i0
  have := h.i1
  have := h.u
  have := h.o0
  have := h.o1
  exact ⟨by omega, by omega, by omega, by omega, by omega, fun i hi f hf => (h.un i f hf).ok (by omega), fun f hf => (h.ou f hf).ok (by omega)⟩
theorem GrOk.bd {g : TGraph} (h : GrOk g) : BdG 2 g := by
  have := h.i0
  have := h.i1
  have := h.u
  have := h.o1
  refine ⟨by omega, by omega, fun f hf => ?_, fun f hf => (h.ou f hf).bd (by omega)⟩
  obtain ⟨i, hi⟩ := List.mem_iff_getElem?.1 hf
  have := (List.getElem?_eq_some_iff.1 hi).1
  exact (h.un i f hi).bd (by omega)
theorem BdG.mono {b c : Nat} {g : TGraph} (h : BdG b g) (hb : b ≤ c) : BdG c g := ⟨h.lu, h.lo, fun f hf => (h.u f hf).mono hb, fun f hf => (h.o f hf).mono hb⟩
end Go.Proofs.YtlpmemelhlnfbaaGreatDoor
set_option linter.all false
set_option maxRecDepth 100000
set_option maxHeartbeats 6400000
namespace Go.Proofs.YtlpmemelhlnfbaaGreatDoor
open Go.RowKit
attribute [local irreducible] run runL loopG exec

/-- the greater one of a number and 0 -/
def max0 (q : Rat) : Rat := if 0 ≤ q then q else 0
theorem max0_H (q : Rat) : H (max0 q) ≤ H q := by
  unfold max0
  split
  · exact Nat.le_refl _
  · have : H 0 ≤ 1 := by decide
    have h2 : H 0 = 1 ∨ H 0 = 0 := by decide
    unfold H
    have : (lmb (q.den)).length ≥ 1 := by
      have := q.den_pos
      rcases Nat.eq_zero_or_pos (lmb q.den).length with h | h
      · have e : lmb q.den = [] := List.eq_nil_of_length_eq_zero h
        have e2 := val_lmb q.den
        rw [e] at e2
        have : q.den = 0 := by rw [← e2]; rfl
        omega
      · exact h
    have h3 : (max (lmb (0 : Rat).num.natAbs).length (lmb (0 : Rat).den).length) ≤ 1 := by decide
    omega
theorem max0_c {n : Nat} {q : Rat} (hq : H q ≤ 17179869184) : run n 100 [ratV q, .agg [.lit (.bool false), .sl 1 [], .sl 1 []]] = some (ratV (max0 q)) := by
  have e : ratV 0 = .agg [.lit (.bool false), .sl 1 [], .sl 1 []] := by simp
  have e2 : q - 0 = q := by grind
  rw [← e]
  have h0 : H 0 ≤ 17179869184 := by decide
  unfold max0
  split
  · rename_i h
    exact mx_f1 hq h0 (by rw [e2]; exact sgq_nonneg.2 h)
  · rename_i h
    exact mx_f2 hq h0 (by rw [e2]; exact fun h2 => h (sgq_nonneg.1 h2))
/-- the values of a graph's variables -/
def valV (U : List Form) (X : List Rat) : List Rat := foldI (fun _ out f => out ++ [max0 (evV out f)]) 0 X U
def bndV (a l b : Nat) : Nat → Nat
  | 0 => b
  | i + 1 => bndV a l b i + a + l * (a + bndV a l b i + 1)
theorem bndV_mono (a l b : Nat) : ∀ {i j : Nat}, i ≤ j → bndV a l b i ≤ bndV a l b j
  | i, 0, h => by
    have e : i = 0 := by omega
    subst e
    exact Nat.le_refl _
  | i, j + 1, h => by
    by_cases e : i = j + 1
    · subst e; exact Nat.le_refl _
    · have := bndV_mono a l b (i := i) (j := j) (by omega)
      rw [bndV]; omega
theorem values_c {n : Nat} {g : TGraph} {X : List Rat} {a l b : Nat} (hG : OkGr g) (hB : BdG a g) (ha : a ≤ 1000000) (hl : ∀ f ∈ g.Units, f.1.length ≤ l) (hX : (X.length : Int) = g.Inputs) (hb : ∀ q ∈ X, H q ≤ b) (hbnd : bndV a l b g.Units.length ≤ 100000000) :
    run (n + 3) 35 [graphV g, .sl 3 (X.map ratC)] = some (.tup [.sl 3 ((valV g.Units X).map ratC), .lit (.int .i64 0)]) ∧ (∀ q ∈ valV g.Units X, H q ≤ bndV a l b g.Units.length) ∧ (valV g.Units X).length = X.length + g.Units.length := by
  have hi0 := hG.i0
  have hi1 := hG.i1
  have hu := hG.u
  have K := validG_c (n := n) (hB.mono (by omega))
  rw [tv_t hG] at K
  have hb0 : b ≤ 100000000 := Nat.le_trans (bndV_mono a l b (Nat.zero_le _)) hbnd
  have L1 := (loopG_I (O := tab (n + 3)) (P := Tryz.prog) (m := 0) (N := 59) (lives := livesOf 35) (r := 5) (C := vs_C5) (L := X) (f := fun _ o x => o ++ [x]) (enc := fun i o => vs_h5 g X o i) (exN := .exit 0) (out := fun o => vs_o5a g o) (Inv := fun i o => o.length = i) [] rfl (by omega) (by simp)
    (fun i x o hi hI => by
      have hlt := (List.getElem?_eq_some_iff.1 hi).1
      have := hb x (List.mem_of_getElem? hi)
      exact ⟨vs_r5_1 (by omega) hi (by omega) (by omega) ⟨by omega, by omega⟩, by rw [List.length_append, hI]; rfl⟩)
    (fun o hI => vs_x5_1 (by omega))).1
  have key : ∀ (R : List Rat) (i : Nat) (o : List Rat), foldI (fun _ o x => o ++ [x]) i o R = o ++ R := fun R => by
    induction R with
    | nil => intro i o; simp [foldI]
    | cons x R ih => intro i o; rw [foldI, ih]; simp
  rw [key, List.nil_append] at L1
  have L2 := loopG_I (O := tab (n + 3)) (P := Tryz.prog) (m := 0) (N := 59) (lives := livesOf 35) (r := 9) (C := vs_C9) (L := g.Units) (f := fun _ (o : List Rat × Nat) f => (o.1 ++ [max0 (evV o.1 f)], o.1.length)) (enc := fun i o => vs_h9 g o.1 i o.2) (exN := .exit 2) (out := fun o => vs_o9a o.1 o.2) (Inv := fun i o => o.1.length = X.length + i ∧ (∀ q ∈ o.1, H q ≤ bndV a l b i) ∧ i ≤ g.Units.length) (X, 0) ⟨rfl, hb, by omega⟩ (by omega) (by simp)
    (fun i f o hi hI => by
      obtain ⟨o, fz⟩ := o
      obtain ⟨h1, h2, h3⟩ := hI
      dsimp only at h1 h2
      have hlt := (List.getElem?_eq_some_iff.1 hi).1
      have hf := List.mem_of_getElem? hi
      have hBf := hB.u f hf
      have hlf := hl f hf
      have hOk := hG.un i hlt f hi
      have hm : bndV a l b (i + 1) ≤ bndV a l b g.Units.length := bndV_mono a l b hlt
      have e1 : bndV a l b (i + 1) = bndV a l b i + a + l * (a + bndV a l b i + 1) := rfl
      have hmul : f.1.length * (a + bndV a l b i + 1) ≤ l * (a + bndV a l b i + 1) := Nat.mul_le_mul_right _ hlf
      have hE := eval_ok (n := n + 2) (f := f) (X := o) hBf.t h2 hBf.k (by omega) hBf.l (by omega) (by omega) (fun t ht => by
        obtain ⟨j, hj⟩ := List.mem_iff_getElem?.1 ht
        have := hOk j (List.getElem?_eq_some_iff.1 hj).1 t.1 t.2 hj
        exact ⟨this.1, by omega⟩)
      have hM := max0_c (n := n + 2) (q := evV o f) (by omega)
      have hH := max0_H (evV o f)
      have hk := hBf.k
      have hE2 := hE.2
      dsimp only
      refine ⟨vs_r9_1 (r8 := evV o f) (by omega) hi hE.1 hM (by omega) ⟨by omega, by omega⟩, by rw [List.length_append, h1]; rfl, fun q hq => ?_, hlt⟩
      rcases List.mem_append.1 hq with h | h
      · exact Nat.le_trans (h2 q h) (bndV_mono a l b (by omega))
      · rw [List.mem_singleton.1 h]; omega)
    (fun o hI => vs_x9_1 (by omega))
  have key2 : ∀ (U : List Form) (i : Nat) (o : List Rat) (z : Nat), (foldI (fun _ (o : List Rat × Nat) f => (o.1 ++ [max0 (evV o.1 f)], o.1.length)) i (o, z) U).1 = foldI (fun _ out f => out ++ [max0 (evV out f)]) i o U := fun U => by
    induction U with
    | nil => intro i o z; rfl
    | cons f U ih => intro i o z; exact ih (i + 1) _ _
  have e : (foldI (fun _ (o : List Rat × Nat) f => (o.1 ++ [max0 (evV o.1 f)], o.1.length)) 0 (X, 0) g.Units).1 = valV g.Units X := key2 _ _ _ _
  obtain ⟨L3, h1, h2, _⟩ := L2
  rw [e] at L3 h1 h2
  exact ⟨vs_f3 K rfl hX L1 L3, h2, h1⟩
theorem forms_c {n : Nat} {g : TGraph} {X : List Rat} {L : List Form} {a l b : Nat} (hG : OkGr g) (hB : BdG a g) (ha : a ≤ 1000000) (hl : ∀ f ∈ g.Units, f.1.length ≤ l) (hX : (X.length : Int) = g.Inputs) (hb : ∀ q ∈ X, H q ≤ b) (hbnd : bndV a l b (g.Units.length + 1) ≤ 100000000)
    (hL : L.length ≤ 100000000) (hLb : ∀ f ∈ L, BdF a f ∧ f.1.length ≤ l ∧ ∀ t ∈ f.1, 0 ≤ t.1 ∧ t.1 < g.Inputs + (g.Units.length : Int)) :
    run (n + 4) 101 [graphV g, .sl 4 (L.map formC), .sl 3 (X.map ratC)] = some (.tup [.sl 3 ((L.map fun f => evV (valV g.Units X) f).map ratC), .lit (.int .i64 0)]) ∧ ∀ f ∈ L, H (evV (valV g.Units X) f) ≤ bndV a l b (g.Units.length + 1) := by
  have e1 : bndV a l b (g.Units.length + 1) = bndV a l b g.Units.length + a + l * (a + bndV a l b g.Units.length + 1) := rfl
  obtain ⟨K, hV, hVl⟩ := values_c (n := n) hG hB ha hl hX hb (by omega)
  have hi1 := hG.i1
  have hu := hG.u
  have hE : ∀ f ∈ L, run (n + 3) 99 [formV f, .sl 3 ((valV g.Units X).map ratC)] = some (.tup [ratV (evV (valV g.Units X) f), .lit (.int .i64 0)]) ∧ H (evV (valV g.Units X) f) ≤ a + f.1.length * (a + bndV a l b g.Units.length + 1) := fun f hf => by
    obtain ⟨h1, h2, h3⟩ := hLb f hf
    have hmul : f.1.length * (a + bndV a l b g.Units.length + 1) ≤ l * (a + bndV a l b g.Units.length + 1) := Nat.mul_le_mul_right _ h2
    exact eval_ok h1.t hV h1.k (by omega) h1.l (by omega) (by omega) (fun t ht => ⟨(h3 t ht).1, by have := (h3 t ht).2; omega⟩)
  have L1 := (loopG_I (O := tab (n + 4)) (P := Tryz.prog) (m := 0) (N := 43) (lives := livesOf 101) (r := 6) (C := fm_C6) (L := L) (f := fun _ o f => o ++ [evV (valV g.Units X) f]) (enc := fun i o => fm_h6 L (valV g.Units X) o i) (exN := .exit 0) (out := fun o => fm_o6a o) (Inv := fun i o => o.length = i) [] rfl (by omega) (by simp)
    (fun i f o hi hI => by
      have hlt := (List.getElem?_eq_some_iff.1 hi).1
      exact ⟨fm_r6_1 (by omega) hi (hE f (List.mem_of_getElem? hi)).1 (by omega) ⟨by omega, by omega⟩, by rw [List.length_append, hI]; rfl⟩)
    (fun o hI => fm_x6_1 (by omega))).1
  have key : ∀ (R : List Form) (i : Nat) (o : List Rat), foldI (fun _ o f => o ++ [evV (valV g.Units X) f]) i o R = o ++ R.map fun f => evV (valV g.Units X) f := fun R => by
    induction R with
    | nil => intro i o; simp [foldI]
    | cons x R ih => intro i o; rw [foldI, ih]; simp
  rw [key, List.nil_append] at L1
  refine ⟨fm_f2 K rfl L1, fun f hf => ?_⟩
  have hmul : f.1.length * (a + bndV a l b g.Units.length + 1) ≤ l * (a + bndV a l b g.Units.length + 1) := Nat.mul_le_mul_right _ (hLb f hf).2.1
  have := (hE f hf).2
  omega
end Go.Proofs.YtlpmemelhlnfbaaGreatDoor
set_option linter.all false
set_option maxRecDepth 100000
set_option maxHeartbeats 6400000
namespace Go.Proofs.YtlpmemelhlnfbaaGreatDoor
open Go.RowKit
theorem pt_new {n : Nat} {F : List (Int × Rat)} {v : Int} {q k : Rat} (hq : H q ≤ 17179869184) (h0 : q ≠ 0) (hF : F.length ≤ 10000000) :
    runL n 137 [.agg [.own 0 F.length, .lit (.bool (rawQ k).s), natA (rawQ k).l1, natA (rawQ k).l2], .lit (.int .i64 v), .agg [.lit (.bool (rawQ q).s), natA (rawQ q).l1, natA (rawQ q).l2]] [.row 84 4 (F.map termC) 0] = some (.agg [.own 4 (F ++ [(v, q)]).length, .lit (.bool (rawQ k).s), natA (rawQ k).l1, natA (rawQ k).l2], [(4, .row 84 4 ((F ++ [(v, q)]).map termC) 0)]) := by
  unfold runL fnL
  have hs := r_sign (p := q) hq
  have hc := r_canon (p := q) hq
  have e2 : (sgR q == 0) = false := by simpa using fun h => h0 (sgR_eq_zero.1 h)
  have e3 : (sgR q != 0) = true := by simpa using fun h => h0 (sgR_eq_zero.1 h)
  have hr : ∀ b, b ≤ 10000 → roomy (F.length + 1) b = true := fun b hb => roomy_s (by omega) hb
  simp +decide [Tryz.f137, hs, hc, e2, e3, hr]
theorem pt_same {n : Nat} {F : List (Int × Rat)} {v : Int} {q k : Rat} (hq : H q ≤ 17179869184) (h0 : q = 0) :
    runL n 137 [.agg [.own 0 F.length, .lit (.bool (rawQ k).s), natA (rawQ k).l1, natA (rawQ k).l2], .lit (.int .i64 v), .agg [.lit (.bool (rawQ q).s), natA (rawQ q).l1, natA (rawQ q).l2]] [.row 84 4 (F.map termC) 0] = some (.agg [.own 0 F.length, .lit (.bool (rawQ k).s), natA (rawQ k).l1, natA (rawQ k).l2], [(0, .row 84 4 (F.map termC) 0)]) := by
  unfold runL fnL
  have hs := r_sign (p := q) hq
  have e2 : (sgR q == 0) = true := by rw [sgR_eq_zero.2 h0]; rfl
  have e3 : (sgR q != 0) = false := by rw [sgR_eq_zero.2 h0]; rfl
  simp +decide [Tryz.f137, hs, e2, e3]
end Go.Proofs.YtlpmemelhlnfbaaGreatDoor
set_option linter.all false
set_option maxRecDepth 100000
set_option maxHeartbeats 6400000
namespace Go.Proofs.YtlpmemelhlnfbaaGreatDoor
open Go.RowKit
attribute [local irreducible] run runL loopG exec

/-- the rounds of merge -/
def mgK : List (Int × Rat) → List (Int × Rat) → Nat
  | [], m => m.length
  | a :: l, [] => (a :: l).length
  | a :: l, b :: m => 1 + if a.1 < b.1 then mgK l (b :: m) else if b.1 < a.1 then mgK (a :: l) m else mgK l m
termination_by l m => l.length + m.length
theorem mgK_nil (m : List (Int × Rat)) : mgK [] m = m.length := by rw [mgK]
theorem mgK_a (a : Int × Rat) (l : List (Int × Rat)) : mgK (a :: l) [] = l.length + 1 := by rw [mgK]; rfl
theorem mgK_ab (a b : Int × Rat) (l m : List (Int × Rat)) : mgK (a :: l) (b :: m) = 1 + if a.1 < b.1 then mgK l (b :: m) else if b.1 < a.1 then mgK (a :: l) m else mgK l m := by rw [mgK]
theorem mgK_one (l : List (Int × Rat)) : mgK l [] = l.length := by cases l; exact mgK_nil []; exact mgK_a _ _
theorem mgK_le : ∀ (k : Nat) (l m : List (Int × Rat)), l.length + m.length ≤ k → mgK l m ≤ l.length + m.length
  | k, [], m, h => by rw [mgK_nil]; simp
  | k, a :: l, [], h => by rw [mgK_a]; simp
  | 0, a :: l, b :: m, h => by simp at h
  | k + 1, a :: l, b :: m, h => by
    simp only [List.length_cons] at h
    have h1 := mgK_le k l (b :: m) (by simp <;> omega)
    have h2 := mgK_le k (a :: l) m (by simp <;> omega)
    have h3 := mgK_le k l m (by omega)
    simp only [List.length_cons] at h1 h2
    rw [mgK_ab]
    simp only [List.length_cons]
    split
    · omega
    · split <;> omega
structure MgS where
  l : List (Int × Rat)
  m : List (Int × Rat)
  out : List (Int × Rat)
theorem put_no {v : Int} {q : Rat} (h : q = 0) : put1 v q = [] := if_pos h
theorem put_yes {v : Int} {q : Rat} (h : ¬ q = 0) : put1 v q = [(v, q)] := if_neg h
theorem merge_c {n : Nat} {f g : Form} {c : Rat} {b : Nat} (hF : ∀ t ∈ f.1, H t.2 ≤ b) (hG : ∀ t ∈ g.1, H t.2 ≤ b) (hb : b ≤ 1000000) (hc : H c ≤ 1000000) (hk : H f.2 ≤ 1000000) (hk2 : H g.2 ≤ 1000000) (hlf : f.1.length ≤ 1000000) (hlg : g.1.length ≤ 1000000) :
    run (n + 1) 158 [formV f, formV g, ratV c] = some (formV (mergeV f.1 g.1 c, f.2 + g.2 * c)) := by
  have hm := H_mul g.2 c
  have ha := H_add f.2 (g.2 * c)
  have hM := mgK_le _ f.1 g.1 (Nat.le_refl _)
  obtain ⟨b', hL, hI⟩ := loopG_R (O := tab (n + 1)) (P := Tryz.prog) (m := 0) (N := 113) (lives := livesOf 158) (r := 3) (C := mg_C3) (exN := .exit 0) (M := mgK f.1 g.1) (enc := fun i (s : MgS) => mg_h3 f g c s.l s.m s.out) (out := fun s => mg_o3a f g c s.out)
    (fun i s => s.out ++ mergeV s.l s.m c = mergeV f.1 g.1 c ∧ mgK s.l s.m + i = mgK f.1 g.1 ∧ s.out.length ≤ i ∧ (∀ t ∈ s.l, H t.2 ≤ b) ∧ ∀ t ∈ s.m, H t.2 ≤ b) ⟨f.1, g.1, []⟩ ⟨rfl, rfl, by simp, hF, hG⟩ (by omega) (by simp)
    (fun i s hi hI => by
      obtain ⟨l, m, out⟩ := s
      obtain ⟨i1, i2, i3, i4, i5⟩ := hI
      dsimp only at i1 i2 i3 i4 i5 ⊢
      have fin : ∀ (l' m' : List (Int × Rat)) (v : Int) (q : Rat), mergeV l m c = put1 v q ++ mergeV l' m' c → mgK l m = 1 + mgK l' m' → (∀ t ∈ l', H t.2 ≤ b) → (∀ t ∈ m', H t.2 ≤ b) → ∀ (q' : Rat), q' = q →
          (out ++ put1 v q') ++ mergeV l' m' c = mergeV f.1 g.1 c ∧ mgK l' m' + (i + 1) = mgK f.1 g.1 ∧ (out ++ put1 v q').length ≤ i + 1 ∧ (∀ t ∈ l', H t.2 ≤ b) ∧ ∀ t ∈ m', H t.2 ≤ b := fun l' m' v q h1 h2 h3 h4 q' hq => by
        subst hq
        refine ⟨by rw [List.append_assoc, ← h1]; exact i1, by omega, ?_, h3, h4⟩
        have := put1_len v q'
        rw [List.length_append]; omega
      match l, m with
      | [], [] => rw [mgK_nil] at i2; simp at i2; omega
      | (v, q) :: l, [] =>
        have e := fin l [] v q (mergeV_a (v, q) l c) (by rw [mgK_a, mgK_one]; omega) (fun t ht => i4 t (by simp [ht])) i5 q rfl
        have hq : H q ≤ b := i4 (v, q) (by simp)
        by_cases h0 : q = 0
        · rw [put_no h0, List.append_nil] at e
          exact ⟨⟨l, [], out⟩, mg_r3_1 (l_3 := (v, q) :: l) (by simp <;> omega) (by simp) rfl (pt_same (by omega) h0) ⟨by omega, by simp <;> omega⟩, e⟩
        · rw [put_yes h0] at e
          exact ⟨⟨l, [], out ++ [(v, q)]⟩, mg_r3_2 (l_3 := (v, q) :: l) (by simp <;> omega) (by simp) rfl (pt_new (by omega) h0 (by omega)) ⟨by omega, by simp <;> omega⟩, e⟩
      | [], (u, p) :: m =>
        have e := fin [] m u (p * c) (mergeV_b (u, p) m c) (by rw [mgK_nil, mgK_nil, List.length_cons]; omega) i4 (fun t ht => i5 t (by simp [ht])) (p * c) rfl
        have hp : H p ≤ b := i5 (u, p) (by simp)
        have hpc := H_mul p c
        by_cases h0 : p * c = 0
        · rw [put_no h0, List.append_nil] at e
          exact ⟨⟨[], m, out⟩, mg_r3_9 (l2_3 := (u, p) :: m) (by simp) (by simp <;> omega) rfl (by omega) (by omega) (pt_same (by omega) h0) ⟨by omega, by simp <;> omega⟩, e⟩
        · rw [put_yes h0] at e
          exact ⟨⟨[], m, out ++ [(u, p * c)]⟩, mg_r3_10 (l2_3 := (u, p) :: m) (by simp) (by simp <;> omega) rfl (by omega) (by omega) (pt_new (by omega) h0 (by omega)) ⟨by omega, by simp <;> omega⟩, e⟩
      | (v, q) :: l, (u, p) :: m =>
        have hq : H q ≤ b := i4 (v, q) (by simp)
        have hp : H p ≤ b := i5 (u, p) (by simp)
        have hpc := H_mul p c
        have hqp := H_add q (p * c)
        have hk := mgK_ab (v, q) (u, p) l m
        dsimp only at hk
        by_cases c1 : v < u
        · rw [if_pos c1] at hk
          have e := fin l ((u, p) :: m) v q (mergeV_lt c1 l m c) hk (fun t ht => i4 t (by simp [ht])) i5 q rfl
          by_cases h0 : q = 0
          · rw [put_no h0, List.append_nil] at e
            exact ⟨⟨l, (u, p) :: m, out⟩, mg_r3_3 (l_3 := (v, q) :: l) (l2_3 := (u, p) :: m) (by simp <;> omega) (by simp <;> omega) rfl rfl c1 (pt_same (by omega) h0) ⟨by omega, by simp <;> omega⟩, e⟩
          · rw [put_yes h0] at e
            exact ⟨⟨l, (u, p) :: m, out ++ [(v, q)]⟩, mg_r3_4 (l_3 := (v, q) :: l) (l2_3 := (u, p) :: m) (by simp <;> omega) (by simp <;> omega) rfl rfl c1 (pt_new (by omega) h0 (by omega)) ⟨by omega, by simp <;> omega⟩, e⟩
        · rw [if_neg c1] at hk
          by_cases c2 : u < v
          · rw [if_pos c2] at hk
            have e := fin ((v, q) :: l) m u (p * c) (mergeV_gt c2 l m c) hk i4 (fun t ht => i5 t (by simp [ht])) (p * c) rfl
            by_cases h0 : p * c = 0
            · rw [put_no h0, List.append_nil] at e
              exact ⟨⟨(v, q) :: l, m, out⟩, mg_r3_5 (l_3 := (v, q) :: l) (l2_3 := (u, p) :: m) (by simp <;> omega) (by simp <;> omega) rfl rfl c1 c2 (by omega) (by omega) (pt_same (by omega) h0) ⟨by omega, by simp <;> omega⟩, e⟩
            · rw [put_yes h0] at e
              exact ⟨⟨(v, q) :: l, m, out ++ [(u, p * c)]⟩, mg_r3_6 (l_3 := (v, q) :: l) (l2_3 := (u, p) :: m) (by simp <;> omega) (by simp <;> omega) rfl rfl c1 c2 (by omega) (by omega) (pt_new (by omega) h0 (by omega)) ⟨by omega, by simp <;> omega⟩, e⟩
          · rw [if_neg c2] at hk
            have huv : v = u := by omega
            have e := fin l m v (q + p * c) (mergeV_eq huv l m c) hk (fun t ht => i4 t (by simp [ht])) (fun t ht => i5 t (by simp [ht])) (q + p * c) rfl
            by_cases h0 : q + p * c = 0
            · rw [put_no h0, List.append_nil] at e
              exact ⟨⟨l, m, out⟩, mg_r3_7 (l_3 := (v, q) :: l) (l2_3 := (u, p) :: m) (by simp <;> omega) (by simp <;> omega) rfl rfl c1 c2 (by omega) (by omega) (by omega) (by omega) (pt_same (by omega) h0) ⟨by omega, by simp <;> omega⟩ ⟨by omega, by simp <;> omega⟩, e⟩
            · rw [put_yes h0] at e
              exact ⟨⟨l, m, out ++ [(v, q + p * c)]⟩, mg_r3_8 (l_3 := (v, q) :: l) (l2_3 := (u, p) :: m) (by simp <;> omega) (by simp <;> omega) rfl rfl c1 c2 (by omega) (by omega) (by omega) (by omega) (pt_new (by omega) h0 (by omega)) ⟨by omega, by simp <;> omega⟩ ⟨by omega, by simp <;> omega⟩, e⟩)
    (fun s hI => by
      obtain ⟨l, m, out⟩ := s
      obtain ⟨_, i2, _⟩ := hI
      dsimp only at i2 ⊢
      have h0 : l = [] ∧ m = [] := by
        match l, m with
        | [], [] => exact ⟨rfl, rfl⟩
        | a :: l, [] => rw [mgK_a] at i2; omega
        | [], b :: m => rw [mgK_nil] at i2; simp at i2
        | a :: l, b :: m => rw [mgK_ab] at i2; omega
      obtain ⟨rfl, rfl⟩ := h0
      exact mg_x3_1 (by simp) (by simp))
  obtain ⟨l, m, out⟩ := b'
  obtain ⟨i1, i2, _⟩ := hI
  dsimp only at i1 i2 hL
  have h0 : l = [] ∧ m = [] := by
    match l, m with
    | [], [] => exact ⟨rfl, rfl⟩
    | a :: l, [] => rw [mgK_a] at i2; omega
    | [], b :: m => rw [mgK_nil] at i2; simp at i2
    | a :: l, b :: m => rw [mgK_ab] at i2; omega
  obtain ⟨rfl, rfl⟩ := h0
  rw [mergeV_nil, List.append_nil] at i1
  subst i1
  exact mg_f1 (by omega) (by omega) (by omega) (by omega) hL
end Go.Proofs.YtlpmemelhlnfbaaGreatDoor
set_option linter.all false
namespace Go.Proofs.YtlpmemelhlnfbaaGreatDoor
open Go.RowKit

def Srt (F : List (Int × Rat)) : Prop := F.Pairwise (fun a b => a.1 < b.1) ∧ ∀ t ∈ F, t.2 ≠ 0
def LBd (k : Int) (F : List (Int × Rat)) : Prop := ∀ t ∈ F, k < t.1
def cof : List (Int × Rat) → Int → Rat
  | [], _ => 0
  | t :: l, u => if t.1 = u then t.2 else cof l u
theorem cof_nil (u : Int) : cof [] u = 0 := rfl
theorem cof_hd {t : Int × Rat} {F : List (Int × Rat)} {u : Int} (h : u = t.1) : cof (t :: F) u = t.2 := by unfold cof; rw [if_pos h.symm]
theorem cof_tl {t : Int × Rat} {F : List (Int × Rat)} {u : Int} (h : u ≠ t.1) : cof (t :: F) u = cof F u := by rw [cof, if_neg fun e => h e.symm]
theorem Srt.nil : Srt [] := ⟨List.Pairwise.nil, fun t ht => by cases ht⟩
theorem Srt.tail {t : Int × Rat} {F : List (Int × Rat)} (h : Srt (t :: F)) : Srt F := ⟨(List.pairwise_cons.1 h.1).2, fun u hu => h.2 u (by simp [hu])⟩
theorem Srt.head {t : Int × Rat} {F : List (Int × Rat)} (h : Srt (t :: F)) : LBd t.1 F := fun u hu => (List.pairwise_cons.1 h.1).1 u hu
theorem Srt.nz {t : Int × Rat} {F : List (Int × Rat)} (h : Srt (t :: F)) : t.2 ≠ 0 := h.2 t (by simp)
theorem cof_low : ∀ {F : List (Int × Rat)} {u : Int}, (∀ t ∈ F, t.1 ≠ u) → cof F u = 0
  | [], _, _ => rfl
  | t :: F, u, h => by rw [cof, if_neg (h t (by simp))]; exact cof_low fun x hx => h x (by simp [hx])
theorem LBd.cof {F : List (Int × Rat)} {k u : Int} (h : LBd k F) (hu : u ≤ k) : cof F u = 0 := cof_low fun t ht e => by have := h t ht; omega
theorem LBd.mono {F : List (Int × Rat)} {k j : Int} (h : LBd k F) (hj : j ≤ k) : LBd j F := fun t ht => by have := h t ht; omega
theorem put_srt {F : List (Int × Rat)} {v : Int} {q : Rat} (h : Srt F) (hl : LBd v F) : Srt (put1 v q ++ F) ∧ (∀ u, cof (put1 v q ++ F) u = if u = v then q else cof F u) ∧ ∀ k, k < v → LBd k (put1 v q ++ F) := by
  unfold put1
  split
  · rename_i h0
    rw [List.nil_append]
    refine ⟨h, fun u => ?_, fun k hk => hl.mono (by omega)⟩
    split
    · rename_i e; subst e; rw [hl.cof (Int.le_refl _), h0]
    · rfl
  · rename_i h0
    refine ⟨⟨List.pairwise_cons.2 ⟨fun x hx => hl x hx, h.1⟩, fun t ht => ?_⟩, fun u => ?_, fun k hk t ht => ?_⟩
    · rcases List.mem_cons.1 ht with rfl | ht
      · exact h0
      · exact h.2 t ht
    · show cof ((v, q) :: F) u = _
      rw [cof]
      by_cases e : v = u
      · rw [if_pos e, if_pos e.symm]
      · rw [if_neg e, if_neg fun e2 => e e2.symm]
    · rcases List.mem_cons.1 ht with rfl | ht
      · exact hk
      · have := hl t ht; omega
theorem srt_ext : ∀ {F G : List (Int × Rat)}, Srt F → Srt G → (∀ u, cof F u = cof G u) → F = G
  | [], [], _, _, _ => rfl
  | [], t :: G, _, hg, h => by
    have := h t.1
    rw [cof_nil, cof_hd rfl] at this
    exact absurd this.symm hg.nz
  | t :: F, [], hf, _, h => by
    have := h t.1
    rw [cof_nil, cof_hd rfl] at this
    exact absurd this hf.nz
  | (v, q) :: F, (u, p) :: G, hf, hg, h => by
    have e : v = u := by
      rcases Int.lt_trichotomy v u with h1 | h1 | h1
      · have h2 := h v
        rw [cof_hd rfl, cof_tl (by dsimp only; omega), hg.head.cof (by dsimp only; omega)] at h2
        exact absurd h2 hf.nz
      · exact h1
      · have h2 := h u
        rw [cof_tl (by dsimp only; omega), hf.head.cof (by dsimp only; omega), cof_hd rfl] at h2
        exact absurd h2.symm hg.nz
    subst e
    have e2 : q = p := by
      have h2 := h v
      rw [cof_hd rfl, cof_hd rfl] at h2
      exact h2
    subst e2
    rw [srt_ext hf.tail hg.tail fun u => ?_]
    by_cases e : u = v
    · subst e
      rw [hf.head.cof (Int.le_refl _), hg.head.cof (Int.le_refl _)]
    · have h2 := h u
      rw [cof_tl e, cof_tl e] at h2
      exact h2
theorem plus_done {F : List (Int × Rat)} {v : Int} {c : Rat} (h : LBd v F) (hz : ∀ t ∈ F, t.2 ≠ 0) : plusV true F v c = F := by
  induction F with
  | nil => rfl
  | cons t F ih =>
    have h1 := h t (by simp)
    rw [plusV_lt (by omega) (.inl rfl), ih (fun x hx => h x (by simp [hx])) fun x hx => hz x (by simp [hx])]
    unfold put1
    rw [if_neg (hz t (by simp))]
    rfl
theorem put_one {t : Int × Rat} {F : List (Int × Rat)} (h : t.2 ≠ 0) : put1 t.1 t.2 ++ F = t :: F := by unfold put1; rw [if_neg h]; rfl
theorem plus_srt {v : Int} {c : Rat} : ∀ {F : List (Int × Rat)}, Srt F → Srt (plusV false F v c) ∧ (∀ u, cof (plusV false F v c) u = cof F u + if u = v then c else 0) ∧ ∀ k, k < v → LBd k F → LBd k (plusV false F v c)
  | [], h => by
    have e : plusV false [] v c = put1 v c ++ [] := by rw [List.append_nil]; rfl
    rw [e]
    obtain ⟨h1, h2, h3⟩ := put_srt (v := v) (q := c) h (fun t ht => by cases ht)
    refine ⟨h1, fun u => ?_, fun k hk _ => h3 k hk⟩
    rw [h2, cof_nil]
    split <;> grind
  | t :: F, h => by
    have hd := h.head
    rcases Int.lt_trichotomy t.1 v with h1 | h1 | h1
    · obtain ⟨a1, a2, a3⟩ := plus_srt (v := v) (c := c) h.tail
      rw [plusV_lt (by omega) (.inr h1)]
      obtain ⟨b1, b2, b3⟩ := put_srt (v := t.1) (q := t.2) a1 (a3 _ h1 hd)
      refine ⟨b1, fun u => ?_, fun k hk hl => b3 k (hl t (by simp))⟩
      rw [b2, a2]
      by_cases e : u = t.1
      · rw [if_pos e, cof_hd e, if_neg (by omega)]; grind
      · rw [if_neg e, cof_tl e]
    · rw [plusV_eq h1, plus_done (by rw [← h1]; exact hd) h.tail.2]
      obtain ⟨b1, b2, b3⟩ := put_srt (v := t.1) (q := t.2 + c) h.tail hd
      refine ⟨b1, fun u => ?_, fun k hk hl => b3 k (hl t (by simp))⟩
      rw [b2]
      by_cases e : u = t.1
      · have e5 : u = v := by omega
        rw [if_pos e, if_pos e5, cof_hd e]
      · have e5 : ¬ u = v := by omega
        rw [if_neg e, if_neg e5, cof_tl e]; grind
    · rw [plusV_gt h1, plus_done (hd.mono (by omega)) h.tail.2, put_one h.nz]
      obtain ⟨b1, b2, b3⟩ := put_srt (v := v) (q := c) h (fun x hx => by
        rcases List.mem_cons.1 hx with rfl | hx
        · exact h1
        · have := hd x hx; omega)
      refine ⟨b1, fun u => ?_, fun k hk hl => b3 k hk⟩
      rw [b2]
      by_cases e : u = v
      · have e3 : cof (t :: F) u = 0 := cof_low fun x hx => by
          rcases List.mem_cons.1 hx with rfl | hx
          · omega
          · have := hd x hx; omega
        rw [if_pos e, if_pos e, e3]
        grind
      · rw [if_neg e, if_neg e]; grind
theorem add_srt : ∀ {G F : List (Int × Rat)}, Srt F → Srt G → Srt (addV F G) ∧ ∀ u, cof (addV F G) u = cof F u + cof G u
  | [], F, hf, _ => ⟨hf, fun u => by rw [cof_nil]; show cof F u = _; grind⟩
  | t :: G, F, hf, hg => by
    obtain ⟨a1, a2, _⟩ := plus_srt (v := t.1) (c := t.2) hf
    obtain ⟨b1, b2⟩ := add_srt a1 hg.tail
    refine ⟨b1, fun u => ?_⟩
    show cof (addV (plusV false F t.1 t.2) G) u = _
    rw [b2, a2]
    by_cases e : u = t.1
    · rw [if_pos e, cof_hd e, hg.head.cof (by omega)]; grind
    · rw [if_neg e, cof_tl e]; grind
theorem merge_srt {c : Rat} : ∀ (n : Nat) {F G : List (Int × Rat)}, F.length + G.length ≤ n → Srt F → Srt G → Srt (mergeV F G c) ∧ (∀ u, cof (mergeV F G c) u = cof F u + cof G u * c) ∧ ∀ k, LBd k F → LBd k G → LBd k (mergeV F G c)
  | n, [], [], _, hf, hg => by rw [mergeV_nil]; exact ⟨hf, fun u => by rw [cof_nil]; grind, fun k h _ => h⟩
  | 0, a :: F, G, hn, _, _ => by simp at hn
  | 0, [], b :: G, hn, _, _ => by simp at hn
  | n + 1, a :: F, [], hn, hf, hg => by
    obtain ⟨a1, a2, a3⟩ := merge_srt (c := c) n (F := F) (G := []) (by simp at hn ⊢; omega) hf.tail hg
    rw [mergeV_a]
    obtain ⟨b1, b2, b3⟩ := put_srt (v := a.1) (q := a.2) a1 (a3 _ hf.head fun t ht => by cases ht)
    refine ⟨b1, fun u => ?_, fun k h1 _ => b3 k (h1 a (by simp))⟩
    rw [b2, a2]
    by_cases e : u = a.1
    · rw [if_pos e, cof_hd e, cof_nil]; grind
    · rw [if_neg e, cof_tl e]
  | n + 1, [], b :: G, hn, hf, hg => by
    obtain ⟨a1, a2, a3⟩ := merge_srt (c := c) n (F := []) (G := G) (by simp at hn ⊢; omega) hf hg.tail
    rw [mergeV_b]
    obtain ⟨b1, b2, b3⟩ := put_srt (v := b.1) (q := b.2 * c) a1 (a3 _ (fun t ht => by cases ht) hg.head)
    refine ⟨b1, fun u => ?_, fun k _ h1 => b3 k (h1 b (by simp))⟩
    rw [b2, a2]
    by_cases e : u = b.1
    · rw [if_pos e, cof_hd e, cof_nil]; grind
    · rw [if_neg e, cof_tl e]
  | n + 1, a :: F, b :: G, hn, hf, hg => by
    simp only [List.length_cons] at hn
    rcases Int.lt_trichotomy a.1 b.1 with h1 | h1 | h1
    · obtain ⟨a1, a2, a3⟩ := merge_srt (c := c) n (F := F) (G := b :: G) (by simp; omega) hf.tail hg
      rw [mergeV_lt h1]
      obtain ⟨b1, b2, b3⟩ := put_srt (v := a.1) (q := a.2) a1 (a3 _ hf.head fun t ht => by
        rcases List.mem_cons.1 ht with rfl | ht
        · exact h1
        · have := hg.head t ht; omega)
      refine ⟨b1, fun u => ?_, fun k h2 _ => b3 k (h2 a (by simp))⟩
      rw [b2, a2]
      by_cases e : u = a.1
      · have e3 : cof (b :: G) u = 0 := cof_low fun x hx => by
          rcases List.mem_cons.1 hx with rfl | hx
          · omega
          · have := hg.head x hx; omega
        have e4 : cof (a :: F) u = a.2 := cof_hd e
        rw [if_pos e, e3, e4]; grind
      · have e4 : cof (a :: F) u = cof F u := cof_tl e
        rw [if_neg e, e4]
    · obtain ⟨a1, a2, a3⟩ := merge_srt (c := c) n (F := F) (G := G) (by omega) hf.tail hg.tail
      rw [mergeV_eq h1]
      obtain ⟨b1, b2, b3⟩ := put_srt (v := a.1) (q := a.2 + b.2 * c) a1 (a3 _ hf.head (by rw [h1]; exact hg.head))
      refine ⟨b1, fun u => ?_, fun k h2 _ => b3 k (h2 a (by simp))⟩
      rw [b2, a2]
      by_cases e : u = a.1
      · rw [if_pos e, cof_hd e, cof_hd (u := u) (by omega)]
      · have e3 : cof (b :: G) u = cof G u := cof_tl (by omega)
        have e4 : cof (a :: F) u = cof F u := cof_tl e
        rw [if_neg e, e3, e4]
    · obtain ⟨a1, a2, a3⟩ := merge_srt (c := c) n (F := a :: F) (G := G) (by simp; omega) hf hg.tail
      rw [mergeV_gt h1]
      obtain ⟨b1, b2, b3⟩ := put_srt (v := b.1) (q := b.2 * c) a1 (a3 _ (fun t ht => by
        rcases List.mem_cons.1 ht with rfl | ht
        · exact h1
        · have := hf.head t ht; omega) hg.head)
      refine ⟨b1, fun u => ?_, fun k _ h2 => b3 k (h2 b (by simp))⟩
      rw [b2, a2]
      by_cases e : u = b.1
      · have e3 : cof (a :: F) u = 0 := cof_low fun x hx => by
          rcases List.mem_cons.1 hx with rfl | hx
          · omega
          · have := hf.head x hx; omega
        have e4 : cof (b :: G) u = b.2 := cof_hd e
        rw [if_pos e, e3, e4]; grind
      · have e4 : cof (b :: G) u = cof G u := cof_tl e
        rw [if_neg e, e4]
theorem merge_scl (c : Rat) : ∀ (F : List (Int × Rat)), mergeV [] F c = sclV F c
  | [] => mergeV_nil c
  | t :: F => by rw [mergeV_b, merge_scl c F]; simp [sclV]
theorem scl_srt {F : List (Int × Rat)} {c : Rat} (h : Srt F) : Srt (sclV F c) ∧ ∀ u, cof (sclV F c) u = cof F u * c := by
  rw [← merge_scl]
  obtain ⟨a1, a2, _⟩ := merge_srt (c := c) _ (Nat.le_refl _) Srt.nil h
  exact ⟨a1, fun u => by rw [a2, cof_nil]; grind⟩
theorem merge_add {F G : List (Int × Rat)} {c : Rat} (hf : Srt F) (hg : Srt G) : mergeV F G c = addV F (sclV G c) := by
  obtain ⟨a1, a2, _⟩ := merge_srt (c := c) _ (Nat.le_refl _) hf hg
  obtain ⟨b1, b2⟩ := scl_srt (c := c) hg
  obtain ⟨d1, d2⟩ := add_srt hf b1
  exact srt_ext a1 d1 fun u => by rw [a2, d2, b2]
/-- canonical forms are sorted -/
theorem OkFm.srt {f : Form} {vars : Int} (h : OkFm f vars) : Srt f.1 ∧ ∀ t ∈ f.1, 0 ≤ t.1 ∧ t.1 < vars := by
  have key : ∀ (i : Nat) (hi : i < f.1.length), 0 ≤ (f.1[i]).1 ∧ (f.1[i]).1 < vars ∧ (f.1[i]).2 ≠ 0 ∧ ∀ (h0 : 0 < i), (f.1[i - 1]'(by omega)).1 < (f.1[i]).1 := fun i hi => by
    obtain ⟨a1, a2, a3, a4⟩ := h i hi (f.1[i]).1 (f.1[i]).2 (List.getElem?_eq_getElem hi)
    exact ⟨a1, a2, a3, fun h0 => a4 _ (f.1[i - 1]'(by omega)).2 h0 (List.getElem?_eq_getElem _)⟩
  have ord : ∀ (j i : Nat) (hj : j < f.1.length) (hij : i < j), (f.1[i]'(by omega)).1 < (f.1[j]).1 := fun j => by
    induction j with
    | zero => intro i hj hij; omega
    | succ j ih =>
      intro i hj hij
      have h1 := (key (j + 1) hj).2.2.2 (by omega)
      have h2 : (f.1[j + 1 - 1]'(by omega)) = f.1[j]'(by omega) := rfl
      rw [h2] at h1
      by_cases e : i = j
      · subst e; exact h1
      · have := ih i (by omega) (by omega); omega
  refine ⟨⟨List.pairwise_iff_getElem.2 fun i j hi hj hij => ord j i hj hij, fun t ht => ?_⟩, fun t ht => ?_⟩
  · obtain ⟨i, hi, rfl⟩ := List.getElem_of_mem ht
    exact (key i hi).2.2.1
  · obtain ⟨i, hi, rfl⟩ := List.getElem_of_mem ht
    exact ⟨(key i hi).1, (key i hi).2.1⟩
end Go.Proofs.YtlpmemelhlnfbaaGreatDoor
set_option linter.all false
set_option maxRecDepth 100000
set_option maxHeartbeats 6400000
namespace Go.Proofs.YtlpmemelhlnfbaaGreatDoor
open Go.RowKit
attribute [local irreducible] run runL loopG exec

theorem list_all {α : Type} {l m : List α} (hl : l.length = m.length) : (∀ i, i < l.length → l[i]? = m[i]?) → l = m := fun h => by
  apply List.ext_getElem?
  intro i
  rcases Nat.lt_or_ge i l.length with hi | hi
  · exact h i hi
  · rw [List.getElem?_eq_none hi, List.getElem?_eq_none (by omega)]
theorem feq_c {n : Nat} {f g : Form} (hf : BdF 17179869184 f) (hg : BdF 17179869184 g) : run n 55 [formV f, formV g] = some (.lit (.bool (tv (f = g)))) := by
  have l1 := hf.l
  have l2 := hg.l
  by_cases hl : f.1.length = g.1.length
  · by_cases hk : f.2 = g.2
    · have L := loopG_all (O := tab n) (P := Tryz.prog) (m := 0) (N := 57) (lives := livesOf 55) (r := 4) (C := feq_C4) (M := f.1.length) (enc := feq_h4 f g) (p := fun i => tv (f.1[i]? = g.1[i]?)) (exN := .exit 0) (exE := .ret) (out := feq_o4b) (outE := feq_o4a) (by omega) (fun h => by cases h) (fun h => by cases h)
        (fun i hi _ => by
          have hx : f.1[i]? = some f.1[i] := List.getElem?_eq_getElem hi
          have hy : g.1[i]? = some (g.1[i]'(by omega)) := List.getElem?_eq_getElem _
          obtain ⟨t, ht⟩ : ∃ t, f.1[i] = t := ⟨_, rfl⟩
          obtain ⟨u, hu⟩ : ∃ u, (g.1[i]'(by omega)) = u := ⟨_, rfl⟩
          rw [ht] at hx
          rw [hu] at hy
          obtain ⟨v, q⟩ := t
          obtain ⟨v', q'⟩ := u
          have hq := hf.t _ (List.mem_of_getElem? hx)
          have hq' := hg.t _ (List.mem_of_getElem? hy)
          dsimp only at hq hq'
          refine ⟨fun hp => ?_, fun hp => ?_⟩
          · have hp := tv_true hp
            rw [hx, hy] at hp
            cases hp
            exact feq_r4_1 (by omega) hx hy rfl hq hq' rfl ⟨by omega, by omega⟩
          · have hp := tv_false hp
            rw [hx, hy] at hp
            by_cases e1 : v = v'
            · exact feq_x4_2 (by omega) hx hy e1 hq hq' fun e2 => hp (by rw [e1, e2])
            · exact feq_x4_1 (by omega) hx hy e1)
        (feq_x4_3 (by omega))
      by_cases hA : ∀ i, i < f.1.length → tv (f.1[i]? = g.1[i]?) = true
      · rw [if_pos hA] at L
        rw [tv_t (Prod.ext (list_all hl fun i hi => tv_true (hA i hi)) hk)]
        exact feq_f4 (by omega) hf.k hg.k hk L
      · rw [if_neg hA] at L
        rw [tv_f fun h => hA fun i hi => tv_t (by rw [h])]
        exact feq_f3 (by omega) hf.k hg.k hk L
    · rw [tv_f fun h => hk (by rw [h])]
      exact feq_f2 (by omega) hf.k hg.k hk
  · rw [tv_f fun h => hl (by rw [h])]
    exact feq_f1 (by omega)
end Go.Proofs.YtlpmemelhlnfbaaGreatDoor
