/- relucertref07.Eval; relucertref03.Max; relucertref15.Values, forms, Pre; relucertref19.Inside: what they return. -/
import Derived.Test.YtjobiobdpnhooaaGreatDoorGc
import Derived.Test.YtjobiobdpnhooaaGreatDoorWj
set_option linter.all false
set_option linter.all false
set_option maxRecDepth 100000
set_option maxHeartbeats 6400000
namespace Go.Proofs.YtjobiobdpnhooaaGreatDoor
open Go.RowKit
attribute [local irreducible] run runL loopG exec

/-- a form's value -/
def evV (X : List Rat) (f : Form) : Rat := f.1.foldl (fun s t => s + t.2 * X.getD t.1.toNat 0) f.2
def evF (X : List Rat) (i : Nat) (s : Rat) (t : Int × Rat) : Except Rat Rat :=
  if t.1 < 0 ∨ (X.length : Int) ≤ t.1 then .error s else .ok (s + t.2 * X.getD t.1.toNat 0)
theorem evF_ok {X : List Rat} : ∀ {F : List (Int × Rat)} (i : Nat) (s : Rat), (∀ t ∈ F, 0 ≤ t.1 ∧ t.1 < (X.length : Int)) → foldE (evF X) i s F = .ok (F.foldl (fun s t => s + t.2 * X.getD t.1.toNat 0) s)
  | [], i, s, _ => rfl
  | t :: F, i, s, h => by
    have h1 := h t List.mem_cons_self
    have e : evF X i s t = .ok (s + t.2 * X.getD t.1.toNat 0) := if_neg (by omega)
    rw [foldE, e, List.foldl_cons]
    exact evF_ok (i + 1) _ fun u hu => h u (List.mem_cons_of_mem _ hu)
/-- Eval -/
def evR (X : List Rat) (f : Form) : AV :=
  match foldE (evF X) 0 f.2 f.1 with
  | .ok s => .tup [ratV s, .lit (.int .i64 0)]
  | .error _ => .tup [.agg [.lit (.bool false), .sl 1 [], .sl 1 []], .lit (.int .i64 2)]
theorem eval_c {n : Nat} {f : Form} {X : List Rat} {a b k : Nat} (ha : ∀ t ∈ f.1, H t.2 ≤ a) (hb : ∀ q ∈ X, H q ≤ b) (hk : H f.2 ≤ k) (hX : X.length ≤ 100000000) (hF : f.1.length ≤ 100000000) (hs : k + f.1.length * (a + b + 1) ≤ 17179869184) (hab : a + b ≤ 17179869184) :
    run n 90 [formV f, .sl 3 (X.map ratC)] = some (evR X f) ∧ ∀ s, foldE (evF X) 0 f.2 f.1 = .ok s → H s ≤ k + f.1.length * (a + b + 1) := by
  have L := loopG_E (O := tab n) (P := Tryz.prog) (m := 0) (N := 45) (lives := livesOf 90) (r := 3) (C := ev_C3) (L := f.1) (f := evF X) (enc := fun i s => ev_h3 f X i s) (exN := .exit 0) (exE := .ret) (out := ev_o3b) (outE := ev_o3a) (Inv := fun i s => H s ≤ k + i * (a + b + 1) ∧ i ≤ f.1.length) f.2 ⟨by omega, by omega⟩ (by omega) (by simp) (by simp)
    (fun i t s hi hI => by
      obtain ⟨v, c⟩ := t
      obtain ⟨hI, hle⟩ := hI
      have hlt := (List.getElem?_eq_some_iff.1 hi).1
      have hm : (i + 1) * (a + b + 1) ≤ f.1.length * (a + b + 1) := Nat.mul_le_mul_right _ hlt
      rw [Nat.add_mul, Nat.one_mul] at hm
      have C1 : (i : Int) < (f.1.length : Int) := by omega
      have W : InI ((i : Int) + 1) := ⟨by omega, by omega⟩
      unfold evF
      by_cases hv : v < 0 ∨ (X.length : Int) ≤ v
      · rw [if_pos hv]
        by_cases h0 : v < 0
        · exact ev_x3_1 C1 hi h0
        · exact ev_x3_2 C1 hi h0 (by omega)
      · rw [if_neg hv]
        have hl : v.toNat < X.length := by omega
        have h1 : X[v.toNat]? = some (X.getD v.toNat 0) := by rw [List.getD_eq_getElem?_getD, List.getElem?_eq_getElem hl]; rfl
        have hc : H c ≤ a := ha _ (List.mem_of_getElem? hi)
        have hq : H (X.getD v.toNat 0) ≤ b := hb _ (List.mem_of_getElem? h1)
        have h2 := H_mul c (X.getD v.toNat 0)
        have h3 := H_add s (c * X.getD v.toNat 0)
        dsimp only
        refine ⟨ev_r3_1 C1 hi (by omega) (by omega) h1 (by omega) (by omega) (by omega) (by omega) (by omega) W, ?_, hlt⟩
        rw [Nat.add_mul, Nat.one_mul]
        omega)
    (fun b hI => ev_x3_3 (by omega))
  refine ⟨?_, fun s hs' => (L.2 s hs').1⟩
  unfold evR
  cases hE : foldE (evF X) 0 f.2 f.1 with
  | ok s => rw [hE] at L; exact ev_f2 L.1
  | error s => rw [hE] at L; exact ev_f1 L.1
theorem eval_ok {n : Nat} {f : Form} {X : List Rat} {a b k : Nat} (ha : ∀ t ∈ f.1, H t.2 ≤ a) (hb : ∀ q ∈ X, H q ≤ b) (hk : H f.2 ≤ k) (hX : X.length ≤ 100000000) (hF : f.1.length ≤ 100000000) (hs : k + f.1.length * (a + b + 1) ≤ 17179869184) (hab : a + b ≤ 17179869184)
    (hv : ∀ t ∈ f.1, 0 ≤ t.1 ∧ t.1 < (X.length : Int)) :
    run n 90 [formV f, .sl 3 (X.map ratC)] = some (.tup [ratV (evV X f), .lit (.int .i64 0)]) ∧ H (evV X f) ≤ k + f.1.length * (a + b + 1) := by
  have h := eval_c (n := n) ha hb hk hX hF hs hab
  have e : foldE (evF X) 0 f.2 f.1 = .ok (evV X f) := evF_ok 0 f.2 hv
  refine ⟨?_, h.2 _ e⟩
  have h1 := h.1
  unfold evR at h1
  rw [e] at h1
  exact h1
/-- the greater one of a number and 0 -/
def max0 (q : Rat) : Rat := if 0 ≤ q then q else 0
theorem max0_H (q : Rat) : H (max0 q) ≤ H q := by
  unfold max0
  split
  · exact Nat.le_refl _
  · have : H 0 ≤ 1 := by decide
    have h2 : H 0 = 1 ∨ H 0 = 0 := by decide
    unfold H
    have : (lmb (q.den)).length ≥ 1 := by
      have := q.den_pos
      rcases Nat.eq_zero_or_pos (lmb q.den).length with h | h
      · have e : lmb q.den = [] := List.eq_nil_of_length_eq_zero h
        have e2 := val_lmb q.den
        rw [e] at e2
        have : q.den = 0 := by rw [← e2]; rfl
        omega
      · exact h
    have h3 : (max (lmb (0 : Rat).num.natAbs).length (lmb (0 : Rat).den).length) ≤ 1 := by decide
    omega
theorem max0_c {n : Nat} {q : Rat} (hq : H q ≤ 17179869184) : run n 114 [ratV q, .agg [.lit (.bool false), .sl 1 [], .sl 1 []]] = some (ratV (max0 q)) := by
  have e : ratV 0 = .agg [.lit (.bool false), .sl 1 [], .sl 1 []] := by simp
  have e2 : q - 0 = q := by grind
  rw [← e]
  have h0 : H 0 ≤ 17179869184 := by decide
  unfold max0
  split
  · rename_i h
    exact mx_f1 hq h0 (by rw [e2]; exact sgq_nonneg.2 h)
  · rename_i h
    exact mx_f2 hq h0 (by rw [e2]; exact fun h2 => h (sgq_nonneg.1 h2))
/-- the values of a graph's variables -/
def valV (U : List Form) (X : List Rat) : List Rat := foldI (fun _ out f => out ++ [max0 (evV out f)]) 0 X U
def bndV (a l b : Nat) : Nat → Nat
  | 0 => b
  | i + 1 => bndV a l b i + a + l * (a + bndV a l b i + 1)
theorem bndV_mono (a l b : Nat) : ∀ {i j : Nat}, i ≤ j → bndV a l b i ≤ bndV a l b j
  | i, 0, h => by
    have e : i = 0 := by omega
    subst e
    exact Nat.le_refl _
  | i, j + 1, h => by
    by_cases e : i = j + 1
    · subst e; exact Nat.le_refl _
    · have := bndV_mono a l b (i := i) (j := j) (by omega)
      rw [bndV]; omega
theorem values_c {n : Nat} {g : TGraph} {X : List Rat} {a l b : Nat} (hG : OkGr g) (hB : BdG a g) (ha : a ≤ 1000000) (hl : ∀ f ∈ g.Units, f.1.length ≤ l) (hX : (X.length : Int) = g.Inputs) (hb : ∀ q ∈ X, H q ≤ b) (hbnd : bndV a l b g.Units.length ≤ 100000000) :
    run (n + 3) 89 [graphV g, .sl 3 (X.map ratC)] = some (.tup [.sl 3 ((valV g.Units X).map ratC), .lit (.int .i64 0)]) ∧ (∀ q ∈ valV g.Units X, H q ≤ bndV a l b g.Units.length) ∧ (valV g.Units X).length = X.length + g.Units.length := by
  have hi0 := hG.i0
  have hi1 := hG.i1
  have hu := hG.u
  have K := validG_c (n := n) (hB.mono (by omega))
  rw [tv_t hG] at K
  have hb0 : b ≤ 100000000 := Nat.le_trans (bndV_mono a l b (Nat.zero_le _)) hbnd
  have L1 := (loopG_I (O := tab (n + 3)) (P := Tryz.prog) (m := 0) (N := 59) (lives := livesOf 89) (r := 5) (C := vs_C5) (L := X) (f := fun _ o x => o ++ [x]) (enc := fun i o => vs_h5 g X o i) (exN := .exit 0) (out := fun o => vs_o5a g o) (Inv := fun i o => o.length = i) [] rfl (by omega) (by simp)
    (fun i x o hi hI => by
      have hlt := (List.getElem?_eq_some_iff.1 hi).1
      have := hb x (List.mem_of_getElem? hi)
      exact ⟨vs_r5_1 (by omega) hi (by omega) (by omega) ⟨by omega, by omega⟩, by rw [List.length_append, hI]; rfl⟩)
    (fun o hI => vs_x5_1 (by omega))).1
  have key : ∀ (R : List Rat) (i : Nat) (o : List Rat), foldI (fun _ o x => o ++ [x]) i o R = o ++ R := fun R => by
    induction R with
    | nil => intro i o; simp [foldI]
    | cons x R ih => intro i o; rw [foldI, ih]; simp
  rw [key, List.nil_append] at L1
  have L2 := loopG_I (O := tab (n + 3)) (P := Tryz.prog) (m := 0) (N := 59) (lives := livesOf 89) (r := 9) (C := vs_C9) (L := g.Units) (f := fun _ (o : List Rat × Nat) f => (o.1 ++ [max0 (evV o.1 f)], o.1.length)) (enc := fun i o => vs_h9 g o.1 i o.2) (exN := .exit 2) (out := fun o => vs_o9a o.1 o.2) (Inv := fun i o => o.1.length = X.length + i ∧ (∀ q ∈ o.1, H q ≤ bndV a l b i) ∧ i ≤ g.Units.length) (X, 0) ⟨rfl, hb, by omega⟩ (by omega) (by simp)
    (fun i f o hi hI => by
      obtain ⟨o, fz⟩ := o
      obtain ⟨h1, h2, h3⟩ := hI
      dsimp only at h1 h2
      have hlt := (List.getElem?_eq_some_iff.1 hi).1
      have hf := List.mem_of_getElem? hi
      have hBf := hB.u f hf
      have hlf := hl f hf
      have hOk := hG.un i hlt f hi
      have hm : bndV a l b (i + 1) ≤ bndV a l b g.Units.length := bndV_mono a l b hlt
      have e1 : bndV a l b (i + 1) = bndV a l b i + a + l * (a + bndV a l b i + 1) := rfl
      have hmul : f.1.length * (a + bndV a l b i + 1) ≤ l * (a + bndV a l b i + 1) := Nat.mul_le_mul_right _ hlf
      have hE := eval_ok (n := n + 2) (f := f) (X := o) hBf.t h2 hBf.k (by omega) hBf.l (by omega) (by omega) (fun t ht => by
        obtain ⟨j, hj⟩ := List.mem_iff_getElem?.1 ht
        have := hOk j (List.getElem?_eq_some_iff.1 hj).1 t.1 t.2 hj
        exact ⟨this.1, by omega⟩)
      have hM := max0_c (n := n + 2) (q := evV o f) (by omega)
      have hH := max0_H (evV o f)
      have hk := hBf.k
      have hE2 := hE.2
      dsimp only
      refine ⟨vs_r9_1 (r8 := evV o f) (by omega) hi hE.1 hM (by omega) ⟨by omega, by omega⟩, by rw [List.length_append, h1]; rfl, fun q hq => ?_, hlt⟩
      rcases List.mem_append.1 hq with h | h
      · exact Nat.le_trans (h2 q h) (bndV_mono a l b (by omega))
      · rw [List.mem_singleton.1 h]; omega)
    (fun o hI => vs_x9_1 (by omega))
  have key2 : ∀ (U : List Form) (i : Nat) (o : List Rat) (z : Nat), (foldI (fun _ (o : List Rat × Nat) f => (o.1 ++ [max0 (evV o.1 f)], o.1.length)) i (o, z) U).1 = foldI (fun _ out f => out ++ [max0 (evV out f)]) i o U := fun U => by
    induction U with
    | nil => intro i o z; rfl
    | cons f U ih => intro i o z; exact ih (i + 1) _ _
  have e : (foldI (fun _ (o : List Rat × Nat) f => (o.1 ++ [max0 (evV o.1 f)], o.1.length)) 0 (X, 0) g.Units).1 = valV g.Units X := key2 _ _ _ _
  obtain ⟨L3, h1, h2, _⟩ := L2
  rw [e] at L3 h1 h2
  exact ⟨vs_f3 K rfl hX L1 L3, h2, h1⟩
theorem forms_c {n : Nat} {g : TGraph} {X : List Rat} {L : List Form} {a l b : Nat} (hG : OkGr g) (hB : BdG a g) (ha : a ≤ 1000000) (hl : ∀ f ∈ g.Units, f.1.length ≤ l) (hX : (X.length : Int) = g.Inputs) (hb : ∀ q ∈ X, H q ≤ b) (hbnd : bndV a l b (g.Units.length + 1) ≤ 100000000)
    (hL : L.length ≤ 100000000) (hLb : ∀ f ∈ L, BdF a f ∧ f.1.length ≤ l ∧ ∀ t ∈ f.1, 0 ≤ t.1 ∧ t.1 < g.Inputs + (g.Units.length : Int)) :
    run (n + 4) 61 [graphV g, .sl 4 (L.map formC), .sl 3 (X.map ratC)] = some (.tup [.sl 3 ((L.map fun f => evV (valV g.Units X) f).map ratC), .lit (.int .i64 0)]) ∧ ∀ f ∈ L, H (evV (valV g.Units X) f) ≤ bndV a l b (g.Units.length + 1) := by
  have e1 : bndV a l b (g.Units.length + 1) = bndV a l b g.Units.length + a + l * (a + bndV a l b g.Units.length + 1) := rfl
  obtain ⟨K, hV, hVl⟩ := values_c (n := n) hG hB ha hl hX hb (by omega)
  have hi1 := hG.i1
  have hu := hG.u
  have hE : ∀ f ∈ L, run (n + 3) 90 [formV f, .sl 3 ((valV g.Units X).map ratC)] = some (.tup [ratV (evV (valV g.Units X) f), .lit (.int .i64 0)]) ∧ H (evV (valV g.Units X) f) ≤ a + f.1.length * (a + bndV a l b g.Units.length + 1) := fun f hf => by
    obtain ⟨h1, h2, h3⟩ := hLb f hf
    have hmul : f.1.length * (a + bndV a l b g.Units.length + 1) ≤ l * (a + bndV a l b g.Units.length + 1) := Nat.mul_le_mul_right _ h2
    exact eval_ok h1.t hV h1.k (by omega) h1.l (by omega) (by omega) (fun t ht => ⟨(h3 t ht).1, by have := (h3 t ht).2; omega⟩)
  have L1 := (loopG_I (O := tab (n + 4)) (P := Tryz.prog) (m := 0) (N := 43) (lives := livesOf 61) (r := 6) (C := fm_C6) (L := L) (f := fun _ o f => o ++ [evV (valV g.Units X) f]) (enc := fun i o => fm_h6 L (valV g.Units X) o i) (exN := .exit 0) (out := fun o => fm_o6a o) (Inv := fun i o => o.length = i) [] rfl (by omega) (by simp)
    (fun i f o hi hI => by
      have hlt := (List.getElem?_eq_some_iff.1 hi).1
      exact ⟨fm_r6_1 (by omega) hi (hE f (List.mem_of_getElem? hi)).1 (by omega) ⟨by omega, by omega⟩, by rw [List.length_append, hI]; rfl⟩)
    (fun o hI => fm_x6_1 (by omega))).1
  have key : ∀ (R : List Form) (i : Nat) (o : List Rat), foldI (fun _ o f => o ++ [evV (valV g.Units X) f]) i o R = o ++ R.map fun f => evV (valV g.Units X) f := fun R => by
    induction R with
    | nil => intro i o; simp [foldI]
    | cons x R ih => intro i o; rw [foldI, ih]; simp
  rw [key, List.nil_append] at L1
  refine ⟨fm_f2 K rfl L1, fun f hf => ?_⟩
  have hmul : f.1.length * (a + bndV a l b g.Units.length + 1) ≤ l * (a + bndV a l b g.Units.length + 1) := Nat.mul_le_mul_right _ (hLb f hf).2.1
  have := (hE f hf).2
  omega
end Go.Proofs.YtjobiobdpnhooaaGreatDoor
