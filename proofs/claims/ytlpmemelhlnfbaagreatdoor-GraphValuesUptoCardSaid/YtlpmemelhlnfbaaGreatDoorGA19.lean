/- graph.run, Values, Pre, Outputs; relucertref15.Values, forms, Pre, Outputs of a valid graph at a point whose numbers need not be canonical. The bounds of the statements about layer 15 (few, point): what they return. GraphValues: the law. -/
import Derived.Test.YtlpmemelhlnfbaaGreatDoorGA17
import Derived.Test.YtlpmemelhlnfbaaGreatDoorGA13
import Derived.Test.YtlpmemelhlnfbaaGreatDoorGA18
import Derived.Test.YtlpmemelhlnfbaaGreatDoorGA15
import Derived.Test.YtlpmemelhlnfbaaGreatDoorGA11
import Derived.Test.YtlpmemelhlnfbaaGreatDoorGA14
import Derived.Test.YtlpmemelhlnfbaaGreatDoorGA16
set_option linter.all false
set_option linter.all false
set_option maxRecDepth 100000
set_option maxHeartbeats 6400000
namespace Go.Proofs.YtlpmemelhlnfbaaGreatDoor
open Go.RowKit
attribute [local irreducible] run runL loopG exec

theorem grunX_c {n : Nat} {g : TGraph} {X : List Rat} {a l b : Nat} {xs : List Raw} (hx : X = xs.map Raw.q) (hr : ∀ r ∈ xs, RawB r) (hG : OkGr g) (hB : BdG a g) (ha : a ≤ 1000000) (hl : ∀ f ∈ g.Units, f.1.length ≤ l) (hX : (X.length : Int) = g.Inputs) (hb : ∀ q ∈ X, H q ≤ b) (hbnd : bndV a l b g.Units.length ≤ 100000000) :
    run (n + 6) 96 [graphV g, .sl 3 (xs.map rawC)] = some (.tup [.sl 3 ((valV g.Units X).map ratC), .sl 3 ((g.Units.map fun f => evV (valV g.Units X) f).map ratC), .lit (.int .i64 0)]) := by
  have hi0 := hG.i0
  have hi1 := hG.i1
  have hu := hG.u
  have K := gvalid_c (n := n) (hB.mono (by omega))
  rw [tv_t hG] at K
  have hb0 : b ≤ 100000000 := Nat.le_trans (bndV_mono a l b (Nat.zero_le _)) hbnd
  have hxl : X.length = xs.length := by rw [hx, List.length_map]
  have L1 := (loopG_I (O := tab (n + 6)) (P := Tryz.prog) (m := 0) (N := 61) (lives := livesOf 96) (r := 4) (C := grnX_C4) (L := xs) (f := fun _ o x => o ++ [x.q]) (enc := fun i o => grnX_h4 g xs o i) (exN := .exit 0) (out := fun o => grnX_o4a g o) (Inv := fun i o => o.length = i) [] rfl (by omega) (by simp)
    (fun i x o hi hI => by
      have hlt := (List.getElem?_eq_some_iff.1 hi).1
      have := hr x (List.mem_of_getElem? hi)
      exact ⟨grnX_r4_1 (by omega) hi this (by omega) ⟨by omega, by omega⟩, by rw [List.length_append, hI]; rfl⟩)
    (fun o hI => grnX_x4_1 (by omega))).1
  have key : ∀ (R : List Raw) (i : Nat) (o : List Rat), foldI (fun _ o x => o ++ [x.q]) i o R = o ++ R.map Raw.q := fun R => by
    induction R with
    | nil => intro i o; simp [foldI]
    | cons x R ih => intro i o; rw [foldI, ih]; simp
  rw [key, List.nil_append, ← hx] at L1
  have L2 := (loopG_I (O := tab (n + 6)) (P := Tryz.prog) (m := 0) (N := 61) (lives := livesOf 96) (r := 9) (C := grnX_C9) (L := g.Units) (f := valS) (enc := fun i o => grnX_h9 g o.1 o.2.1 i o.2.2) (exN := .exit 2) (out := fun o => grnX_o9a o.1 o.2.1 o.2.2) (Inv := fun i o => o.1.length = X.length + i ∧ (∀ q ∈ o.1, H q ≤ bndV a l b i) ∧ i ≤ g.Units.length ∧ o.2.1.length = i) (X, [], 0) ⟨rfl, hb, by omega, rfl⟩ (by omega) (by simp)
    (fun i f o hi hI => by
      obtain ⟨o, p, fz⟩ := o
      obtain ⟨h1, h2, h3, h4⟩ := hI
      dsimp only at h1 h2 h4
      have hlt := (List.getElem?_eq_some_iff.1 hi).1
      have hf := List.mem_of_getElem? hi
      have hBf := hB.u f hf
      have hlf := hl f hf
      have hOk := hG.un i hlt f hi
      have hm : bndV a l b (i + 1) ≤ bndV a l b g.Units.length := bndV_mono a l b hlt
      have e1 : bndV a l b (i + 1) = bndV a l b i + a + l * (a + bndV a l b i + 1) := rfl
      have hmul : f.1.length * (a + bndV a l b i + 1) ≤ l * (a + bndV a l b i + 1) := Nat.mul_le_mul_right _ hlf
      have hin : InR o.length f.1 := fun t ht => by
        obtain ⟨j, hj⟩ := List.mem_iff_getElem?.1 ht
        have := hOk j (List.getElem?_eq_some_iff.1 hj).1 t.1 t.2 hj
        exact ⟨this.1, by omega⟩
      have hE := pev_c (n := n + 5) (f := f) (X := o) hBf.t h2 hBf.k (by omega) hBf.l (by omega) (by omega)
      rw [(evR_in hin).1, ← evV_eq] at hE
      have hHv : H (evV o f) ≤ a + f.1.length * (a + bndV a l b i + 1) := (eval_ok (n := n) (f := f) (X := o) hBf.t h2 hBf.k (by omega) hBf.l (by omega) (by omega) hin).2
      have hM := pmax0_c (n := n + 5) (q := evV o f) (by omega)
      have hH := max0_H (evV o f)
      unfold valS
      dsimp only
      refine ⟨grnX_r9_1 (r8 := evV o f) (by omega) hi hE (by omega) hM (by omega) ⟨by omega, by omega⟩, by rw [List.length_append, h1]; rfl, fun q hq => ?_, hlt, by rw [List.length_append, h4]; rfl⟩
      rcases List.mem_append.1 hq with h | h
      · exact Nat.le_trans (h2 q h) (bndV_mono a l b (by omega))
      · rw [List.mem_singleton.1 h]; omega)
    (fun o hI => grnX_x9_1 (by omega))).1
  obtain ⟨e1, e2⟩ := valS_fold g.Units 0 X [] 0 (hG.back hX)
  rw [e1, e2, List.nil_append] at L2
  exact grnX_f3 K rfl (by omega) L1 L2
theorem gvaluesX_c {n : Nat} {g : TGraph} {X : List Rat} {a l b : Nat} {xs : List Raw} (hx : X = xs.map Raw.q) (hr : ∀ r ∈ xs, RawB r) (hG : OkGr g) (hB : BdG a g) (ha : a ≤ 1000000) (hl : ∀ f ∈ g.Units, f.1.length ≤ l) (hX : (X.length : Int) = g.Inputs) (hb : ∀ q ∈ X, H q ≤ b) (hbnd : bndV a l b g.Units.length ≤ 100000000) :
    run (n + 7) 32 [graphV g, .sl 3 (xs.map rawC)] = some (.tup [.sl 3 ((valV g.Units X).map ratC), .lit (.int .i64 0)]) := gVaX_f1 (grunX_c (n := n) hx hr hG hB ha hl hX hb hbnd)
theorem gpreX_c {n : Nat} {g : TGraph} {X : List Rat} {a l b : Nat} {xs : List Raw} (hx : X = xs.map Raw.q) (hr : ∀ r ∈ xs, RawB r) (hG : OkGr g) (hB : BdG a g) (ha : a ≤ 1000000) (hl : ∀ f ∈ g.Units, f.1.length ≤ l) (hX : (X.length : Int) = g.Inputs) (hb : ∀ q ∈ X, H q ≤ b) (hbnd : bndV a l b g.Units.length ≤ 100000000) :
    run (n + 7) 33 [graphV g, .sl 3 (xs.map rawC)] = some (.tup [.sl 3 ((g.Units.map fun f => evV (valV g.Units X) f).map ratC), .lit (.int .i64 0)]) := gPrX_f1 (grunX_c (n := n) hx hr hG hB ha hl hX hb hbnd)
theorem goutsX_c {n : Nat} {g : TGraph} {X : List Rat} {a l b : Nat} {xs : List Raw} (hx : X = xs.map Raw.q) (hr : ∀ r ∈ xs, RawB r) (hG : OkGr g) (hB : BdG a g) (ha : a ≤ 1000000) (hl : ∀ f ∈ g.Units, f.1.length ≤ l) (hlo : ∀ f ∈ g.Outputs, f.1.length ≤ l) (hX : (X.length : Int) = g.Inputs) (hb : ∀ q ∈ X, H q ≤ b) (hbnd : bndV a l b (g.Units.length + 1) ≤ 100000000) :
    run (n + 7) 34 [graphV g, .sl 3 (xs.map rawC)] = some (.tup [.sl 3 ((g.Outputs.map fun f => evV (valV g.Units X) f).map ratC), .lit (.int .i64 0)]) := by
  have e1 : bndV a l b (g.Units.length + 1) = bndV a l b g.Units.length + a + l * (a + bndV a l b g.Units.length + 1) := rfl
  have K := grunX_c (n := n) hx hr hG hB ha hl hX hb (by omega)
  have hV := (values_c (n := n) hG hB ha hl hX hb (by omega)).2
  have ho := hB.lo
  have hi1 := hG.i1
  have hu := hG.u
  have L1 := (loopG_I (O := tab (n + 7)) (P := Tryz.prog) (m := 0) (N := 43) (lives := livesOf 34) (r := 6) (C := gOuX_C6) (L := g.Outputs) (f := fun _ o f => o ++ [evV (valV g.Units X) f]) (enc := fun i o => gOuX_h6 g (valV g.Units X) o i) (exN := .exit 0) (out := fun o => gOuX_o6a o) (Inv := fun i o => o.length = i) [] rfl (by omega) (by simp)
    (fun i f o hi hI => by
      have hlt := (List.getElem?_eq_some_iff.1 hi).1
      have hf := List.mem_of_getElem? hi
      have hBf := hB.o f hf
      have hmul : f.1.length * (a + bndV a l b g.Units.length + 1) ≤ l * (a + bndV a l b g.Units.length + 1) := Nat.mul_le_mul_right _ (hlo f hf)
      have hE := pev_c (n := n + 6) (f := f) (X := valV g.Units X) hBf.t hV.1 hBf.k (by omega) hBf.l (by omega) (by omega)
      rw [(evR_in (fun t ht => by have := hG.out hf t ht; exact ⟨this.1, by omega⟩)).1, ← evV_eq] at hE
      exact ⟨gOuX_r6_1 (r8 := evV (valV g.Units X) f) (by omega) hi hE (by omega) ⟨by omega, by omega⟩, by rw [List.length_append, hI]; rfl⟩)
    (fun o hI => gOuX_x6_1 (by omega))).1
  have key : ∀ (R : List Form) (i : Nat) (o : List Rat), foldI (fun _ o f => o ++ [evV (valV g.Units X) f]) i o R = o ++ R.map fun f => evV (valV g.Units X) f := fun R => by
    induction R with
    | nil => intro i o; simp [foldI]
    | cons x R ih => intro i o; rw [foldI, ih]; simp
  rw [key, List.nil_append] at L1
  exact gOuX_f2 K rfl L1
theorem valuesX_c {n : Nat} {g : TGraph} {X : List Rat} {a l b : Nat} {xs : List Raw} (hx : X = xs.map Raw.q) (hr : ∀ r ∈ xs, RawB r) (hG : OkGr g) (hB : BdG a g) (ha : a ≤ 1000000) (hl : ∀ f ∈ g.Units, f.1.length ≤ l) (hX : (X.length : Int) = g.Inputs) (hb : ∀ q ∈ X, H q ≤ b) (hbnd : bndV a l b g.Units.length ≤ 100000000) :
    run (n + 3) 35 [graphV g, .sl 3 (xs.map rawC)] = some (.tup [.sl 3 ((valV g.Units X).map ratC), .lit (.int .i64 0)]) ∧ (∀ q ∈ valV g.Units X, H q ≤ bndV a l b g.Units.length) ∧ (valV g.Units X).length = X.length + g.Units.length := by
  have hi0 := hG.i0
  have hi1 := hG.i1
  have hu := hG.u
  have K := validG_c (n := n) (hB.mono (by omega))
  rw [tv_t hG] at K
  have hb0 : b ≤ 100000000 := Nat.le_trans (bndV_mono a l b (Nat.zero_le _)) hbnd
  have hxl : X.length = xs.length := by rw [hx, List.length_map]
  have L1 := (loopG_I (O := tab (n + 3)) (P := Tryz.prog) (m := 0) (N := 59) (lives := livesOf 35) (r := 5) (C := vsX_C5) (L := xs) (f := fun _ o x => o ++ [x.q]) (enc := fun i o => vsX_h5 g xs o i) (exN := .exit 0) (out := fun o => vsX_o5a g o) (Inv := fun i o => o.length = i) [] rfl (by omega) (by simp)
    (fun i x o hi hI => by
      have hlt := (List.getElem?_eq_some_iff.1 hi).1
      have := hr x (List.mem_of_getElem? hi)
      exact ⟨vsX_r5_1 (by omega) hi this (by omega) ⟨by omega, by omega⟩, by rw [List.length_append, hI]; rfl⟩)
    (fun o hI => vsX_x5_1 (by omega))).1
  have key : ∀ (R : List Raw) (i : Nat) (o : List Rat), foldI (fun _ o x => o ++ [x.q]) i o R = o ++ R.map Raw.q := fun R => by
    induction R with
    | nil => intro i o; simp [foldI]
    | cons x R ih => intro i o; rw [foldI, ih]; simp
  rw [key, List.nil_append, ← hx] at L1
  have L2 := loopG_I (O := tab (n + 3)) (P := Tryz.prog) (m := 0) (N := 59) (lives := livesOf 35) (r := 9) (C := vsX_C9) (L := g.Units) (f := fun _ (o : List Rat × Nat) f => (o.1 ++ [max0 (evV o.1 f)], o.1.length)) (enc := fun i o => vsX_h9 g o.1 i o.2) (exN := .exit 2) (out := fun o => vsX_o9a o.1 o.2) (Inv := fun i o => o.1.length = X.length + i ∧ (∀ q ∈ o.1, H q ≤ bndV a l b i) ∧ i ≤ g.Units.length) (X, 0) ⟨rfl, hb, by omega⟩ (by omega) (by simp)
    (fun i f o hi hI => by
      obtain ⟨o, fz⟩ := o
      obtain ⟨h1, h2, h3⟩ := hI
      dsimp only at h1 h2
      have hlt := (List.getElem?_eq_some_iff.1 hi).1
      have hf := List.mem_of_getElem? hi
      have hBf := hB.u f hf
      have hlf := hl f hf
      have hOk := hG.un i hlt f hi
      have hm : bndV a l b (i + 1) ≤ bndV a l b g.Units.length := bndV_mono a l b hlt
      have e1 : bndV a l b (i + 1) = bndV a l b i + a + l * (a + bndV a l b i + 1) := rfl
      have hmul : f.1.length * (a + bndV a l b i + 1) ≤ l * (a + bndV a l b i + 1) := Nat.mul_le_mul_right _ hlf
      have hE := eval_ok (n := n + 2) (f := f) (X := o) hBf.t h2 hBf.k (by omega) hBf.l (by omega) (by omega) (fun t ht => by
        obtain ⟨j, hj⟩ := List.mem_iff_getElem?.1 ht
        have := hOk j (List.getElem?_eq_some_iff.1 hj).1 t.1 t.2 hj
        exact ⟨this.1, by omega⟩)
      have hM := max0_c (n := n + 2) (q := evV o f) (by omega)
      have hH := max0_H (evV o f)
      have hk := hBf.k
      have hE2 := hE.2
      dsimp only
      refine ⟨vsX_r9_1 (r8 := evV o f) (by omega) hi hE.1 hM (by omega) ⟨by omega, by omega⟩, by rw [List.length_append, h1]; rfl, fun q hq => ?_, hlt⟩
      rcases List.mem_append.1 hq with h | h
      · exact Nat.le_trans (h2 q h) (bndV_mono a l b (by omega))
      · rw [List.mem_singleton.1 h]; omega)
    (fun o hI => vsX_x9_1 (by omega))
  have key2 : ∀ (U : List Form) (i : Nat) (o : List Rat) (z : Nat), (foldI (fun _ (o : List Rat × Nat) f => (o.1 ++ [max0 (evV o.1 f)], o.1.length)) i (o, z) U).1 = foldI (fun _ out f => out ++ [max0 (evV out f)]) i o U := fun U => by
    induction U with
    | nil => intro i o z; rfl
    | cons f U ih => intro i o z; exact ih (i + 1) _ _
  have e : (foldI (fun _ (o : List Rat × Nat) f => (o.1 ++ [max0 (evV o.1 f)], o.1.length)) 0 (X, 0) g.Units).1 = valV g.Units X := key2 _ _ _ _
  obtain ⟨L3, h1, h2, _⟩ := L2
  rw [e] at L3 h1 h2
  exact ⟨vsX_f3 K rfl (by omega) L1 L3, h2, h1⟩
theorem formsX_c {n : Nat} {g : TGraph} {X : List Rat} {L : List Form} {a l b : Nat} {xs : List Raw} (hx : X = xs.map Raw.q) (hr : ∀ r ∈ xs, RawB r) (hG : OkGr g) (hB : BdG a g) (ha : a ≤ 1000000) (hl : ∀ f ∈ g.Units, f.1.length ≤ l) (hX : (X.length : Int) = g.Inputs) (hb : ∀ q ∈ X, H q ≤ b) (hbnd : bndV a l b (g.Units.length + 1) ≤ 100000000)
    (hL : L.length ≤ 100000000) (hLb : ∀ f ∈ L, BdF a f ∧ f.1.length ≤ l ∧ ∀ t ∈ f.1, 0 ≤ t.1 ∧ t.1 < g.Inputs + (g.Units.length : Int)) :
    run (n + 4) 101 [graphV g, .sl 4 (L.map formC), .sl 3 (xs.map rawC)] = some (.tup [.sl 3 ((L.map fun f => evV (valV g.Units X) f).map ratC), .lit (.int .i64 0)]) ∧ ∀ f ∈ L, H (evV (valV g.Units X) f) ≤ bndV a l b (g.Units.length + 1) := by
  have e1 : bndV a l b (g.Units.length + 1) = bndV a l b g.Units.length + a + l * (a + bndV a l b g.Units.length + 1) := rfl
  obtain ⟨K, hV, hVl⟩ := valuesX_c (n := n) hx hr hG hB ha hl hX hb (by omega)
  have hi1 := hG.i1
  have hu := hG.u
  have hE : ∀ f ∈ L, run (n + 3) 99 [formV f, .sl 3 ((valV g.Units X).map ratC)] = some (.tup [ratV (evV (valV g.Units X) f), .lit (.int .i64 0)]) ∧ H (evV (valV g.Units X) f) ≤ a + f.1.length * (a + bndV a l b g.Units.length + 1) := fun f hf => by
    obtain ⟨h1, h2, h3⟩ := hLb f hf
    have hmul : f.1.length * (a + bndV a l b g.Units.length + 1) ≤ l * (a + bndV a l b g.Units.length + 1) := Nat.mul_le_mul_right _ h2
    exact eval_ok h1.t hV h1.k (by omega) h1.l (by omega) (by omega) (fun t ht => ⟨(h3 t ht).1, by have := (h3 t ht).2; omega⟩)
  have L1 := (loopG_I (O := tab (n + 4)) (P := Tryz.prog) (m := 0) (N := 43) (lives := livesOf 101) (r := 6) (C := fmX_C6) (L := L) (f := fun _ o f => o ++ [evV (valV g.Units X) f]) (enc := fun i o => fmX_h6 L (valV g.Units X) o i) (exN := .exit 0) (out := fun o => fmX_o6a o) (Inv := fun i o => o.length = i) [] rfl (by omega) (by simp)
    (fun i f o hi hI => by
      have hlt := (List.getElem?_eq_some_iff.1 hi).1
      exact ⟨fmX_r6_1 (by omega) hi (hE f (List.mem_of_getElem? hi)).1 (by omega) ⟨by omega, by omega⟩, by rw [List.length_append, hI]; rfl⟩)
    (fun o hI => fmX_x6_1 (by omega))).1
  have key : ∀ (R : List Form) (i : Nat) (o : List Rat), foldI (fun _ o f => o ++ [evV (valV g.Units X) f]) i o R = o ++ R.map fun f => evV (valV g.Units X) f := fun R => by
    induction R with
    | nil => intro i o; simp [foldI]
    | cons x R ih => intro i o; rw [foldI, ih]; simp
  rw [key, List.nil_append] at L1
  refine ⟨fmX_f2 K rfl L1, fun f hf => ?_⟩
  have hmul : f.1.length * (a + bndV a l b g.Units.length + 1) ≤ l * (a + bndV a l b g.Units.length + 1) := Nat.mul_le_mul_right _ (hLb f hf).2.1
  have := (hE f hf).2
  omega
theorem foutsX_c {n : Nat} {g : TGraph} {X : List Rat} {a l b : Nat} {xs : List Raw} (hx : X = xs.map Raw.q) (hr : ∀ r ∈ xs, RawB r) (hG : OkGr g) (hB : BdG a g) (ha : a ≤ 1000000) (hl : ∀ f ∈ g.Units, f.1.length ≤ l) (hlo : ∀ f ∈ g.Outputs, f.1.length ≤ l) (hX : (X.length : Int) = g.Inputs) (hb : ∀ q ∈ X, H q ≤ b) (hbnd : bndV a l b (g.Units.length + 1) ≤ 100000000) :
    run (n + 5) 37 [graphV g, .sl 3 (xs.map rawC)] = some (.tup [.sl 3 ((g.Outputs.map fun f => evV (valV g.Units X) f).map ratC), .lit (.int .i64 0)]) ∧ ∀ f ∈ g.Outputs, H (evV (valV g.Units X) f) ≤ bndV a l b (g.Units.length + 1) := by
  have h := formsX_c (n := n) (L := g.Outputs) hx hr hG hB ha hl hX hb hbnd hB.lo (fun f hf => ⟨hB.o f hf, hlo f hf, hG.out hf⟩)
  exact ⟨ouX_f1 h.1, h.2⟩
theorem fpreX_c {n : Nat} {g : TGraph} {X : List Rat} {a l b : Nat} {xs : List Raw} (hx : X = xs.map Raw.q) (hr : ∀ r ∈ xs, RawB r) (hG : OkGr g) (hB : BdG a g) (ha : a ≤ 1000000) (hl : ∀ f ∈ g.Units, f.1.length ≤ l) (hX : (X.length : Int) = g.Inputs) (hb : ∀ q ∈ X, H q ≤ b) (hbnd : bndV a l b (g.Units.length + 1) ≤ 100000000) :
    run (n + 5) 36 [graphV g, .sl 3 (xs.map rawC)] = some (.tup [.sl 3 ((g.Units.map fun f => evV (valV g.Units X) f).map ratC), .lit (.int .i64 0)]) ∧ ∀ f ∈ g.Units, H (evV (valV g.Units X) f) ≤ bndV a l b (g.Units.length + 1) := by
  have h := formsX_c (n := n) (L := g.Units) hx hr hG hB ha hl hX hb hbnd (by have := hG.u; omega) (fun f hf => ⟨hB.u f hf, hl f hf, fun t ht => by
    obtain ⟨i, hi⟩ := List.mem_iff_getElem?.1 hf
    have hlt := (List.getElem?_eq_some_iff.1 hi).1
    have := (hG.back hX) i f hi t ht
    exact ⟨this.1, by omega⟩⟩)
  exact ⟨prX_f1 h.1, h.2⟩
end Go.Proofs.YtlpmemelhlnfbaaGreatDoor
set_option linter.all false
set_option maxRecDepth 100000
set_option maxHeartbeats 6400000
namespace Go.Proofs.YtlpmemelhlnfbaaGreatDoor
open Go.RowKit
attribute [local irreducible] run runL loopG exec

theorem short_c {n : Nat} {r : Raw} : run n 19 [.agg [.lit (.bool r.s), natA r.l1, natA r.l2]] = some (.lit (.bool (tv (Two r)))) := by
  by_cases h1 : (r.l1.length : Int) ≤ 2
  · rw [shR_f1 h1]
    by_cases h2 : (r.l2.length : Int) ≤ 2
    · rw [decide_eq_true h2, tv_t ⟨by omega, by omega⟩]
    · rw [decide_eq_false h2, tv_f fun h => h2 (by have := h.2; omega)]
  · rw [shR_f2 h1, tv_f fun h => h1 (by have := h.1; omega)]
theorem frm_in {n : Nat} {L : List FormR} {i : Nat} {f : FormR} (hf : L[i]? = some f) (hl : f.1.length ≤ 8) :
    loopG Tryz.prog (tab (n + 1)) 0 48 (livesOf 95) 7 frm_C7 (frm_h7 L i 0) = some (if ∀ k, k < f.1.length → tv (∀ t, f.1[k]? = some t → Two t.2) = true then (.exit 2, frm_o7b L i) else (.ret, frm_o7a L i)) :=
  loopG_all (O := tab (n + 1)) (P := Tryz.prog) (m := 0) (N := 48) (lives := livesOf 95) (r := 7) (C := frm_C7) (M := f.1.length) (enc := fun k => frm_h7 L i k) (p := fun k => tv (∀ t, f.1[k]? = some t → Two t.2)) (exN := .exit 2) (exE := .ret) (out := frm_o7b L i) (outE := frm_o7a L i) (by omega) (fun h => by cases h) (fun h => by cases h)
    (fun k hk _ => by
      have hx : f.1[k]? = some f.1[k] := List.getElem?_eq_getElem hk
      generalize f.1[k] = t at hx
      have C1 : (k : Int) < (f.1.length : Int) := by omega
      have K := short_c (n := n) (r := t.2)
      have e : tv (∀ u, f.1[k]? = some u → Two u.2) = tv (Two t.2) := tv_iff ⟨fun h => h t hx, fun h u hu => by rw [hx] at hu; cases hu; exact h⟩
      rw [e]
      exact ⟨fun hp => frm_r7_1 hf C1 hx K hp ⟨by omega, by omega⟩, fun hp => frm_x7_1 hf C1 hx K hp⟩)
    (frm_x7_2 hf (by omega))
theorem frm_c {n : Nat} {L : List FormR} (hl : L.length ≤ 100000) : run (n + 1) 95 [.sl 4 (L.map formRC)] = some (.lit (.bool (tv (∀ f ∈ L, FewR f.1 f.2)))) := by
  have hG := loopG_all (O := tab (n + 1)) (P := Tryz.prog) (m := 0) (N := 48) (lives := livesOf 95) (r := 2) (C := frm_C2) (M := L.length) (enc := frm_h2 L) (p := fun i => tv (∀ f, L[i]? = some f → FewR f.1 f.2)) (exN := .exit 0) (exE := .ret) (out := frm_o2b) (outE := frm_o2a) (by omega) (fun h => by cases h) (fun h => by cases h)
    (fun i hi _ => by
      have hx : L[i]? = some L[i] := List.getElem?_eq_getElem hi
      generalize L[i] = f at hx
      have C1 : (i : Int) < (L.length : Int) := by omega
      have e : tv (∀ g, L[i]? = some g → FewR g.1 g.2) = tv (FewR f.1 f.2) := tv_iff ⟨fun h => h f hx, fun h g hg => by rw [hx] at hg; cases hg; exact h⟩
      rw [e]
      by_cases c1 : 8 < (f.1.length : Int)
      · refine ⟨fun hp => absurd (tv_true hp).1 (by omega), fun _ => frm_x2_1 C1 hx c1⟩
      have K := short_c (n := n) (r := f.2)
      by_cases c2 : Two f.2
      · rw [tv_t c2] at K
        have L6 := frm_in (n := n) hx (by omega)
        by_cases c3 : ∀ k, k < f.1.length → tv (∀ t, f.1[k]? = some t → Two t.2) = true
        · rw [if_pos c3] at L6
          refine ⟨fun _ => frm_r2_1 C1 hx c1 K rfl L6 ⟨by omega, by omega⟩, fun hp => absurd ⟨by omega, c2, fun t ht => ?_⟩ (tv_false hp)⟩
          obtain ⟨k, hk⟩ := List.mem_iff_getElem?.1 ht
          exact tv_true (c3 k (List.getElem?_eq_some_iff.1 hk).1) t hk
        · rw [if_neg c3] at L6
          refine ⟨fun hp => absurd (fun k hk => tv_t fun t ht => (tv_true hp).2.2 t (List.mem_of_getElem? ht)) c3, fun _ => frm_x2_3 C1 hx c1 K rfl L6⟩
      · rw [tv_f c2] at K
        exact ⟨fun hp => absurd (tv_true hp).2.1 c2, fun _ => frm_x2_2 C1 hx c1 K rfl⟩)
    (frm_x2_4 (by omega))
  by_cases h : ∀ f ∈ L, FewR f.1 f.2
  · rw [if_pos (fun i hi => tv_t (all_idx.2 h i hi))] at hG
    rw [tv_t h]
    exact frm_f2 hG
  · rw [if_neg (fun h2 => h (all_idx.1 fun i hi => tv_true (h2 i hi)))] at hG
    rw [tv_f h]
    exact frm_f1 hG
/-- a graph of few small forms -/
structure FewG (g : TGraphR) : Prop where
  lu : g.Units.length ≤ 6
  lo : g.Outputs.length ≤ 6
  u : ∀ f ∈ g.Units, FewR f.1 f.2
  o : ∀ f ∈ g.Outputs, FewR f.1 f.2
theorem few5_c {n : Nat} {g : TGraphR} : ∃ b, run (n + 2) 30 [graphRV g] = some (.lit (.bool b)) ∧ (b = true → FewG g) := by
  by_cases c1 : ¬ (g.Units.length : Int) ≤ 6
  · exact ⟨_, few5_f4 c1, fun h => by cases h⟩
  replace c1 := Classical.not_not.1 c1
  by_cases c2 : ¬ (g.Outputs.length : Int) ≤ 6
  · exact ⟨_, few5_f3 c1 c2, fun h => by cases h⟩
  replace c2 := Classical.not_not.1 c2
  have K1 := frm_c (n := n) (L := g.Units) (by omega)
  have K2 := frm_c (n := n) (L := g.Outputs) (by omega)
  by_cases h1 : ∀ f ∈ g.Units, FewR f.1 f.2
  · rw [tv_t h1] at K1
    exact ⟨_, few5_f1 c1 c2 K1 rfl K2, fun h => ⟨by omega, by omega, h1, tv_true h⟩⟩
  · rw [tv_f h1] at K1
    exact ⟨_, few5_f2 c1 c2 K1 rfl, fun h => by cases h⟩
theorem pt5_c {n : Nat} {xs : List Raw} (hl : xs.length ≤ 100000000) : ∃ b, run (n + 1) 31 [.sl 3 (xs.map rawC)] = some (.lit (.bool b)) ∧ (b = true → xs.length ≤ 8 ∧ ∀ r ∈ xs, Two r) := by
  have hG := loopG_all (O := tab (n + 1)) (P := Tryz.prog) (m := 0) (N := 19) (lives := livesOf 31) (r := 2) (C := pt5_C2) (M := xs.length) (enc := pt5_h2 xs) (p := fun i => tv (∀ r, xs[i]? = some r → Two r)) (exN := .exit 0) (exE := .ret) (out := pt5_o2b xs) (outE := pt5_o2a xs) (by omega) (fun h => by cases h) (fun h => by cases h)
    (fun i hi _ => by
      have hx : xs[i]? = some xs[i] := List.getElem?_eq_getElem hi
      generalize xs[i] = r at hx
      have C1 : (i : Int) < (xs.length : Int) := by omega
      have K := short_c (n := n) (r := r)
      have e : tv (∀ u, xs[i]? = some u → Two u) = tv (Two r) := tv_iff ⟨fun h => h r hx, fun h u hu => by rw [hx] at hu; cases hu; exact h⟩
      rw [e]
      exact ⟨fun hp => pt5_r2_1 C1 hx K hp ⟨by omega, by omega⟩, fun hp => pt5_x2_1 C1 hx K hp⟩)
    (pt5_x2_2 (by omega))
  by_cases h : ∀ r ∈ xs, Two r
  · rw [if_pos (fun i hi => tv_t (all_idx.2 h i hi))] at hG
    exact ⟨_, pt5_f2 hG, fun hb => ⟨by have := of_decide_eq_true hb; omega, h⟩⟩
  · rw [if_neg (fun h2 => h (all_idx.1 fun i hi => tv_true (h2 i hi)))] at hG
    exact ⟨_, pt5_f1 hG, fun hb => by cases hb⟩
end Go.Proofs.YtlpmemelhlnfbaaGreatDoor
set_option linter.all false
set_option maxRecDepth 100000
set_option maxHeartbeats 6400000
namespace Go.Proofs.YtlpmemelhlnfbaaGreatDoor
open Go.RowKit
attribute [local irreducible] run runL loopG exec gvl

theorem two_q {c : Raw} (h : Two c) (hl : LimR2 c) : H c.q ≤ 2 := by
  have a1 := lmb_len_val hl.1
  have a2 : (lmb (dn c.l2)).length ≤ 2 := by
    unfold dn
    split
    · rw [lmb_one]; simp
    · have := lmb_len_val hl.2; have := h.2; omega
  have h9 := H_mk (sgi c.s (val c.l1)) (D := dn c.l2) (dn_pos _)
  rw [sgi_natAbs] at h9
  have := h.1
  show H (sv c.s c.l1 c.l2) ≤ 2
  unfold sv
  omega
/-- what came in: limbs of 32 bits -/
structure LimG (g : TGraphR) : Prop where
  u : ∀ f ∈ g.Units, LimF f
  o : ∀ f ∈ g.Outputs, LimF f
theorem FewG.bd {g : TGraphR} (h : FewG g) (hl : LimG g) : BdGR g := ⟨by have := h.lu; omega, by have := h.lo; omega, fun f hf => ⟨hl.u f hf, h.u f hf⟩, fun f hf => ⟨hl.o f hf, h.o f hf⟩⟩
theorem values_true {n : Nat} {g : TGraphR} {xs : List Raw} (hl : LimG g) (hx : ∀ r ∈ xs, LimR2 r) (hxl : xs.length ≤ 100000000) : gvl n [graphRV g, .sl 3 (xs.map rawC)] = some (.lit (.bool true)) := by
  obtain ⟨b1, K1, hb1⟩ := few5_c (n := n + 7) (g := g)
  cases b1 with
  | false => exact gvl_f1 K1 rfl
  | true =>
  have hF := hb1 rfl
  obtain ⟨b2, K3, hb2⟩ := pt5_c (n := n + 8) hxl
  cases b2 with
  | false => exact gvl_f2 K1 rfl K3 rfl
  | true =>
  obtain ⟨hx8, hx2⟩ := hb2 rfl
  have lu := hF.lu
  have lo := hF.lo
  have hB := hF.bd hl
  have K5 := cpyR_f1 (n := n + 9) (a0 := g) (by omega) (by omega)
  have nil0 : ∀ m, run m 38 [.sl 3 (([] : List Rat).map ratC), .sl 3 (([] : List Rat).map ratC)] = some (.lit (.bool true)) := fun m => sal_same (n := m) (L := []) (by simp) (fun q hq => by cases hq)
  -- neither answers
  have none_ : (∀ m, run (m + 6) 96 [graphRV g, .sl 3 (xs.map rawC)] = some (.tup [.sl 3 [], .sl 3 [], .lit (.int .i64 1)])) → (∀ m, run (m + 3) 35 [graphRV g, .sl 3 (xs.map rawC)] = some (.tup [.sl 3 [], .lit (.int .i64 1)])) → gvl n [graphRV g, .sl 3 (xs.map rawC)] = some (.lit (.bool true)) := fun h1 h2 =>
    gvl_f3 (r4 := []) (r6 := []) (r8 := []) (r10 := []) (r12 := []) (r14 := []) K1 rfl K3 rfl K5 hxl (gVaR_f1 (n := n + 2) (r := []) (r2 := []) (h1 _)) (gPrR_f1 (n := n + 2) (r := []) (r2 := []) (h1 _)) (gOuR_f1 (n := n + 2) (r := []) (r2 := []) (h1 _) (by decide))
      (h2 (n + 6)) (prR_f1 (n := n + 4) (r := []) (fmR_f1 (n := n + 4) (r := []) (h2 _) (by decide))) (ouR_f1 (n := n + 4) (r := []) (fmR_f1 (n := n + 4) (r := []) (h2 _) (by decide))) rfl rfl rfl (nil0 _) rfl (nil0 _) rfl (nil0 _)
  by_cases hO : ¬ OkGrR g
  · exact none_ (fun m => by
      have K := gvalidR_c (n := m) hB
      rw [tv_f hO] at K
      exact grnR_f1 K rfl) (fun m => by
      have K := validGR_c (n := m) hB
      rw [tv_f hO] at K
      exact vsR_f1 K rfl)
  replace hO := Classical.not_not.1 hO
  by_cases hX : ¬ (xs.length : Int) = g.Inputs
  · exact none_ (fun m => by
      have K := gvalidR_c (n := m) hB
      rw [tv_t hO] at K
      exact grnR_f2 K rfl hX) (fun m => by
      have K := validGR_c (n := m) hB
      rw [tv_t hO] at K
      exact vsR_f2 K rfl hX)
  replace hX := Classical.not_not.1 hX
  obtain ⟨e, ok, bd, b1, b2⟩ := graph_un hB hO
  have hr : ∀ r ∈ xs, RawB r := fun r h => (hx2 r h).rb (hx r h)
  have hXq : ((xs.map Raw.q).length : Int) = (unG g).Inputs := by rw [List.length_map]; exact hX
  have hH : ∀ q ∈ xs.map Raw.q, H q ≤ 2 := fun q hq => by
    obtain ⟨r, h0, rfl⟩ := List.mem_map.1 hq
    exact two_q (hx2 r h0) (hx r h0)
  have lU : (unG g).Units.length = g.Units.length := List.length_map _
  have lO : (unG g).Outputs.length = g.Outputs.length := List.length_map _
  have hb : bndV 2 8 2 ((unG g).Units.length + 1) ≤ 100000000 := Nat.le_trans (bndV_mono 2 8 2 (j := 7) (by omega)) (by decide)
  have hb0 : bndV 2 8 2 (unG g).Units.length ≤ 100000000 := Nat.le_trans (bndV_mono 2 8 2 (by omega)) hb
  have V := gvaluesX_c (n := n + 2) rfl hr ok bd (by omega) b1 hXq hH hb0
  have P := gpreX_c (n := n + 2) rfl hr ok bd (by omega) b1 hXq hH hb0
  have O := goutsX_c (n := n + 2) rfl hr ok bd (by omega) b1 b2 hXq hH hb
  obtain ⟨W, hW, _⟩ := valuesX_c (n := n + 6) rfl hr ok bd (by omega) b1 hXq hH hb0
  obtain ⟨Q, hQ⟩ := fpreX_c (n := n + 4) rfl hr ok bd (by omega) b1 hXq hH hb
  obtain ⟨Z, hZ⟩ := foutsX_c (n := n + 4) rfl hr ok bd (by omega) b1 b2 hXq hH hb
  have hVl := (valV_ext (unG g).Units (xs.map Raw.q))
  rw [← e] at V P O W Q Z
  refine gvl_f3 K1 rfl K3 rfl K5 hxl V P O W Q Z rfl rfl rfl (sal_same ?_ fun q hq => ?_) rfl (sal_same ?_ fun q hq => ?_) rfl (sal_same ?_ fun q hq => ?_)
  · obtain ⟨R, h1, h2⟩ := hVl
    rw [h1, List.length_append, List.length_map, h2]; omega
  · have := hW q hq; omega
  · rw [List.length_map]; omega
  · obtain ⟨f, hf, rfl⟩ := List.mem_map.1 hq
    have := hQ f hf; omega
  · rw [List.length_map]; omega
  · obtain ⟨f, hf, rfl⟩ := List.mem_map.1 hq
    have := hZ f hf; omega
end Go.Proofs.YtlpmemelhlnfbaaGreatDoor
