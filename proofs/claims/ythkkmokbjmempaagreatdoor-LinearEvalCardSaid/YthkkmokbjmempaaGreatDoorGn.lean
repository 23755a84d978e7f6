/- linear.Eval, Coef, copied; relucertref07.Coef: what they return. -/
import Derived.Test.YthkkmokbjmempaaGreatDoorGs
import Derived.Test.YthkkmokbjmempaaGreatDoorYb
import Derived.Test.YthkkmokbjmempaaGreatDoorLb
set_option linter.all false
set_option linter.all false
set_option maxRecDepth 100000
set_option maxHeartbeats 6400000
namespace Go.Proofs.YthkkmokbjmempaaGreatDoor
open Go.RowKit
attribute [local irreducible] run runL loopG exec

theorem pev_c {n : Nat} {f : Form} {X : List Rat} {a b k : Nat} (ha : ∀ t ∈ f.1, H t.2 ≤ a) (hb : ∀ q ∈ X, H q ≤ b) (hk : H f.2 ≤ k) (hX : X.length ≤ 100000000) (hF : f.1.length ≤ 100000000) (hs : k + f.1.length * (a + b + 1) ≤ 17179869184) (hab : a + b ≤ 17179869184) :
    run n 29 [formV f, .sl 3 (X.map ratC)] = some (evR X f) := by
  have L := loopG_E (O := tab n) (P := Tryz.prog) (m := 0) (N := 42) (lives := livesOf 29) (r := 3) (C := lev_C3) (L := f.1) (f := evF X) (enc := fun i s => lev_h3 f X i s) (exN := .exit 0) (exE := .ret) (out := lev_o3b) (outE := lev_o3a) (Inv := fun i s => H s ≤ k + i * (a + b + 1) ∧ i ≤ f.1.length) f.2 ⟨by omega, by omega⟩ (by omega) (fun h => by cases h) (fun h => by cases h)
    (fun i t s hi hI => by
      obtain ⟨v, c⟩ := t
      obtain ⟨hI, hle⟩ := hI
      have hlt := (List.getElem?_eq_some_iff.1 hi).1
      have hm : (i + 1) * (a + b + 1) ≤ f.1.length * (a + b + 1) := Nat.mul_le_mul_right _ hlt
      rw [Nat.add_mul, Nat.one_mul] at hm
      have C1 : (i : Int) < (f.1.length : Int) := by omega
      have W : InI ((i : Int) + 1) := ⟨by omega, by omega⟩
      unfold evF
      by_cases hv : v < 0 ∨ (X.length : Int) ≤ v
      · rw [if_pos hv]
        by_cases h0 : v < 0
        · exact lev_x3_1 C1 hi h0
        · exact lev_x3_2 C1 hi h0 (by omega)
      · rw [if_neg hv]
        have hl : v.toNat < X.length := by omega
        have h1 : X[v.toNat]? = some (X.getD v.toNat 0) := by rw [List.getD_eq_getElem?_getD, List.getElem?_eq_getElem hl]; rfl
        have hc : H c ≤ a := ha _ (List.mem_of_getElem? hi)
        have hq : H (X.getD v.toNat 0) ≤ b := hb _ (List.mem_of_getElem? h1)
        have h2 := H_mul c (X.getD v.toNat 0)
        have h3 := H_add s (c * X.getD v.toNat 0)
        dsimp only
        refine ⟨lev_r3_1 C1 hi (by omega) (by omega) h1 (by omega) (by omega) (by omega) (by omega) (by omega) W, ?_, hlt⟩
        rw [Nat.add_mul, Nat.one_mul]
        omega)
    (fun b hI => lev_x3_3 (by omega))
  unfold evR
  cases hE : foldE (evF X) 0 f.2 f.1 with
  | ok s =>
    have hB := (L.2 s hE).1
    rw [hE] at L; exact lev_f2 L.1 (by omega)
  | error s => rw [hE] at L; exact lev_f1 L.1
theorem evR_form {X : List Rat} {f : Form} {B : Nat} (hB : ∀ s, foldE (evF X) 0 f.2 f.1 = .ok s → H s ≤ B) (h1 : 1 ≤ B) : ∃ s z, evR X f = .tup [ratV s, .lit (.int .i64 z)] ∧ H s ≤ B := by
  unfold evR
  cases hE : foldE (evF X) 0 f.2 f.1 with
  | ok s => exact ⟨s, 0, rfl, hB s hE⟩
  | error s => exact ⟨0, 2, by simp, by rw [H_zero]; exact h1⟩
theorem nat_self {q : Rat} (hq : H q ≤ 17179869184) : (oN1 (fun _ => true) fun x => natA (lmb (val x))) [natA (rawQ q).l1] = some (natA (rawQ q).l1) ∧ (oN1 (fun _ => true) fun x => natA (lmb (val x))) [natA (rawQ q).l2] = some (natA (rawQ q).l2) := by
  have hb := rawB_q hq
  have e1 : lmb (val (rawQ q).l1) = (rawQ q).l1 := by unfold rawQ; dsimp only; rw [val_lmb]
  have e2 : lmb (val (rawQ q).l2) = (rawQ q).l2 := by
    unfold rawQ dlmb
    dsimp only
    split
    · decide +kernel
    · rw [val_lmb]
  have f1 : fewN (rawQ q).l1 = true := Nat.ble_eq_true_of_le (by have := hb.bn; omega)
  have f2 : fewN (rawQ q).l2 = true := Nat.ble_eq_true_of_le (by have := hb.bd; omega)
  constructor
  · simp only [oN1, decN_nat hb.n, f1, Bool.and_true, if_true, e1]
  · simp only [oN1, decN_nat hb.d, f2, Bool.and_true, if_true, e2]
theorem lcp_c {n : Nat} {q : Rat} (hq : H q ≤ 17179869184) : run (n + 2) 94 [ratV q] = some (ratV q) := lcp_f1 (nat_self hq).1 (nat_self hq).2
def cofE (v : Int) (_ : Nat) (_ : Unit) (t : Int × Rat) : Except Rat Unit := if t.1 = v then .error t.2 else .ok ()
theorem cofE_cof {v : Int} : ∀ {l : List (Int × Rat)} (i : Nat), foldE (cofE v) i () l = (match foldE (cofE v) i () l with | .ok _ => .ok () | .error _ => .error (cof l v)) ∧ ((∃ u, foldE (cofE v) i () l = .ok u) → cof l v = 0)
  | [], i => ⟨rfl, fun _ => rfl⟩
  | t :: l, i => by
    obtain ⟨h1, h2⟩ := cofE_cof (v := v) (l := l) (i + 1)
    by_cases e : t.1 = v
    · have e1 : cofE v i () t = .error t.2 := if_pos e
      have e2 : foldE (cofE v) i () (t :: l) = .error t.2 := by rw [foldE, e1]
      rw [e2]
      exact ⟨by rw [cof, if_pos e], fun ⟨u, h⟩ => by cases h⟩
    · have e1 : cofE v i () t = .ok () := if_neg e
      have e2 : foldE (cofE v) i () (t :: l) = foldE (cofE v) (i + 1) () l := by rw [foldE, e1]
      have e3 : cof (t :: l) v = cof l v := by rw [cof, if_neg e]
      rw [e2, e3]
      exact ⟨h1, h2⟩
theorem cof_H {b : Nat} {l : List (Int × Rat)} {v : Int} (h : ∀ t ∈ l, H t.2 ≤ b) (hb : 1 ≤ b) : H (cof l v) ≤ b := by
  induction l with
  | nil => rw [cof_nil, H_zero]; exact hb
  | cons t l ih =>
    rw [cof]
    split
    · exact h t (by simp)
    · exact ih fun u hu => h u (by simp [hu])
theorem lco_c {n : Nat} {f : Form} {v : Int} (hB : BdF 17179869184 f) : run (n + 3) 44 [formV f, .lit (.int .i64 v)] = some (ratV (cof f.1 v)) := by
  have hl := hB.l
  have L := loopG_E (O := tab (n + 3)) (P := Tryz.prog) (m := 0) (N := 23) (lives := livesOf 44) (r := 2) (C := lco_C2) (L := f.1) (f := cofE v) (enc := fun i _ => lco_h2 f v i) (exN := .exit 0) (exE := .ret) (out := fun _ => lco_o2b) (outE := lco_o2a) (Inv := fun _ _ => True) () trivial (by omega) (fun h => by cases h) (fun h => by cases h)
    (fun i t s hi hI => by
      obtain ⟨u, c⟩ := t
      have hlt := (List.getElem?_eq_some_iff.1 hi).1
      unfold cofE
      by_cases e : u = v
      · rw [if_pos e]
        exact lco_x2_1 (by omega) hi e (lcp_c (hB.t _ (List.mem_of_getElem? hi)))
      · rw [if_neg e]
        exact ⟨lco_r2_1 (by omega) hi e ⟨by omega, by omega⟩, trivial⟩)
    (fun b hI => lco_x2_2 (by omega))
  obtain ⟨h1, h2⟩ := cofE_cof (v := v) (l := f.1) 0
  have L := L.1
  cases hE : foldE (cofE v) 0 () f.1 with
  | ok s =>
    rw [hE] at L
    rw [h2 ⟨s, hE⟩]
    have h := lco_f2 (a1 := v) L
    simpa using h
  | error s =>
    rw [hE] at L h1
    cases h1
    exact lco_f1 L
theorem fco_c {n : Nat} {f : Form} {v : Int} (hl : f.1.length ≤ 100000000) : run n 45 [formV f, .lit (.int .i64 v)] = some (ratV (cof f.1 v)) := by
  have L := loopG_E (O := tab n) (P := Tryz.prog) (m := 0) (N := 28) (lives := livesOf 45) (r := 2) (C := fco_C2) (L := f.1) (f := cofE v) (enc := fun i _ => fco_h2 f v i) (exN := .exit 0) (exE := .ret) (out := fun _ => fco_o2b) (outE := fco_o2a) (Inv := fun _ _ => True) () trivial (by omega) (fun h => by cases h) (fun h => by cases h)
    (fun i t s hi hI => by
      obtain ⟨u, c⟩ := t
      have hlt := (List.getElem?_eq_some_iff.1 hi).1
      unfold cofE
      by_cases e : u = v
      · rw [if_pos e]
        exact fco_x2_1 (by omega) hi e
      · rw [if_neg e]
        exact ⟨fco_r2_1 (by omega) hi e ⟨by omega, by omega⟩, trivial⟩)
    (fun b hI => fco_x2_2 (by omega))
  obtain ⟨h1, h2⟩ := cofE_cof (v := v) (l := f.1) 0
  have L := L.1
  cases hE : foldE (cofE v) 0 () f.1 with
  | ok s =>
    rw [hE] at L
    rw [h2 ⟨s, hE⟩]
    have h := fco_f2 (a1 := v) L
    simpa using h
  | error s =>
    rw [hE] at L h1
    cases h1
    exact fco_f1 L
end Go.Proofs.YthkkmokbjmempaaGreatDoor
