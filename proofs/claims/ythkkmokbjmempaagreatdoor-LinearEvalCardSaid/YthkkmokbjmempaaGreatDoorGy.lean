/- relucertref07.Eval: what it returns. -/
import Derived.Test.YthkkmokbjmempaaGreatDoorGv
set_option linter.all false
set_option linter.all false
set_option maxRecDepth 100000
set_option maxHeartbeats 6400000
namespace Go.Proofs.YthkkmokbjmempaaGreatDoor
open Go.RowKit
attribute [local irreducible] run runL loopG exec

/-- a form's value -/
def evV (X : List Rat) (f : Form) : Rat := f.1.foldl (fun s t => s + t.2 * X.getD t.1.toNat 0) f.2
def evF (X : List Rat) (i : Nat) (s : Rat) (t : Int × Rat) : Except Rat Rat :=
  if t.1 < 0 ∨ (X.length : Int) ≤ t.1 then .error s else .ok (s + t.2 * X.getD t.1.toNat 0)
theorem evF_ok {X : List Rat} : ∀ {F : List (Int × Rat)} (i : Nat) (s : Rat), (∀ t ∈ F, 0 ≤ t.1 ∧ t.1 < (X.length : Int)) → foldE (evF X) i s F = .ok (F.foldl (fun s t => s + t.2 * X.getD t.1.toNat 0) s)
  | [], i, s, _ => rfl
  | t :: F, i, s, h => by
    have h1 := h t List.mem_cons_self
    have e : evF X i s t = .ok (s + t.2 * X.getD t.1.toNat 0) := if_neg (by omega)
    rw [foldE, e, List.foldl_cons]
    exact evF_ok (i + 1) _ fun u hu => h u (List.mem_cons_of_mem _ hu)
/-- Eval -/
def evR (X : List Rat) (f : Form) : AV :=
  match foldE (evF X) 0 f.2 f.1 with
  | .ok s => .tup [ratV s, .lit (.int .i64 0)]
  | .error _ => .tup [.agg [.lit (.bool false), .sl 1 [], .sl 1 []], .lit (.int .i64 2)]
theorem eval_c {n : Nat} {f : Form} {X : List Rat} {a b k : Nat} (ha : ∀ t ∈ f.1, H t.2 ≤ a) (hb : ∀ q ∈ X, H q ≤ b) (hk : H f.2 ≤ k) (hX : X.length ≤ 100000000) (hF : f.1.length ≤ 100000000) (hs : k + f.1.length * (a + b + 1) ≤ 17179869184) (hab : a + b ≤ 17179869184) :
    run n 28 [formV f, .sl 3 (X.map ratC)] = some (evR X f) ∧ ∀ s, foldE (evF X) 0 f.2 f.1 = .ok s → H s ≤ k + f.1.length * (a + b + 1) := by
  have L := loopG_E (O := tab n) (P := Tryz.prog) (m := 0) (N := 45) (lives := livesOf 28) (r := 3) (C := ev_C3) (L := f.1) (f := evF X) (enc := fun i s => ev_h3 f X i s) (exN := .exit 0) (exE := .ret) (out := ev_o3b) (outE := ev_o3a) (Inv := fun i s => H s ≤ k + i * (a + b + 1) ∧ i ≤ f.1.length) f.2 ⟨by omega, by omega⟩ (by omega) (by simp) (by simp)
    (fun i t s hi hI => by
      obtain ⟨v, c⟩ := t
      obtain ⟨hI, hle⟩ := hI
      have hlt := (List.getElem?_eq_some_iff.1 hi).1
      have hm : (i + 1) * (a + b + 1) ≤ f.1.length * (a + b + 1) := Nat.mul_le_mul_right _ hlt
      rw [Nat.add_mul, Nat.one_mul] at hm
      have C1 : (i : Int) < (f.1.length : Int) := by omega
      have W : InI ((i : Int) + 1) := ⟨by omega, by omega⟩
      unfold evF
      by_cases hv : v < 0 ∨ (X.length : Int) ≤ v
      · rw [if_pos hv]
        by_cases h0 : v < 0
        · exact ev_x3_1 C1 hi h0
        · exact ev_x3_2 C1 hi h0 (by omega)
      · rw [if_neg hv]
        have hl : v.toNat < X.length := by omega
        have h1 : X[v.toNat]? = some (X.getD v.toNat 0) := by rw [List.getD_eq_getElem?_getD, List.getElem?_eq_getElem hl]; rfl
        have hc : H c ≤ a := ha _ (List.mem_of_getElem? hi)
        have hq : H (X.getD v.toNat 0) ≤ b := hb _ (List.mem_of_getElem? h1)
        have h2 := H_mul c (X.getD v.toNat 0)
        have h3 := H_add s (c * X.getD v.toNat 0)
        dsimp only
        refine ⟨ev_r3_1 C1 hi (by omega) (by omega) h1 (by omega) (by omega) (by omega) (by omega) (by omega) W, ?_, hlt⟩
        rw [Nat.add_mul, Nat.one_mul]
        omega)
    (fun b hI => ev_x3_3 (by omega))
  refine ⟨?_, fun s hs' => (L.2 s hs').1⟩
  unfold evR
  cases hE : foldE (evF X) 0 f.2 f.1 with
  | ok s => rw [hE] at L; exact ev_f2 L.1
  | error s => rw [hE] at L; exact ev_f1 L.1
theorem eval_ok {n : Nat} {f : Form} {X : List Rat} {a b k : Nat} (ha : ∀ t ∈ f.1, H t.2 ≤ a) (hb : ∀ q ∈ X, H q ≤ b) (hk : H f.2 ≤ k) (hX : X.length ≤ 100000000) (hF : f.1.length ≤ 100000000) (hs : k + f.1.length * (a + b + 1) ≤ 17179869184) (hab : a + b ≤ 17179869184)
    (hv : ∀ t ∈ f.1, 0 ≤ t.1 ∧ t.1 < (X.length : Int)) :
    run n 28 [formV f, .sl 3 (X.map ratC)] = some (.tup [ratV (evV X f), .lit (.int .i64 0)]) ∧ H (evV X f) ≤ k + f.1.length * (a + b + 1) := by
  have h := eval_c (n := n) ha hb hk hX hF hs hab
  have e : foldE (evF X) 0 f.2 f.1 = .ok (evV X f) := evF_ok 0 f.2 hv
  refine ⟨?_, h.2 _ e⟩
  have h1 := h.1
  unfold evR at h1
  rw [e] at h1
  exact h1
end Go.Proofs.YthkkmokbjmempaaGreatDoor
