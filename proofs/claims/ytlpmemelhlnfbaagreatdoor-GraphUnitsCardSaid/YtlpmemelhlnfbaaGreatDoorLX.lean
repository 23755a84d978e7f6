/- Sorted lists of terms without zeros: sums and multiples, as the program and as the reference build them, are the same. Values of sums and multiples of forms; bounds. linear.Eval, Coef, copied; relucertref07.Coef: what they return. -/
import Derived.Test.YtlpmemelhlnfbaaGreatDoorGX
import Derived.Test.YtlpmemelhlnfbaaGreatDoorYb
set_option linter.all false
set_option linter.all false
namespace Go.Proofs.YtlpmemelhlnfbaaGreatDoor
open Go.RowKit

def Srt (F : List (Int × Rat)) : Prop := F.Pairwise (fun a b => a.1 < b.1) ∧ ∀ t ∈ F, t.2 ≠ 0
def LBd (k : Int) (F : List (Int × Rat)) : Prop := ∀ t ∈ F, k < t.1
theorem Srt.nil : Srt [] := ⟨List.Pairwise.nil, fun t ht => by cases ht⟩
theorem Srt.tail {t : Int × Rat} {F : List (Int × Rat)} (h : Srt (t :: F)) : Srt F := ⟨(List.pairwise_cons.1 h.1).2, fun u hu => h.2 u (by simp [hu])⟩
theorem Srt.head {t : Int × Rat} {F : List (Int × Rat)} (h : Srt (t :: F)) : LBd t.1 F := fun u hu => (List.pairwise_cons.1 h.1).1 u hu
theorem LBd.mono {F : List (Int × Rat)} {k j : Int} (h : LBd k F) (hj : j ≤ k) : LBd j F := fun t ht => by have := h t ht; omega
end Go.Proofs.YtlpmemelhlnfbaaGreatDoor
set_option linter.all false
namespace Go.Proofs.YtlpmemelhlnfbaaGreatDoor
open Go.RowKit

/-- what the terms are worth together -/
def evS (X : List Rat) : List (Int × Rat) → Rat
  | [] => 0
  | t :: F => t.2 * X.getD t.1.toNat 0 + evS X F
theorem evS_fold (X : List Rat) : ∀ (F : List (Int × Rat)) (s : Rat), F.foldl (fun s t => s + t.2 * X.getD t.1.toNat 0) s = s + evS X F
  | [], s => by rw [List.foldl_nil, evS]; grind
  | t :: F, s => by rw [List.foldl_cons, evS_fold X F, evS]; grind
/-- the variables lie in range -/
def InR (k : Nat) (F : List (Int × Rat)) : Prop := ∀ t ∈ F, 0 ≤ t.1 ∧ t.1 < (k : Int)
theorem InR.app {k : Nat} {F G : List (Int × Rat)} (h : InR k F) (g : InR k G) : InR k (F ++ G) := fun t ht => (List.mem_append.1 ht).elim (h t) (g t)
theorem InR.put {k : Nat} {v : Int} {q : Rat} (h : 0 ≤ v ∧ v < (k : Int)) : InR k (put1 v q) := fun t ht => by
  obtain ⟨rfl, _⟩ := put1_mem ht
  exact h
theorem InR.plus {k : Nat} {v : Int} {c : Rat} (hv : 0 ≤ v ∧ v < (k : Int)) : ∀ {d : Bool} {F : List (Int × Rat)}, InR k F → InR k (plusV d F v c)
  | d, [], _ => by
    rw [plusV]
    split
    · exact fun t ht => by cases ht
    · exact InR.put hv
  | d, t :: F, h => by
    have ht : 0 ≤ t.1 ∧ t.1 < (k : Int) := h t (by simp)
    have hF : InR k F := fun u hu => h u (by simp [hu])
    rw [plusV]
    split
    · exact (InR.put ht).app (InR.plus hv hF)
    · split
      · exact (InR.put hv).app ((InR.put ht).app (InR.plus hv hF))
      · exact (InR.put ht).app (InR.plus hv hF)
theorem InR.add {k : Nat} : ∀ {G F : List (Int × Rat)}, InR k F → InR k G → InR k (addV F G)
  | [], F, h, _ => h
  | t :: G, F, h, g => by
    have e : addV F (t :: G) = addV (plusV false F t.1 t.2) G := rfl
    rw [e]
    exact InR.add (InR.plus (g t (by simp)) h) fun u hu => g u (by simp [hu])
theorem evR_in {X : List Rat} {f : Form} (h : InR X.length f.1) : evR X f = .tup [ratV (f.2 + evS X f.1), .lit (.int .i64 0)] ∧ foldE (evF X) 0 f.2 f.1 = .ok (f.2 + evS X f.1) := by
  have e := evF_ok (X := X) (F := f.1) 0 f.2 h
  rw [evS_fold] at e
  refine ⟨?_, e⟩
  unfold evR
  rw [e]
theorem TmB.add {b : Nat} : ∀ {G F : List (Int × Rat)} {m : Nat}, TmB m F → TmB b G → TmB (m + (b + 1) * G.length) (addV F G)
  | [], F, m, h, _ => h
  | t :: G, F, m, h, g => by
    have e : addV F (t :: G) = addV (plusV false F t.1 t.2) G := rfl
    rw [e]
    refine (TmB.add (TmB.plus (g t (by simp)).2 h) fun u hu => g u (by simp [hu])).mono ?_
    rw [List.length_cons, Nat.mul_add]
    omega
theorem TmB.bd {m : Nat} {f : Form} (h : TmB m f.1) (hl : f.1.length ≤ 100000000) (hk : H f.2 ≤ m) : BdF m f := ⟨hl, fun t ht => (h t ht).2, hk⟩
end Go.Proofs.YtlpmemelhlnfbaaGreatDoor
set_option linter.all false
set_option maxRecDepth 100000
set_option maxHeartbeats 6400000
namespace Go.Proofs.YtlpmemelhlnfbaaGreatDoor
open Go.RowKit
attribute [local irreducible] run runL loopG exec

theorem pev_c {n : Nat} {f : Form} {X : List Rat} {a b k : Nat} (ha : ∀ t ∈ f.1, H t.2 ≤ a) (hb : ∀ q ∈ X, H q ≤ b) (hk : H f.2 ≤ k) (hX : X.length ≤ 100000000) (hF : f.1.length ≤ 100000000) (hs : k + f.1.length * (a + b + 1) ≤ 17179869184) (hab : a + b ≤ 17179869184) :
    run n 97 [formV f, .sl 3 (X.map ratC)] = some (evR X f) := by
  have L := loopG_E (O := tab n) (P := Tryz.prog) (m := 0) (N := 42) (lives := livesOf 97) (r := 3) (C := lev_C3) (L := f.1) (f := evF X) (enc := fun i s => lev_h3 f X i s) (exN := .exit 0) (exE := .ret) (out := lev_o3b) (outE := lev_o3a) (Inv := fun i s => H s ≤ k + i * (a + b + 1) ∧ i ≤ f.1.length) f.2 ⟨by omega, by omega⟩ (by omega) (fun h => by cases h) (fun h => by cases h)
    (fun i t s hi hI => by
      obtain ⟨v, c⟩ := t
      obtain ⟨hI, hle⟩ := hI
      have hlt := (List.getElem?_eq_some_iff.1 hi).1
      have hm : (i + 1) * (a + b + 1) ≤ f.1.length * (a + b + 1) := Nat.mul_le_mul_right _ hlt
      rw [Nat.add_mul, Nat.one_mul] at hm
      have C1 : (i : Int) < (f.1.length : Int) := by omega
      have W : InI ((i : Int) + 1) := ⟨by omega, by omega⟩
      unfold evF
      by_cases hv : v < 0 ∨ (X.length : Int) ≤ v
      · rw [if_pos hv]
        by_cases h0 : v < 0
        · exact lev_x3_1 C1 hi h0
        · exact lev_x3_2 C1 hi h0 (by omega)
      · rw [if_neg hv]
        have hl : v.toNat < X.length := by omega
        have h1 : X[v.toNat]? = some (X.getD v.toNat 0) := by rw [List.getD_eq_getElem?_getD, List.getElem?_eq_getElem hl]; rfl
        have hc : H c ≤ a := ha _ (List.mem_of_getElem? hi)
        have hq : H (X.getD v.toNat 0) ≤ b := hb _ (List.mem_of_getElem? h1)
        have h2 := H_mul c (X.getD v.toNat 0)
        have h3 := H_add s (c * X.getD v.toNat 0)
        dsimp only
        refine ⟨lev_r3_1 C1 hi (by omega) (by omega) h1 (by omega) (by omega) (by omega) (by omega) (by omega) W, ?_, hlt⟩
        rw [Nat.add_mul, Nat.one_mul]
        omega)
    (fun b hI => lev_x3_3 (by omega))
  unfold evR
  cases hE : foldE (evF X) 0 f.2 f.1 with
  | ok s =>
    have hB := (L.2 s hE).1
    rw [hE] at L; exact lev_f2 L.1 (by omega)
  | error s => rw [hE] at L; exact lev_f1 L.1
end Go.Proofs.YtlpmemelhlnfbaaGreatDoor
