import Derived.Test.YtlpmemelhlnfbaaGreatDoorGA7
import Derived.Test.YtlpmemelhlnfbaaGreatDoorGA12
import Derived.Test.YtlpmemelhlnfbaaGreatDoorGA5
set_option linter.all false
namespace Go.Proofs.YtlpmemelhlnfbaaGreatDoor
open Go.RowKit
def Srt (F : List (Int × Rat)) : Prop := F.Pairwise (fun a b => a.1 < b.1) ∧ ∀ t ∈ F, t.2 ≠ 0
def LBd (k : Int) (F : List (Int × Rat)) : Prop := ∀ t ∈ F, k < t.1
theorem Srt.nil : Srt [] := ⟨List.Pairwise.nil, fun t ht => by cases ht⟩
theorem Srt.tail {t : Int × Rat} {F : List (Int × Rat)} (h : Srt (t :: F)) : Srt F := ⟨(List.pairwise_cons.1 h.1).2, fun u hu => h.2 u (by simp [hu])⟩
theorem Srt.head {t : Int × Rat} {F : List (Int × Rat)} (h : Srt (t :: F)) : LBd t.1 F := fun u hu => (List.pairwise_cons.1 h.1).1 u hu
theorem Srt.nz {t : Int × Rat} {F : List (Int × Rat)} (h : Srt (t :: F)) : t.2 ≠ 0 := h.2 t (by simp)
theorem LBd.mono {F : List (Int × Rat)} {k j : Int} (h : LBd k F) (hj : j ≤ k) : LBd j F := fun t ht => by have := h t ht; omega
theorem OkFm.srt {f : Form} {vars : Int} (h : OkFm f vars) : Srt f.1 ∧ ∀ t ∈ f.1, 0 ≤ t.1 ∧ t.1 < vars := by
  have key : ∀ (i : Nat) (hi : i < f.1.length), 0 ≤ (f.1[i]).1 ∧ (f.1[i]).1 < vars ∧ (f.1[i]).2 ≠ 0 ∧ ∀ (h0 : 0 < i), (f.1[i - 1]'(by omega)).1 < (f.1[i]).1 := fun i hi => by
    obtain ⟨a1, a2, a3, a4⟩ := h i hi (f.1[i]).1 (f.1[i]).2 (List.getElem?_eq_getElem hi)
    exact ⟨a1, a2, a3, fun h0 => a4 _ (f.1[i - 1]'(by omega)).2 h0 (List.getElem?_eq_getElem _)⟩
  have ord : ∀ (j i : Nat) (hj : j < f.1.length) (hij : i < j), (f.1[i]'(by omega)).1 < (f.1[j]).1 := fun j => by
    induction j with
    | zero => intro i hj hij; omega
    | succ j ih =>
      intro i hj hij
      have h1 := (key (j + 1) hj).2.2.2 (by omega)
      have h2 : (f.1[j + 1 - 1]'(by omega)) = f.1[j]'(by omega) := rfl
      rw [h2] at h1
      by_cases e : i = j
      · subst e; exact h1
      · have := ih i (by omega) (by omega); omega
  refine ⟨⟨List.pairwise_iff_getElem.2 fun i j hi hj hij => ord j i hj hij, fun t ht => ?_⟩, fun t ht => ?_⟩
  · obtain ⟨i, hi, rfl⟩ := List.getElem_of_mem ht
    exact (key i hi).2.2.1
  · obtain ⟨i, hi, rfl⟩ := List.getElem_of_mem ht
    exact ⟨(key i hi).1, (key i hi).2.1⟩
end Go.Proofs.YtlpmemelhlnfbaaGreatDoor
set_option linter.all false
set_option maxRecDepth 100000
namespace Go.Proofs.YtlpmemelhlnfbaaGreatDoor
open Go.RowKit
open Lib (decDigits)
structure NB (q : Rat) : Prop where
  n : (decDigits q.num.natAbs).length ≤ 200
  d : (decDigits q.den).length ≤ 200
structure TmN (t : Int × Rat) : Prop where
  q : NB t.2
  v0 : 0 ≤ t.1
  v : (decDigits t.1.toNat).length ≤ 9
end Go.Proofs.YtlpmemelhlnfbaaGreatDoor
set_option linter.all false
set_option maxRecDepth 100000
set_option maxHeartbeats 6400000
namespace Go.Proofs.YtlpmemelhlnfbaaGreatDoor
open Go.RowKit
end Go.Proofs.YtlpmemelhlnfbaaGreatDoor
