import Derived.Test.YtjpoanaoaeaneaaGreatDoorGE23
set_option linter.all false
set_option maxRecDepth 100000
set_option maxHeartbeats 6400000
namespace Go.Proofs.YtjpoanaoaeaneaaGreatDoor
open Go.RowKit
attribute [local irreducible] run runL loopG exec
theorem sg_neg {q : Rat} : sgR q < 0 ↔ q < 0 := by
  have h := sgq_nonneg (q := q)
  constructor
  · intro h1
    rcases Rat.not_le.1 (fun h2 => by have := h.2 h2; omega) with h3
    exact h3
  · intro h1
    have : ¬ 0 ≤ sgR q := fun h2 => absurd h1 (Rat.not_lt.2 (h.1 h2))
    omega
theorem neg_iff {X : List Rat} {f : Form} : NegF X f ↔ InR X.length f.1 ∧ f.2 + evS X f.1 < 0 := by
  unfold NegF evQ
  by_cases h : InR X.length f.1
  · rw [if_pos h, sg_neg]; exact ⟨fun h2 => ⟨h, h2⟩, fun h2 => h2.2⟩
  · rw [if_neg h]
    exact ⟨fun h2 => absurd (sg_neg.1 h2) (by decide), fun h2 => absurd h2.1 h⟩
theorem sub_num (f : Form) (m : Rat) : subF f (numF m) = (f.1, f.2 - m) := by simp [subF, numF, sclV, addV]
def LessF (X : List Rat) (m : Rat) (f : Form) : Prop := InR X.length f.1 ∧ f.2 + evS X f.1 < m
theorem neg_num {X : List Rat} {f : Form} {m : Rat} : NegF X (subF f (numF m)) ↔ LessF X m f := by
  rw [neg_iff, sub_num]
  dsimp only
  unfold LessF
  constructor
  · rintro ⟨h1, h2⟩; exact ⟨h1, by grind⟩
  · rintro ⟨h1, h2⟩; exact ⟨h1, by grind⟩
def baseF (c : TClaim) (z : Int) : List Form := if c.Kind = 1 then ((List.range z.toNat).filter fun j : Nat => decide ((j : Int) ≠ c.Target)).map fun j : Nat => subF (varF c.Target) (varF (j : Int)) else c.Rows
theorem goals_base (c : TClaim) (z : Int) : goalsF c z = (baseF c z).map fun f => subF f (numF c.Margin) := by
  unfold goalsF baseF
  split
  · unfold topL; rw [List.map_map]; rfl
  · rfl
theorem HoQ.ok_iff {X : List Rat} {L : List Form} {i : Int} {ok : Bool} (h : HoQ X L i ok) : ok = true ↔ ∀ f ∈ L, ¬ NegF X f := by
  rcases h with ⟨rfl, rfl, h⟩ | ⟨rfl, k, rfl, ⟨f, hf, hn⟩, _⟩
  · exact ⟨fun _ => h, fun _ => rfl⟩
  · exact ⟨fun h => (by cases h), fun h => absurd hn (h f (List.mem_of_getElem? hf))⟩
theorem HoQ.base {X : List Rat} {c : TClaim} {z : Int} {i : Int} {ok : Bool} (h : HoQ X (goalsF c z) i ok) : ok = true ↔ ∀ f ∈ baseF c z, ¬ LessF X c.Margin f := by
  rw [h.ok_iff, goals_base]
  constructor
  · intro h1 f hf
    exact fun h2 => h1 _ (List.mem_map.2 ⟨f, hf, rfl⟩) (neg_num.2 h2)
  · intro h1 g hg
    obtain ⟨f, hf, rfl⟩ := List.mem_map.1 hg
    exact fun h2 => h1 f hf (neg_num.1 h2)
theorem cn_raw {q : Rat} : Cn (rawQ q) := by
  have h : sv (rawQ q).s (rawQ q).l1 (rawQ q).l2 = q := rawQ_q q
  unfold Cn RatV
  rw [h]
  exact ⟨rfl, rfl, rfl⟩
end Go.Proofs.YtjpoanaoaeaneaaGreatDoor
