/- linear.merge, Add, Sub, Scale: what they return. -/
import Derived.Test.YthkkmokbjmempaaGreatDoorTa
import Derived.Test.YthkkmokbjmempaaGreatDoorYa
set_option linter.all false
set_option linter.all false
set_option maxRecDepth 100000
set_option maxHeartbeats 6400000
namespace Go.Proofs.YthkkmokbjmempaaGreatDoor
open Go.RowKit
attribute [local irreducible] run runL loopG exec

/-- the rounds of merge -/
def mgK : List (Int × Rat) → List (Int × Rat) → Nat
  | [], m => m.length
  | a :: l, [] => (a :: l).length
  | a :: l, b :: m => 1 + if a.1 < b.1 then mgK l (b :: m) else if b.1 < a.1 then mgK (a :: l) m else mgK l m
termination_by l m => l.length + m.length
theorem mgK_nil (m : List (Int × Rat)) : mgK [] m = m.length := by rw [mgK]
theorem mgK_a (a : Int × Rat) (l : List (Int × Rat)) : mgK (a :: l) [] = l.length + 1 := by rw [mgK]; rfl
theorem mgK_ab (a b : Int × Rat) (l m : List (Int × Rat)) : mgK (a :: l) (b :: m) = 1 + if a.1 < b.1 then mgK l (b :: m) else if b.1 < a.1 then mgK (a :: l) m else mgK l m := by rw [mgK]
theorem mgK_one (l : List (Int × Rat)) : mgK l [] = l.length := by cases l; exact mgK_nil []; exact mgK_a _ _
theorem mgK_le : ∀ (k : Nat) (l m : List (Int × Rat)), l.length + m.length ≤ k → mgK l m ≤ l.length + m.length
  | k, [], m, h => by rw [mgK_nil]; simp
  | k, a :: l, [], h => by rw [mgK_a]; simp
  | 0, a :: l, b :: m, h => by simp at h
  | k + 1, a :: l, b :: m, h => by
    simp only [List.length_cons] at h
    have h1 := mgK_le k l (b :: m) (by simp <;> omega)
    have h2 := mgK_le k (a :: l) m (by simp <;> omega)
    have h3 := mgK_le k l m (by omega)
    simp only [List.length_cons] at h1 h2
    rw [mgK_ab]
    simp only [List.length_cons]
    split
    · omega
    · split <;> omega
structure MgS where
  l : List (Int × Rat)
  m : List (Int × Rat)
  out : List (Int × Rat)
theorem put_no {v : Int} {q : Rat} (h : q = 0) : put1 v q = [] := if_pos h
theorem put_yes {v : Int} {q : Rat} (h : ¬ q = 0) : put1 v q = [(v, q)] := if_neg h
theorem merge_c {n : Nat} {f g : Form} {c : Rat} {b : Nat} (hF : ∀ t ∈ f.1, H t.2 ≤ b) (hG : ∀ t ∈ g.1, H t.2 ≤ b) (hb : b ≤ 1000000) (hc : H c ≤ 1000000) (hk : H f.2 ≤ 1000000) (hk2 : H g.2 ≤ 1000000) (hlf : f.1.length ≤ 1000000) (hlg : g.1.length ≤ 1000000) :
    run (n + 1) 77 [formV f, formV g, ratV c] = some (formV (mergeV f.1 g.1 c, f.2 + g.2 * c)) := by
  have hm := H_mul g.2 c
  have ha := H_add f.2 (g.2 * c)
  have hM := mgK_le _ f.1 g.1 (Nat.le_refl _)
  obtain ⟨b', hL, hI⟩ := loopG_R (O := tab (n + 1)) (P := Tryz.prog) (m := 0) (N := 113) (lives := livesOf 77) (r := 3) (C := mg_C3) (exN := .exit 0) (M := mgK f.1 g.1) (enc := fun i (s : MgS) => mg_h3 f g c s.l s.m s.out) (out := fun s => mg_o3a f g c s.out)
    (fun i s => s.out ++ mergeV s.l s.m c = mergeV f.1 g.1 c ∧ mgK s.l s.m + i = mgK f.1 g.1 ∧ s.out.length ≤ i ∧ (∀ t ∈ s.l, H t.2 ≤ b) ∧ ∀ t ∈ s.m, H t.2 ≤ b) ⟨f.1, g.1, []⟩ ⟨rfl, rfl, by simp, hF, hG⟩ (by omega) (by simp)
    (fun i s hi hI => by
      obtain ⟨l, m, out⟩ := s
      obtain ⟨i1, i2, i3, i4, i5⟩ := hI
      dsimp only at i1 i2 i3 i4 i5 ⊢
      have fin : ∀ (l' m' : List (Int × Rat)) (v : Int) (q : Rat), mergeV l m c = put1 v q ++ mergeV l' m' c → mgK l m = 1 + mgK l' m' → (∀ t ∈ l', H t.2 ≤ b) → (∀ t ∈ m', H t.2 ≤ b) → ∀ (q' : Rat), q' = q →
          (out ++ put1 v q') ++ mergeV l' m' c = mergeV f.1 g.1 c ∧ mgK l' m' + (i + 1) = mgK f.1 g.1 ∧ (out ++ put1 v q').length ≤ i + 1 ∧ (∀ t ∈ l', H t.2 ≤ b) ∧ ∀ t ∈ m', H t.2 ≤ b := fun l' m' v q h1 h2 h3 h4 q' hq => by
        subst hq
        refine ⟨by rw [List.append_assoc, ← h1]; exact i1, by omega, ?_, h3, h4⟩
        have := put1_len v q'
        rw [List.length_append]; omega
      match l, m with
      | [], [] => rw [mgK_nil] at i2; simp at i2; omega
      | (v, q) :: l, [] =>
        have e := fin l [] v q (mergeV_a (v, q) l c) (by rw [mgK_a, mgK_one]; omega) (fun t ht => i4 t (by simp [ht])) i5 q rfl
        have hq : H q ≤ b := i4 (v, q) (by simp)
        by_cases h0 : q = 0
        · rw [put_no h0, List.append_nil] at e
          exact ⟨⟨l, [], out⟩, mg_r3_1 (l_3 := (v, q) :: l) (by simp <;> omega) (by simp) rfl (pt_same (by omega) h0) ⟨by omega, by simp <;> omega⟩, e⟩
        · rw [put_yes h0] at e
          exact ⟨⟨l, [], out ++ [(v, q)]⟩, mg_r3_2 (l_3 := (v, q) :: l) (by simp <;> omega) (by simp) rfl (pt_new (by omega) h0 (by omega)) ⟨by omega, by simp <;> omega⟩, e⟩
      | [], (u, p) :: m =>
        have e := fin [] m u (p * c) (mergeV_b (u, p) m c) (by rw [mgK_nil, mgK_nil, List.length_cons]; omega) i4 (fun t ht => i5 t (by simp [ht])) (p * c) rfl
        have hp : H p ≤ b := i5 (u, p) (by simp)
        have hpc := H_mul p c
        by_cases h0 : p * c = 0
        · rw [put_no h0, List.append_nil] at e
          exact ⟨⟨[], m, out⟩, mg_r3_9 (l2_3 := (u, p) :: m) (by simp) (by simp <;> omega) rfl (by omega) (by omega) (pt_same (by omega) h0) ⟨by omega, by simp <;> omega⟩, e⟩
        · rw [put_yes h0] at e
          exact ⟨⟨[], m, out ++ [(u, p * c)]⟩, mg_r3_10 (l2_3 := (u, p) :: m) (by simp) (by simp <;> omega) rfl (by omega) (by omega) (pt_new (by omega) h0 (by omega)) ⟨by omega, by simp <;> omega⟩, e⟩
      | (v, q) :: l, (u, p) :: m =>
        have hq : H q ≤ b := i4 (v, q) (by simp)
        have hp : H p ≤ b := i5 (u, p) (by simp)
        have hpc := H_mul p c
        have hqp := H_add q (p * c)
        have hk := mgK_ab (v, q) (u, p) l m
        dsimp only at hk
        by_cases c1 : v < u
        · rw [if_pos c1] at hk
          have e := fin l ((u, p) :: m) v q (mergeV_lt c1 l m c) hk (fun t ht => i4 t (by simp [ht])) i5 q rfl
          by_cases h0 : q = 0
          · rw [put_no h0, List.append_nil] at e
            exact ⟨⟨l, (u, p) :: m, out⟩, mg_r3_3 (l_3 := (v, q) :: l) (l2_3 := (u, p) :: m) (by simp <;> omega) (by simp <;> omega) rfl rfl c1 (pt_same (by omega) h0) ⟨by omega, by simp <;> omega⟩, e⟩
          · rw [put_yes h0] at e
            exact ⟨⟨l, (u, p) :: m, out ++ [(v, q)]⟩, mg_r3_4 (l_3 := (v, q) :: l) (l2_3 := (u, p) :: m) (by simp <;> omega) (by simp <;> omega) rfl rfl c1 (pt_new (by omega) h0 (by omega)) ⟨by omega, by simp <;> omega⟩, e⟩
        · rw [if_neg c1] at hk
          by_cases c2 : u < v
          · rw [if_pos c2] at hk
            have e := fin ((v, q) :: l) m u (p * c) (mergeV_gt c2 l m c) hk i4 (fun t ht => i5 t (by simp [ht])) (p * c) rfl
            by_cases h0 : p * c = 0
            · rw [put_no h0, List.append_nil] at e
              exact ⟨⟨(v, q) :: l, m, out⟩, mg_r3_5 (l_3 := (v, q) :: l) (l2_3 := (u, p) :: m) (by simp <;> omega) (by simp <;> omega) rfl rfl c1 c2 (by omega) (by omega) (pt_same (by omega) h0) ⟨by omega, by simp <;> omega⟩, e⟩
            · rw [put_yes h0] at e
              exact ⟨⟨(v, q) :: l, m, out ++ [(u, p * c)]⟩, mg_r3_6 (l_3 := (v, q) :: l) (l2_3 := (u, p) :: m) (by simp <;> omega) (by simp <;> omega) rfl rfl c1 c2 (by omega) (by omega) (pt_new (by omega) h0 (by omega)) ⟨by omega, by simp <;> omega⟩, e⟩
          · rw [if_neg c2] at hk
            have huv : v = u := by omega
            have e := fin l m v (q + p * c) (mergeV_eq huv l m c) hk (fun t ht => i4 t (by simp [ht])) (fun t ht => i5 t (by simp [ht])) (q + p * c) rfl
            by_cases h0 : q + p * c = 0
            · rw [put_no h0, List.append_nil] at e
              exact ⟨⟨l, m, out⟩, mg_r3_7 (l_3 := (v, q) :: l) (l2_3 := (u, p) :: m) (by simp <;> omega) (by simp <;> omega) rfl rfl c1 c2 (by omega) (by omega) (by omega) (by omega) (pt_same (by omega) h0) ⟨by omega, by simp <;> omega⟩ ⟨by omega, by simp <;> omega⟩, e⟩
            · rw [put_yes h0] at e
              exact ⟨⟨l, m, out ++ [(v, q + p * c)]⟩, mg_r3_8 (l_3 := (v, q) :: l) (l2_3 := (u, p) :: m) (by simp <;> omega) (by simp <;> omega) rfl rfl c1 c2 (by omega) (by omega) (by omega) (by omega) (pt_new (by omega) h0 (by omega)) ⟨by omega, by simp <;> omega⟩ ⟨by omega, by simp <;> omega⟩, e⟩)
    (fun s hI => by
      obtain ⟨l, m, out⟩ := s
      obtain ⟨_, i2, _⟩ := hI
      dsimp only at i2 ⊢
      have h0 : l = [] ∧ m = [] := by
        match l, m with
        | [], [] => exact ⟨rfl, rfl⟩
        | a :: l, [] => rw [mgK_a] at i2; omega
        | [], b :: m => rw [mgK_nil] at i2; simp at i2
        | a :: l, b :: m => rw [mgK_ab] at i2; omega
      obtain ⟨rfl, rfl⟩ := h0
      exact mg_x3_1 (by simp) (by simp))
  obtain ⟨l, m, out⟩ := b'
  obtain ⟨i1, i2, _⟩ := hI
  dsimp only at i1 i2 hL
  have h0 : l = [] ∧ m = [] := by
    match l, m with
    | [], [] => exact ⟨rfl, rfl⟩
    | a :: l, [] => rw [mgK_a] at i2; omega
    | [], b :: m => rw [mgK_nil] at i2; simp at i2
    | a :: l, b :: m => rw [mgK_ab] at i2; omega
  obtain ⟨rfl, rfl⟩ := h0
  rw [mergeV_nil, List.append_nil] at i1
  subst i1
  exact mg_f1 (by omega) (by omega) (by omega) (by omega) hL
end Go.Proofs.YthkkmokbjmempaaGreatDoor
