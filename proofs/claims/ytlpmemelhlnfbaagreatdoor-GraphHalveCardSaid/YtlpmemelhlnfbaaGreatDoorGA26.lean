import Derived.Test.YtlpmemelhlnfbaaGreatDoorGA24
import Derived.Test.YtlpmemelhlnfbaaGreatDoorGA25
import Derived.Test.YtlpmemelhlnfbaaGreatDoorGA21
import Derived.Test.YtlpmemelhlnfbaaGreatDoorGA16
set_option linter.all false
set_option maxRecDepth 100000
set_option maxHeartbeats 6400000
namespace Go.Proofs.YtlpmemelhlnfbaaGreatDoor
open Go.RowKit
attribute [local irreducible] run runL loopG exec
def scf (c : Rat) (f : Form) : Form := (sclV f.1 c, f.2 * c)
theorem evS_rst {X : List Rat} {v : Int} : ∀ {F : List (Int × Rat)}, Srt F → evS X F = evS X (rst F v) + cof F v * X.getD v.toNat 0
  | [], _ => by
    have e : rst [] v = [] := rfl
    rw [e, cof_nil, evS]; grind
  | t :: F, h => by
    have ih := evS_rst (X := X) (v := v) h.tail
    by_cases e : t.1 = v
    · have e2 : cof F v = 0 := h.head.cof (by omega)
      rw [evS, ih, rst_eq e, cof_hd e.symm, e2, e]; grind
    · rw [evS, ih, rst_ne e, cof_tl (by omega), evS]; grind
theorem one_srt {v : Int} {q : Rat} (h : q ≠ 0) : Srt [(v, q)] := ⟨by simp, fun t ht => by rw [List.mem_singleton.1 ht]; exact h⟩
theorem max0_mul {c q : Rat} (hc : 0 < c) : max0 (c * q) = c * max0 q := by
  unfold max0
  by_cases h : 0 ≤ q
  · rw [if_pos h, if_pos (Rat.mul_nonneg (by grind) h)]
  · have h2 : c * q < 0 := by
      have h3 : 0 < -q := by grind
      have := Rat.mul_pos hc h3
      grind
    rw [if_neg h, if_neg (by grind)]
    grind
theorem getD_app {X : List Rat} {x : Rat} {k : Nat} : (X ++ [x]).getD k 0 = if k = X.length then x else X.getD k 0 := by
  rw [List.getD_eq_getElem?_getD, List.getD_eq_getElem?_getD]
  by_cases h : k < X.length
  · rw [List.getElem?_append_left h, if_neg (by omega)]
  · rw [List.getElem?_append_right (by omega)]
    by_cases e : k = X.length
    · subst e; simp
    · rw [if_neg e, List.getElem?_eq_none (by rw [List.length_singleton]; omega), List.getElem?_eq_none (by omega)]
theorem okF_of {f : Form} {vars : Int} (h : Srt f.1) (h0 : ∀ t ∈ f.1, 0 ≤ t.1 ∧ t.1 < vars) : OkFm f vars := fun i hi v c hx => by
  have hm := h0 _ (List.mem_of_getElem? hx)
  refine ⟨hm.1, hm.2, h.2 _ (List.mem_of_getElem? hx), fun v' c' hp hy => ?_⟩
  have h1 := (List.getElem?_eq_some_iff.1 hx)
  have h2 := (List.getElem?_eq_some_iff.1 hy)
  have h3 := List.pairwise_iff_getElem.1 h.1 (i - 1) i h2.1 h1.1 (by omega)
  rw [h1.2, h2.2] at h3
  exact h3
theorem scf_bd {c : Rat} {f : Form} (hH : H c ≤ 2) (h : TmB 2 f.1) (hl : f.1.length ≤ 7) (hk : H f.2 ≤ 2) : BdF 10 (scf c f) ∧ (scf c f).1.length ≤ 8 := by
  have l1 := sclV_len c f.1
  have h1 : TmB 10 (scf c f).1 := (h.scl hH).mono (by omega)
  have h2 := H_mul f.2 c
  exact ⟨h1.bd (show (sclV f.1 c).length ≤ _ by omega) (show H (f.2 * c) ≤ 10 by omega), show (sclV f.1 c).length ≤ 8 by omega⟩
theorem scf_srt {c : Rat} {f : Form} (h : Srt f.1) : Srt (scf c f).1 := (scl_srt h).1
theorem scf_in {c : Rat} {f : Form} {k : Nat} (h : InR k f.1) : InR k (scf c f).1 := h.scl
theorem SmF.srt {N : Nat} {f : Form} (h : SmF N f) : Srt f.1 := (h.ok (vars := N) (Int.le_refl _)).srt.1
theorem SmF.inr {N : Nat} {f : Form} (h : SmF N f) : InR N f.1 := (h.ok (vars := N) (Int.le_refl _)).srt.2
theorem SmF.tm {N : Nat} {f : Form} (h : SmF N f) : TmB 2 f.1 := fun t ht => ⟨h.srt.2 t ht, (h.l.each t ht).2.2.2⟩
end Go.Proofs.YtlpmemelhlnfbaaGreatDoor
set_option linter.all false
set_option maxRecDepth 100000
set_option maxHeartbeats 6400000
namespace Go.Proofs.YtlpmemelhlnfbaaGreatDoor
open Go.RowKit
attribute [local irreducible] run runL loopG exec
def rnT (nw : Int → Int) (F : List (Int × Rat)) : List (Int × Rat) := F.map fun t => (nw t.1, t.2)
def rnF (nw : Int → Int) (f : Form) : Form := (addV [] (rnT nw f.1), f.2)
theorem evS_any {X : List Rat} : ∀ {G F : List (Int × Rat)}, Srt F → evS X (addV F G) = evS X F + evS X G
  | [], F, _ => by
    have e : addV F [] = F := rfl
    rw [e, evS]; grind
  | t :: G, F, hf => by
    have e : addV F (t :: G) = addV (plusV false F t.1 t.2) G := rfl
    rw [e, evS_any (plus_srt hf).1, evS_plus hf, evS]; grind
theorem rn_srt (nw : Int → Int) (f : Form) : Srt (rnF nw f).1 := (add_any (G := rnT nw f.1) Srt.nil).1
theorem smc_rn {nw : Int → Int} {v : Int} : ∀ {F : List (Int × Rat)}, Srt F → (∀ t ∈ F, nw t.1 = nw v → t.1 = v) → smc (rnT nw F) (nw v) = cof F v
  | [], _, _ => rfl
  | t :: F, h, hi => by
    show (if nw v = nw t.1 then t.2 else 0) + smc (rnT nw F) (nw v) = _
    have ih := smc_rn h.tail (fun u hu => hi u (by simp [hu])) (nw := nw) (v := v)
    by_cases e : t.1 = v
    · have e2 : cof F v = 0 := h.head.cof (by omega)
      rw [if_pos (by rw [e]), ih, e2, cof_hd e.symm]; grind
    · rw [if_neg (fun e2 => e (hi t (by simp) e2.symm)), ih, cof_tl (fun e2 => e e2.symm)]; grind
theorem rnT_len (nw : Int → Int) (F : List (Int × Rat)) : (rnT nw F).length = F.length := List.length_map _
theorem rn_inr {nw : Int → Int} {f : Form} {m : Nat} (h : ∀ t ∈ f.1, 0 ≤ nw t.1 ∧ nw t.1 < (m : Int)) : InR m (rnF nw f).1 := by
  show InR m (addV [] (rnT nw f.1))
  refine InR.add (fun t ht => by cases ht) fun t ht => ?_
  obtain ⟨u, hu, rfl⟩ := List.mem_map.1 ht
  exact h u hu
theorem rn_bd {nw : Int → Int} {f : Form} {m l : Nat} (h : TmB m f.1) (hl : f.1.length ≤ l) (hk : H f.2 ≤ m) : TmB ((m + 1) * l) (rnF nw f).1 ∧ (rnF nw f).1.length ≤ l ∧ H (rnF nw f).2 ≤ m := by
  have h2 : TmB m (rnT nw f.1) := fun t ht => by
    obtain ⟨u, hu, rfl⟩ := List.mem_map.1 ht
    exact h u hu
  have h3 := TmB.add (G := rnT nw f.1) (F := []) (m := 0) (fun t ht => by cases ht) h2
  have h4 := addV_len (rnT nw f.1) []
  rw [rnT_len] at h3 h4
  have h5 : (m + 1) * f.1.length ≤ (m + 1) * l := Nat.mul_le_mul_left _ hl
  refine ⟨h3.mono (by omega), ?_, hk⟩
  show (addV [] (rnT nw f.1)).length ≤ l
  simp at h4
  omega
structure PlI (m : Nat) (ord : List Int) (k : Nat) (P : List Int) : Prop where
  len : P.length = m
  cnt : P.count (-1) + k = m
  val : ∀ (i : Nat) (y : Int), P[i]? = some y → y = -1 ∨ ∃ j : Nat, j < k ∧ y = (j : Int) ∧ ord[j]? = some (i : Int)
  get : ∀ (j : Nat) (x : Int), j < k → ord[j]? = some x → 0 ≤ x ∧ x < (m : Int) ∧ P[x.toNat]? = some (j : Int)
theorem PlI.start (m : Nat) (ord : List Int) : PlI m ord 0 (List.replicate m (-1)) :=
  ⟨List.length_replicate, by rw [List.count_replicate]; simp, fun i y h => .inl (List.eq_of_mem_replicate (List.mem_of_getElem? h)), fun j x h => by omega⟩
theorem PlI.step {m : Nat} {ord : List Int} {k : Nat} {P : List Int} {x y : Int} (h : PlI m ord k P) (hx : ord[k]? = some x) (h0 : 0 ≤ x) (h1 : x < (m : Int)) (hy : P[x.toNat]? = some y) (hn : ¬ 0 ≤ y) : PlI m ord (k + 1) (P.set x.toNat (k : Int)) := by
  have hlt := (List.getElem?_eq_some_iff.1 hy).1
  have ey : y = -1 := by
    rcases h.val _ _ hy with e | ⟨j, _, e, _⟩
    · exact e
    · omega
  subst ey
  have hc := h.cnt
  refine ⟨by rw [List.length_set]; exact h.len, ?_, fun i z hz => ?_, fun j z hj hz => ?_⟩
  · have hm : -1 ∈ P := List.mem_of_getElem? hy
    have hp := List.count_pos_iff.2 hm
    rw [List.count_set hlt]
    have e1 : P[x.toNat] = -1 := (List.getElem?_eq_some_iff.1 hy).2
    have e2 : ((k : Int) == -1) = false := by simpa using (by omega : (k : Int) ≠ -1)
    rw [e1, e2]
    simp
    omega
  · rw [List.getElem?_set] at hz
    by_cases e : x.toNat = i
    · rw [if_pos e, if_pos (by omega)] at hz
      cases hz
      exact .inr ⟨k, by omega, rfl, by rw [hx]; congr 1; omega⟩
    · rw [if_neg e] at hz
      rcases h.val _ _ hz with a | ⟨j, a, b, c⟩
      · exact .inl a
      · exact .inr ⟨j, by omega, b, c⟩
  · by_cases e : j = k
    · subst e
      rw [hx] at hz; cases hz
      exact ⟨h0, h1, by rw [List.getElem?_set, if_pos rfl, if_pos hlt]⟩
    · obtain ⟨a, b, c⟩ := h.get j z (by omega) hz
      refine ⟨a, b, ?_⟩
      rw [List.getElem?_set]
      by_cases e2 : x.toNat = z.toNat
      · rw [e2, c] at hy
        cases hy
      · rw [if_neg e2]; exact c
structure Perm2 (m : Nat) (ord P : List Int) : Prop where
  len : P.length = m
  val : ∀ i : Nat, i < m → ∃ j : Nat, j < m ∧ P[i]? = some (j : Int) ∧ ord[j]? = some (i : Int)
  get : ∀ (j : Nat) (x : Int), j < m → ord[j]? = some x → 0 ≤ x ∧ x < (m : Int) ∧ P[x.toNat]? = some (j : Int)
theorem PlI.fin {m : Nat} {ord P : List Int} (h : PlI m ord m P) : Perm2 m ord P := by
  refine ⟨h.len, fun i hi => ?_, h.get⟩
  have hc := h.cnt
  have h0 : P.count (-1) = 0 := by omega
  have hl := h.len
  have hg : P[i]? = some P[i] := List.getElem?_eq_getElem (by omega)
  rcases h.val i _ hg with e | ⟨j, a, b, c⟩
  · exact absurd (List.mem_of_getElem? hg) (by rw [e]; exact List.count_eq_zero.1 h0)
  · exact ⟨j, a, by rw [hg, b], c⟩
def toP (I : Int) (P : List Int) (v : Int) : Int := if v < I then v else I + P.getD (v - I).toNat 0
def prmU (nw : Int → Int) (U : List Form) (ord : List Int) : List Form := ord.map fun x => rnF nw (U.getD x.toNat ([], 0))
end Go.Proofs.YtlpmemelhlnfbaaGreatDoor
set_option linter.all false
set_option maxRecDepth 100000
set_option maxHeartbeats 6400000
namespace Go.Proofs.YtlpmemelhlnfbaaGreatDoor
open Go.RowKit
end Go.Proofs.YtlpmemelhlnfbaaGreatDoor
set_option linter.all false
set_option maxRecDepth 100000
set_option maxHeartbeats 6400000
namespace Go.Proofs.YtlpmemelhlnfbaaGreatDoor
open Go.RowKit
end Go.Proofs.YtlpmemelhlnfbaaGreatDoor
