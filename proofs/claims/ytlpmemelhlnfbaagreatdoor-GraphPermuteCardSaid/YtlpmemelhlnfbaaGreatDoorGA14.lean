/- A graph of which a unit is scaled, plainly: valid, with the same outputs. Forms whose variables are renamed, and graphs whose units are permuted, plainly. Walks: relucertref07.Scale@1. Walks: linear.merge@2, linear.Scale@1. -/
import Derived.Test.YtlpmemelhlnfbaaGreatDoorGA12
import Derived.Test.YtlpmemelhlnfbaaGreatDoorGA13
import Derived.Test.YtlpmemelhlnfbaaGreatDoorGA9
import Derived.Test.YtlpmemelhlnfbaaGreatDoorGA5
set_option linter.all false
set_option linter.all false
set_option maxRecDepth 100000
set_option maxHeartbeats 6400000
namespace Go.Proofs.YtlpmemelhlnfbaaGreatDoor
open Go.RowKit
attribute [local irreducible] run runL loopG exec

theorem getD_app {X : List Rat} {x : Rat} {k : Nat} : (X ++ [x]).getD k 0 = if k = X.length then x else X.getD k 0 := by
  rw [List.getD_eq_getElem?_getD, List.getD_eq_getElem?_getD]
  by_cases h : k < X.length
  · rw [List.getElem?_append_left h, if_neg (by omega)]
  · rw [List.getElem?_append_right (by omega)]
    by_cases e : k = X.length
    · subst e; simp
    · rw [if_neg e, List.getElem?_eq_none (by rw [List.length_singleton]; omega), List.getElem?_eq_none (by omega)]
theorem okF_of {f : Form} {vars : Int} (h : Srt f.1) (h0 : ∀ t ∈ f.1, 0 ≤ t.1 ∧ t.1 < vars) : OkFm f vars := fun i hi v c hx => by
  have hm := h0 _ (List.mem_of_getElem? hx)
  refine ⟨hm.1, hm.2, h.2 _ (List.mem_of_getElem? hx), fun v' c' hp hy => ?_⟩
  have h1 := (List.getElem?_eq_some_iff.1 hx)
  have h2 := (List.getElem?_eq_some_iff.1 hy)
  have h3 := List.pairwise_iff_getElem.1 h.1 (i - 1) i h2.1 h1.1 (by omega)
  rw [h1.2, h2.2] at h3
  exact h3
theorem SmF.srt {N : Nat} {f : Form} (h : SmF N f) : Srt f.1 := (h.ok (vars := N) (Int.le_refl _)).srt.1
theorem SmF.inr {N : Nat} {f : Form} (h : SmF N f) : InR N f.1 := (h.ok (vars := N) (Int.le_refl _)).srt.2
theorem SmF.tm {N : Nat} {f : Form} (h : SmF N f) : TmB 2 f.1 := fun t ht => ⟨h.srt.2 t ht, (h.l.each t ht).2.2.2⟩
end Go.Proofs.YtlpmemelhlnfbaaGreatDoor
set_option linter.all false
set_option maxRecDepth 100000
set_option maxHeartbeats 6400000
namespace Go.Proofs.YtlpmemelhlnfbaaGreatDoor
open Go.RowKit
attribute [local irreducible] run runL loopG exec

def rnT (nw : Int → Int) (F : List (Int × Rat)) : List (Int × Rat) := F.map fun t => (nw t.1, t.2)
def rnF (nw : Int → Int) (f : Form) : Form := (addV [] (rnT nw f.1), f.2)
theorem evS_any {X : List Rat} : ∀ {G F : List (Int × Rat)}, Srt F → evS X (addV F G) = evS X F + evS X G
  | [], F, _ => by
    have e : addV F [] = F := rfl
    rw [e, evS]; grind
  | t :: G, F, hf => by
    have e : addV F (t :: G) = addV (plusV false F t.1 t.2) G := rfl
    rw [e, evS_any (plus_srt hf).1, evS_plus hf, evS]; grind
theorem evS_rn {X Y : List Rat} {nw : Int → Int} : ∀ {F : List (Int × Rat)}, (∀ t ∈ F, Y.getD (nw t.1).toNat 0 = X.getD t.1.toNat 0) → evS Y (rnT nw F) = evS X F
  | [], _ => rfl
  | t :: F, h => by
    show t.2 * Y.getD (nw t.1).toNat 0 + evS Y (rnT nw F) = t.2 * X.getD t.1.toNat 0 + evS X F
    rw [h t (by simp), evS_rn fun u hu => h u (by simp [hu])]
theorem evV_rn {X Y : List Rat} {nw : Int → Int} {f : Form} (h : ∀ t ∈ f.1, Y.getD (nw t.1).toNat 0 = X.getD t.1.toNat 0) : evV Y (rnF nw f) = evV X f := by
  rw [evV_eq, evV_eq]
  show f.2 + evS Y (addV [] (rnT nw f.1)) = _
  rw [evS_any Srt.nil, evS_rn h, evS]; grind
theorem rn_srt (nw : Int → Int) (f : Form) : Srt (rnF nw f).1 := (add_any (G := rnT nw f.1) Srt.nil).1
theorem smc_rn {nw : Int → Int} {v : Int} : ∀ {F : List (Int × Rat)}, Srt F → (∀ t ∈ F, nw t.1 = nw v → t.1 = v) → smc (rnT nw F) (nw v) = cof F v
  | [], _, _ => rfl
  | t :: F, h, hi => by
    show (if nw v = nw t.1 then t.2 else 0) + smc (rnT nw F) (nw v) = _
    have ih := smc_rn h.tail (fun u hu => hi u (by simp [hu])) (nw := nw) (v := v)
    by_cases e : t.1 = v
    · have e2 : cof F v = 0 := h.head.cof (by omega)
      rw [if_pos (by rw [e]), ih, e2, cof_hd e.symm]; grind
    · rw [if_neg (fun e2 => e (hi t (by simp) e2.symm)), ih, cof_tl (fun e2 => e e2.symm)]; grind
theorem cof_mem {F : List (Int × Rat)} {v : Int} (h : cof F v ≠ 0) : ∃ t ∈ F, t.1 = v := by
  false_or_by_contra
  rename_i h2
  exact h (cof_low fun t ht e3 => h2 ⟨t, ht, e3⟩)
theorem cof_of {F : List (Int × Rat)} {t : Int × Rat} (h : Srt F) (ht : t ∈ F) : cof F t.1 = t.2 := by
  induction F with
  | nil => cases ht
  | cons u F ih =>
    rcases List.mem_cons.1 ht with rfl | ht
    · exact cof_hd rfl
    · have := h.head t ht
      rw [cof_tl (by omega), ih h.tail ht]
theorem rn_in {nw : Int → Int} {f : Form} {m : Nat} (h : Srt f.1) (hi : ∀ s ∈ f.1, ∀ t ∈ f.1, nw s.1 = nw t.1 → s.1 = t.1) (hr : InR m (rnF nw f).1) : ∀ t ∈ f.1, 0 ≤ nw t.1 ∧ nw t.1 < (m : Int) := fun t ht => by
  have h1 : cof (rnF nw f).1 (nw t.1) = t.2 := by
    show cof (addV [] (rnT nw f.1)) (nw t.1) = _
    rw [(add_any Srt.nil).2, cof_nil, smc_rn h fun s hs e => hi s hs t ht e, cof_of h ht]; grind
  obtain ⟨u, hu, e⟩ := cof_mem (F := (rnF nw f).1) (v := nw t.1) (by rw [h1]; exact h.2 t ht)
  rw [← e]
  exact hr u hu
theorem rnT_len (nw : Int → Int) (F : List (Int × Rat)) : (rnT nw F).length = F.length := List.length_map _
theorem rn_inr {nw : Int → Int} {f : Form} {m : Nat} (h : ∀ t ∈ f.1, 0 ≤ nw t.1 ∧ nw t.1 < (m : Int)) : InR m (rnF nw f).1 := by
  show InR m (addV [] (rnT nw f.1))
  refine InR.add (fun t ht => by cases ht) fun t ht => ?_
  obtain ⟨u, hu, rfl⟩ := List.mem_map.1 ht
  exact h u hu
theorem rn_bd {nw : Int → Int} {f : Form} {m l : Nat} (h : TmB m f.1) (hl : f.1.length ≤ l) (hk : H f.2 ≤ m) : TmB ((m + 1) * l) (rnF nw f).1 ∧ (rnF nw f).1.length ≤ l ∧ H (rnF nw f).2 ≤ m := by
  have h2 : TmB m (rnT nw f.1) := fun t ht => by
    obtain ⟨u, hu, rfl⟩ := List.mem_map.1 ht
    exact h u hu
  have h3 := TmB.add (G := rnT nw f.1) (F := []) (m := 0) (fun t ht => by cases ht) h2
  have h4 := addV_len (rnT nw f.1) []
  rw [rnT_len] at h3 h4
  have h5 : (m + 1) * f.1.length ≤ (m + 1) * l := Nat.mul_le_mul_left _ hl
  refine ⟨h3.mono (by omega), ?_, hk⟩
  show (addV [] (rnT nw f.1)).length ≤ l
  simp at h4
  omega
theorem val_get {U : List Form} {X : List Rat} (hB : Back X.length U) : (valV U X).length = X.length + U.length ∧ (∀ k, k < X.length → (valV U X).getD k 0 = X.getD k 0) ∧ ∀ i f, U[i]? = some f → (valV U X).getD (X.length + i) 0 = max0 (evV (valV U X) f) := by
  induction U generalizing X with
  | nil => exact ⟨rfl, fun k hk => rfl, fun i f h => by simp at h⟩
  | cons f U ih =>
    have hb : Back (X ++ [max0 (evV X f)]).length U := by rw [List.length_append]; exact hB.tail
    obtain ⟨h1, h2, h3⟩ := ih hb
    rw [List.length_append, List.length_singleton] at h1 h2 h3
    rw [valV_step]
    refine ⟨by rw [h1, List.length_cons]; omega, fun k hk => ?_, fun i g hg => ?_⟩
    · rw [h2 k (by omega), getD_app, if_neg (by omega)]
    · cases i with
      | zero =>
        rw [List.getElem?_cons_zero] at hg
        cases hg
        rw [Nat.add_zero, h2 _ (by omega), getD_app, if_pos rfl]
        obtain ⟨R, hR, _⟩ := valV_ext U (X ++ [max0 (evV X f)])
        rw [hR, List.append_assoc, evV_app hB.head]
      | succ i =>
        rw [List.getElem?_cons_succ] at hg
        have := h3 i g hg
        rwa [show X.length + 1 + i = X.length + (i + 1) from by omega] at this
structure PlI (m : Nat) (ord : List Int) (k : Nat) (P : List Int) : Prop where
  len : P.length = m
  cnt : P.count (-1) + k = m
  val : ∀ (i : Nat) (y : Int), P[i]? = some y → y = -1 ∨ ∃ j : Nat, j < k ∧ y = (j : Int) ∧ ord[j]? = some (i : Int)
  get : ∀ (j : Nat) (x : Int), j < k → ord[j]? = some x → 0 ≤ x ∧ x < (m : Int) ∧ P[x.toNat]? = some (j : Int)
theorem PlI.start (m : Nat) (ord : List Int) : PlI m ord 0 (List.replicate m (-1)) :=
  ⟨List.length_replicate, by rw [List.count_replicate]; simp, fun i y h => .inl (List.eq_of_mem_replicate (List.mem_of_getElem? h)), fun j x h => by omega⟩
theorem PlI.step {m : Nat} {ord : List Int} {k : Nat} {P : List Int} {x y : Int} (h : PlI m ord k P) (hx : ord[k]? = some x) (h0 : 0 ≤ x) (h1 : x < (m : Int)) (hy : P[x.toNat]? = some y) (hn : ¬ 0 ≤ y) : PlI m ord (k + 1) (P.set x.toNat (k : Int)) := by
  have hlt := (List.getElem?_eq_some_iff.1 hy).1
  have ey : y = -1 := by
    rcases h.val _ _ hy with e | ⟨j, _, e, _⟩
    · exact e
    · omega
  subst ey
  have hc := h.cnt
  refine ⟨by rw [List.length_set]; exact h.len, ?_, fun i z hz => ?_, fun j z hj hz => ?_⟩
  · have hm : -1 ∈ P := List.mem_of_getElem? hy
    have hp := List.count_pos_iff.2 hm
    rw [List.count_set hlt]
    have e1 : P[x.toNat] = -1 := (List.getElem?_eq_some_iff.1 hy).2
    have e2 : ((k : Int) == -1) = false := by simpa using (by omega : (k : Int) ≠ -1)
    rw [e1, e2]
    simp
    omega
  · rw [List.getElem?_set] at hz
    by_cases e : x.toNat = i
    · rw [if_pos e, if_pos (by omega)] at hz
      cases hz
      exact .inr ⟨k, by omega, rfl, by rw [hx]; congr 1; omega⟩
    · rw [if_neg e] at hz
      rcases h.val _ _ hz with a | ⟨j, a, b, c⟩
      · exact .inl a
      · exact .inr ⟨j, by omega, b, c⟩
  · by_cases e : j = k
    · subst e
      rw [hx] at hz; cases hz
      exact ⟨h0, h1, by rw [List.getElem?_set, if_pos rfl, if_pos hlt]⟩
    · obtain ⟨a, b, c⟩ := h.get j z (by omega) hz
      refine ⟨a, b, ?_⟩
      rw [List.getElem?_set]
      by_cases e2 : x.toNat = z.toNat
      · rw [e2, c] at hy
        cases hy
      · rw [if_neg e2]; exact c
structure Perm2 (m : Nat) (ord P : List Int) : Prop where
  len : P.length = m
  val : ∀ i : Nat, i < m → ∃ j : Nat, j < m ∧ P[i]? = some (j : Int) ∧ ord[j]? = some (i : Int)
  get : ∀ (j : Nat) (x : Int), j < m → ord[j]? = some x → 0 ≤ x ∧ x < (m : Int) ∧ P[x.toNat]? = some (j : Int)
theorem PlI.fin {m : Nat} {ord P : List Int} (h : PlI m ord m P) : Perm2 m ord P := by
  refine ⟨h.len, fun i hi => ?_, h.get⟩
  have hc := h.cnt
  have h0 : P.count (-1) = 0 := by omega
  have hl := h.len
  have hg : P[i]? = some P[i] := List.getElem?_eq_getElem (by omega)
  rcases h.val i _ hg with e | ⟨j, a, b, c⟩
  · exact absurd (List.mem_of_getElem? hg) (by rw [e]; exact List.count_eq_zero.1 h0)
  · exact ⟨j, a, by rw [hg, b], c⟩
def toP (I : Int) (P : List Int) (v : Int) : Int := if v < I then v else I + P.getD (v - I).toNat 0
def prmU (nw : Int → Int) (U : List Form) (ord : List Int) : List Form := ord.map fun x => rnF nw (U.getD x.toNat ([], 0))
def prmG (g : TGraph) (ord P : List Int) : TGraph := ⟨g.Inputs, prmU (toP g.Inputs P) g.Units ord, g.Outputs.map (rnF (toP g.Inputs P))⟩
theorem toP_at {I : Int} {P : List Int} {i : Nat} {y : Int} (h : P[i]? = some y) : toP I P (I + (i : Int)) = I + y := by
  unfold toP
  rw [if_neg (by omega), show (I + (i : Int) - I).toNat = i from by omega, List.getD_eq_getElem?_getD, h]; rfl
theorem toP_rg {m : Nat} {ord P : List Int} {I : Int} (h : Perm2 m ord P) {v : Int} (h0 : 0 ≤ v) (h1 : v < I + (m : Int)) (hI : 0 ≤ I) : 0 ≤ toP I P v ∧ toP I P v < I + (m : Int) ∧ (toP I P v < I ↔ v < I) := by
  by_cases e : v < I
  · unfold toP; rw [if_pos e]; omega
  · obtain ⟨j, a, b, c⟩ := h.val (v - I).toNat (by omega)
    have := toP_at (I := I) b
    rw [show I + ((v - I).toNat : Int) = v from by omega] at this
    rw [this]
    omega
theorem toP_inj {m : Nat} {ord P : List Int} {I : Int} (h : Perm2 m ord P) {u v : Int} (hu : u < I + (m : Int)) (hv : v < I + (m : Int)) (e : toP I P u = toP I P v) : u = v := by
  by_cases a : u < I
  · by_cases b : v < I
    · unfold toP at e; rw [if_pos a, if_pos b] at e; exact e
    · obtain ⟨j, b1, b2, b3⟩ := h.val (v - I).toNat (by omega)
      have k := toP_at (I := I) b2
      rw [show I + ((v - I).toNat : Int) = v from by omega] at k
      rw [k] at e
      unfold toP at e; rw [if_pos a] at e
      omega
  · obtain ⟨i, a1, a2, a3⟩ := h.val (u - I).toNat (by omega)
    have k1 := toP_at (I := I) a2
    rw [show I + ((u - I).toNat : Int) = u from by omega] at k1
    rw [k1] at e
    by_cases b : v < I
    · unfold toP at e; rw [if_pos b] at e
      omega
    · obtain ⟨j, b1, b2, b3⟩ := h.val (v - I).toNat (by omega)
      have k := toP_at (I := I) b2
      rw [show I + ((v - I).toNat : Int) = v from by omega] at k
      rw [k] at e
      have : i = j := by omega
      subst this
      rw [a3] at b3
      have := Option.some.inj b3
      omega
theorem prm_val {I m : Nat} {U : List Form} {ord P : List Int} {X : List Rat} (h : Perm2 m ord P) (hm : U.length = m) (ho : ord.length = m) (hX : X.length = I) (hB : Back I U) (hS : ∀ f ∈ U, Srt f.1)
    (hV : ∀ k f, (prmU (toP I P) U ord)[k]? = some f → InR (I + k) f.1) :
    ∀ v : Int, 0 ≤ v → v < (I : Int) + (m : Int) → (valV (prmU (toP I P) U ord) X).getD (toP I P v).toNat 0 = (valV U X).getD v.toNat 0 := by
  have hl : (prmU (toP I P) U ord).length = m := by rw [prmU, List.length_map, ho]
  obtain ⟨a1, a2, a3⟩ := val_get (U := U) (X := X) (by rw [hX]; exact hB)
  obtain ⟨b1, b2, b3⟩ := val_get (U := prmU (toP I P) U ord) (X := X) (by rw [hX]; exact hV)
  have key : ∀ (n k : Nat), k < n → k < m → ∀ i : Nat, ord[k]? = some (i : Int) → (valV (prmU (toP I P) U ord) X).getD (I + k) 0 = (valV U X).getD (I + i) 0 := fun n => by
    induction n with
    | zero => intro k hk; omega
    | succ n ih =>
      intro k hk hkm i hi
      obtain ⟨g0, g1, g2⟩ := h.get k _ hkm hi
      rw [Int.toNat_natCast] at g2
      have hfi : U[i]? = some U[i] := List.getElem?_eq_getElem (by omega)
      have hin : (prmU (toP I P) U ord)[k]? = some (rnF (toP I P) U[i]) := by
        rw [prmU, List.getElem?_map, hi, Option.map_some, Int.toNat_natCast, List.getD_eq_getElem?_getD, hfi]; rfl
      have e1 := b3 k _ hin
      have e2 := a3 i _ hfi
      rw [hX] at e1 e2
      rw [e1, e2]
      congr 1
      have hbi := hB i _ hfi
      have hr := rn_in (hS _ (List.getElem_mem _)) (fun s hs t ht e => toP_inj h (by have := hbi s hs; omega) (by have := hbi t ht; omega) e) (hV k _ hin)
      refine evV_rn fun t ht => ?_
      have ht1 := hbi t ht
      have ht2 := hr t ht
      by_cases c : t.1 < (I : Int)
      · have et : toP (I : Int) P t.1 = t.1 := if_pos c
        rw [et, a2 _ (by omega), b2 _ (by omega)]
      · obtain ⟨j, c1, c2, c3⟩ := h.val (t.1 - I).toNat (by omega)
        have k1 := toP_at (I := I) c2
        rw [show (I : Int) + ((t.1 - I).toNat : Int) = t.1 from by omega] at k1
        rw [k1] at ht2 ⊢
        have := ih j (by omega) c1 _ c3
        rw [show ((I : Int) + (j : Int)).toNat = I + j from by omega, this]
        congr 1; omega
  intro v h0 h1
  by_cases c : v < (I : Int)
  · have et : toP (I : Int) P v = v := if_pos c
    rw [et, a2 _ (by omega), b2 _ (by omega)]
  · obtain ⟨j, c1, c2, c3⟩ := h.val (v - I).toNat (by omega)
    have k1 := toP_at (I := I) c2
    rw [show (I : Int) + ((v - I).toNat : Int) = v from by omega] at k1
    rw [k1]
    have := key (j + 1) j (by omega) c1 _ c3
    rw [show ((I : Int) + (j : Int)).toNat = I + j from by omega, this]
    congr 1; omega
theorem prm_out {I m : Nat} {U : List Form} {ord P : List Int} {X : List Rat} (h : Perm2 m ord P) (hm : U.length = m) (ho : ord.length = m) (hX : X.length = I) (hB : Back I U) (hS : ∀ f ∈ U, Srt f.1)
    (hV : ∀ k f, (prmU (toP I P) U ord)[k]? = some f → InR (I + k) f.1) {f : Form} (hf : ∀ t ∈ f.1, 0 ≤ t.1 ∧ t.1 < (I : Int) + (m : Int)) :
    evV (valV (prmU (toP I P) U ord) X) (rnF (toP I P) f) = evV (valV U X) f :=
  evV_rn fun t ht => prm_val h hm ho hX hB hS hV t.1 (hf t ht).1 (hf t ht).2
end Go.Proofs.YtlpmemelhlnfbaaGreatDoor
set_option linter.all false
set_option maxRecDepth 100000
set_option maxHeartbeats 6400000
namespace Go.Proofs.YtlpmemelhlnfbaaGreatDoor
open Go.RowKit

end Go.Proofs.YtlpmemelhlnfbaaGreatDoor
set_option linter.all false
set_option maxRecDepth 100000
set_option maxHeartbeats 6400000
namespace Go.Proofs.YtlpmemelhlnfbaaGreatDoor
open Go.RowKit

end Go.Proofs.YtlpmemelhlnfbaaGreatDoor
