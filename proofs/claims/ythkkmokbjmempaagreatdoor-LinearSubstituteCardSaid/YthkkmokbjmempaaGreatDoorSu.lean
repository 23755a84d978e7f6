/- linear.Substitute, relucertref07.Substitute: what they return; relucertlaw07.LinearSubstitute returns true. -/
import Derived.Test.YthkkmokbjmempaaGreatDoorHX
import Derived.Test.YthkkmokbjmempaaGreatDoorGq
import Derived.Test.YthkkmokbjmempaaGreatDoorLa
import Derived.Test.YthkkmokbjmempaaGreatDoorLX
import Derived.Test.YthkkmokbjmempaaGreatDoorZh
import Derived.Test.YthkkmokbjmempaaGreatDoorZi
set_option linter.all false
set_option linter.all false
set_option maxRecDepth 100000
set_option maxHeartbeats 6400000
namespace Go.Proofs.YthkkmokbjmempaaGreatDoor
open Go.RowKit
attribute [local irreducible] run runL loopG exec lBR lBC

/-- the terms of the other variables -/
def rst (F : List (Int × Rat)) (v : Int) : List (Int × Rat) := F.filter fun t => decide (t.1 ≠ v)
theorem rst_eq {t : Int × Rat} {F : List (Int × Rat)} {v : Int} (h : t.1 = v) : rst (t :: F) v = rst F v := by unfold rst; rw [List.filter_cons_of_neg]; simp [h]
theorem rst_ne {t : Int × Rat} {F : List (Int × Rat)} {v : Int} (h : t.1 ≠ v) : rst (t :: F) v = t :: rst F v := by unfold rst; rw [List.filter_cons_of_pos]; simp [h]
theorem rst_mem {t : Int × Rat} {F : List (Int × Rat)} {v : Int} (h : t ∈ rst F v) : t ∈ F := (List.mem_filter.1 h).1
theorem rst_len (F : List (Int × Rat)) (v : Int) : (rst F v).length ≤ F.length := List.length_filter_le _ _
theorem rst_srt {F : List (Int × Rat)} {v : Int} (h : Srt F) : Srt (rst F v) := ⟨h.1.filter _, fun t ht => h.2 t (rst_mem ht)⟩
theorem rst_cof (v u : Int) : ∀ (F : List (Int × Rat)), cof (rst F v) u = if u = v then 0 else cof F u
  | [] => by
    have e : rst [] v = [] := rfl
    rw [e, cof_nil]; split <;> rfl
  | t :: F => by
    by_cases h : t.1 = v
    · rw [rst_eq h, rst_cof v u F]
      split
      · rfl
      · rw [cof_tl (by omega)]
    · rw [rst_ne h]
      by_cases h2 : u = t.1
      · rw [cof_hd h2, if_neg (by omega), cof_hd h2]
      · rw [cof_tl h2, rst_cof v u F, cof_tl h2]
theorem rst_plus {F : List (Int × Rat)} {v : Int} (h : Srt F) : plusV false F v (-(cof F v)) = rst F v := by
  obtain ⟨a1, a2, _⟩ := plus_srt (v := v) (c := -(cof F v)) h
  refine srt_ext a1 (rst_srt h) fun u => ?_
  rw [a2, rst_cof]
  split
  · rename_i e; subst e; grind
  · grind
def lstC (v : Int) : Rat → List (Int × Rat) → Rat
  | s, [] => s
  | s, t :: F => lstC v (if t.1 = v then t.2 else s) F
theorem lstC_no {v : Int} : ∀ {F : List (Int × Rat)} {s : Rat}, (∀ t ∈ F, t.1 ≠ v) → lstC v s F = s
  | [], _, _ => rfl
  | t :: F, s, h => by
    rw [lstC, if_neg (h t (by simp))]
    exact lstC_no fun u hu => h u (by simp [hu])
theorem lstC_cof {v : Int} : ∀ {F : List (Int × Rat)}, Srt F → lstC v 0 F = cof F v
  | [], _ => rfl
  | t :: F, h => by
    rw [lstC]
    by_cases e : t.1 = v
    · rw [if_pos e, cof_hd e.symm]
      exact lstC_no fun u hu => by have := h.head u hu; omega
    · rw [if_neg e, cof_tl (by omega)]
      exact lstC_cof h.tail
def sbF (v : Int) (_ : Nat) (b : List (Int × Rat) × Rat) (t : Int × Rat) : List (Int × Rat) × Rat := if t.1 = v then (b.1, t.2) else (b.1 ++ [t], b.2)
theorem sbF_fold {v : Int} : ∀ {F : List (Int × Rat)} {i : Nat} {b : List (Int × Rat) × Rat}, foldI (sbF v) i b F = (b.1 ++ rst F v, lstC v b.2 F)
  | [], i, b => by
    have e : rst [] v = [] := rfl
    rw [foldI, e, List.append_nil, lstC]
  | t :: F, i, b => by
    rw [foldI, sbF_fold, lstC]
    unfold sbF
    by_cases e : t.1 = v
    · rw [if_pos e, if_pos e, rst_eq e]
    · rw [if_neg e, if_neg e, rst_ne e]
      simp
theorem lsb_c {n : Nat} {f g : Form} {v : Int} {b : Nat} (hS : Srt f.1) (hF : ∀ t ∈ f.1, H t.2 ≤ b) (hG : ∀ t ∈ g.1, H t.2 ≤ b) (hb : b ≤ 1000000) (h1 : 1 ≤ b) (hk : H f.2 ≤ 1000000) (hk2 : H g.2 ≤ 1000000) (hlf : f.1.length ≤ 1000000) (hlg : g.1.length ≤ 1000000) :
    run (n + 2) 25 [formV f, .lit (.int .i64 v), formV g] = some (formV (mergeV (rst f.1 v) g.1 (cof f.1 v), f.2 + g.2 * cof f.1 v)) := by
  have L := loopG_I (O := tab (n + 2)) (P := Tryz.prog) (m := 0) (N := 39) (lives := livesOf 25) (r := 4) (C := lsb_C4) (L := f.1) (f := sbF v) (enc := fun i b => lsb_h4 f v g i b.1 b.2) (exN := .exit 0) (out := fun b => lsb_o4a f g b.1 b.2) (Inv := fun i b => b.1.length ≤ i ∧ i ≤ f.1.length) ([], 0) ⟨by simp, by omega⟩ (by omega) (fun h => by cases h)
    (fun i t s hi hI => by
      obtain ⟨u, c⟩ := t
      obtain ⟨hI, _⟩ := hI
      have hlt := (List.getElem?_eq_some_iff.1 hi).1
      unfold sbF
      by_cases e : u = v
      · rw [if_pos e]
        exact ⟨lsb_r4_1 (by omega) hi e ⟨by omega, by omega⟩, by dsimp only; omega, hlt⟩
      · rw [if_neg e]
        exact ⟨lsb_r4_2 (by omega) hi e (by omega) ⟨by omega, by omega⟩, by simp; omega, hlt⟩)
    (fun b hI => lsb_x4_1 (by have := hI.2; omega))
  have L := L.1
  rw [sbF_fold] at L
  dsimp only at L
  rw [List.nil_append, lstC_cof hS] at L
  have hc : H (cof f.1 v) ≤ b := cof_H hF h1
  have hr := rst_len f.1 v
  exact lsb_f1 L (merge_c (n := n) (f := (rst f.1 v, f.2)) (b := b) (fun t ht => hF t (rst_mem ht)) hG hb (by omega) hk hk2 (by dsimp only; omega) hlg)
theorem fsb_c {n : Nat} {f g : Form} {v : Int} (hS : Srt f.1) (hF : TmB 2 f.1) (hG : TmB 2 g.1) (hk : H f.2 ≤ 2) (hk2 : H g.2 ≤ 2) (hlf : f.1.length ≤ 8) (hlg : g.1.length ≤ 8) :
    run (n + 3) 27 [formV f, .lit (.int .i64 v), formV g] = some (formV (addV (rst f.1 v) (sclV g.1 (cof f.1 v)), f.2 + g.2 * cof f.1 v)) := by
  have hc : H (cof f.1 v) ≤ 2 := cof_H (fun t ht => (hF t ht).2) (by omega)
  have hn := H_neg (cof f.1 v)
  have hm := H_mul g.2 (cof f.1 v)
  have K1 := fco_c (n := n + 2) (f := f) (v := v) (by omega)
  have K3 := plus_c (n := n + 1) (f := f) (v := v) (c := -(cof f.1 v)) (hF.mono (by omega)) (by omega) (by omega)
  rw [rst_plus hS] at K3
  have K4 := scale_c (n := n + 1) (f := g) (c := cof f.1 v) (hG.mono (by omega)) (by omega) (by omega) (by omega)
  have hr := rst_len f.1 v
  have hs := sclV_len (cof f.1 v) g.1
  have tR : TmB 2 (rst f.1 v) := fun t ht => hF t (rst_mem ht)
  have K5 := add_c (n := n) (f := (rst f.1 v, f.2)) (g := (sclV g.1 (cof f.1 v), g.2 * cof f.1 v)) (m := 2) (b := 4) (hG.scl hc) (by dsimp only; omega) tR (by dsimp only; omega) (by dsimp only; omega) (by dsimp only; omega) (by dsimp only; omega)
  exact fsb_f1 K1 (by omega) K3 K4 K5
theorem evS_set {X : List Rat} {k : Nat} {a : Rat} (hk : k < X.length) : ∀ {F : List (Int × Rat)}, Srt F → (∀ t ∈ F, 0 ≤ t.1) → evS (X.set k a) F = evS X (rst F k) + cof F k * a
  | [], _, _ => by
    have e : rst [] (k : Int) = [] := rfl
    rw [e, cof_nil, evS, evS]; grind
  | t :: F, h, h0 => by
    have ih := evS_set (a := a) hk h.tail fun u hu => h0 u (by simp [hu])
    have ht := h0 t (by simp)
    by_cases e : t.1 = (k : Int)
    · have e1 : (X.set k a).getD t.1.toNat 0 = a := by
        rw [e, Int.toNat_natCast, List.getD_eq_getElem?_getD, List.getElem?_set_self hk]; rfl
      have e2 : cof F (k : Int) = 0 := h.head.cof (by omega)
      rw [evS, ih, rst_eq e, cof_hd e.symm, e1, e2]; grind
    · have e1 : (X.set k a).getD t.1.toNat 0 = X.getD t.1.toNat 0 := by
        rw [List.getD_eq_getElem?_getD, List.getElem?_set_ne (by omega), ← List.getD_eq_getElem?_getD]
      rw [evS, ih, rst_ne e, cof_tl (by omega), evS, e1]; grind
theorem InR.rst {k : Nat} {v : Int} {F : List (Int × Rat)} (h : InR k F) : InR k (rst F v) := fun t ht => h t (rst_mem ht)
theorem lb_law {f g : FormR} {xs : List Raw} (hf : LimF f) (hg : LimF g) (hx : ∀ r ∈ xs, LimR2 r) : Con Tryz.prog 6 [frV f, frV g, .sl 3 (xs.map rawC)] (.lit (.bool true)) := by
  rcases small_or 11 hf with h | ⟨h, F, e, hF⟩
  · exact lBR_con (n := 0) (lBR_f1 h rfl)
  rcases small_or 11 hg with h2 | ⟨h2, G, e2, hG⟩
  · exact lBR_con (n := 0) (lBR_f2 h rfl h2 rfl)
  rcases point_or 12 hx with p | ⟨p, X, eX, hX, hXl, hXb⟩
  · exact lBR_con (n := 0) (lBR_f3 h rfl h2 rfl p rfl)
  rw [e] at h ⊢
  rw [e2] at h2 ⊢
  rw [eX] at p ⊢
  have lF := hF.l
  have lG := hG.l
  have kF := hF.k
  have kG := hG.k
  have sF := hF.ok.srt.1
  have sG := hG.ok.srt.1
  have tF : TmB 2 F.1 := fun t ht => ⟨sF.2 t ht, hF.t t ht⟩
  have tG : TmB 2 G.1 := fun t ht => ⟨sG.2 t ht, hG.t t ht⟩
  have nF : ∀ t ∈ F.1, 0 ≤ t.1 := fun t ht => (hF.ok.srt.2 t ht).1
  have C4 := lc7_f1 (n := 12) (a0 := F) (by omega)
  have C5 := lc7_f1 (n := 12) (a0 := G) (by omega)
  have E2 := (eval_c (n := 12) (f := G) (X := X) (a := 2) (b := 2) (k := 2) hG.t hXb kG (by omega) (by omega) (by omega) (by omega))
  refine lBC_con (n := 0) (lBC_f5 h rfl h2 rfl p rfl ?_)
  have L := loopG_all (O := lBCT 0) (P := Tryz.prog) (m := 0) (N := 93) (lives := livesOf 6) (r := 6) (C := lBC_C6) (M := 8) (enc := lBC_h6 F G X) (p := fun _ => true) (exN := .exit 0) (exE := .ret) (out := lBC_o6b) (outE := lBC_o6a) (by omega) (fun h => by cases h) (fun h => by cases h)
    (fun i hi _ => ⟨fun _ => by
      have C1 : (i : Int) < 8 := by omega
      have W : InI ((i : Int) + 1) := ⟨by omega, by omega⟩
      have hc : H (cof F.1 i) ≤ 2 := cof_H hF.t (by omega)
      have hgm := H_mul G.2 (cof F.1 i)
      have hs := H_add F.2 (G.2 * cof F.1 i)
      have A := lsb_c (n := 10) (f := F) (g := G) (v := i) (b := 2) sF hF.t hG.t (by omega) (by omega) (by omega) (by omega) (by omega) (by omega)
      rw [merge_add (rst_srt sF) sG] at A
      have D := fsb_c (n := 9) (f := F) (g := G) (v := i) sF tF tG kF kG lF lG
      have tR : TmB 2 (rst F.1 i) := fun t ht => tF t (rst_mem ht)
      have tS := tG.scl hc
      have tA := tR.add tS
      have lR := rst_len F.1 i
      have lS := sclV_len (cof F.1 i) G.1
      have lA := addV_len (sclV G.1 (cof F.1 i)) (rst F.1 i)
      have bA : BdF 1000000 (addV (rst F.1 i) (sclV G.1 (cof F.1 i)), F.2 + G.2 * cof F.1 i) := (TmB.mono tA (by omega)).bd (by dsimp only; omega) (by dsimp only; omega)
      have q1 := feq_c (n := 12) (bA.mono (by omega)) (bA.mono (by omega))
      by_cases i2 : InR X.length G.1
      · obtain ⟨r2, o2⟩ := evR_in i2
        have E2 := E2
        rw [r2] at E2
        have B2 := E2.2 _ o2
        by_cases hi2 : X.length ≤ i
        · exact lBC_r6_2 C1 C4 C5 A D q1 (tv_t rfl) E2.1 rfl (by omega) W
        have hyb : ∀ q ∈ X.set i (G.2 + evS X G.1), H q ≤ 100 := fun q hq => by
          rcases List.mem_or_eq_of_mem_set hq with h9 | h9
          · have := hXb q h9; omega
          · subst h9; omega
        have E1 := (eval_c (n := 12) (f := F) (X := X.set i (G.2 + evS X G.1)) (a := 2) (b := 100) (k := 2) hF.t hyb kF (by rw [List.length_set]; omega) (by omega) (by omega) (by omega))
        by_cases i1 : InR X.length F.1
        · have i1' : InR (X.set i (G.2 + evS X G.1)).length F.1 := by rw [List.length_set]; exact i1
          obtain ⟨r1, o1⟩ := evR_in i1'
          rw [r1] at E1
          have B1 := E1.2 _ o1
          have i3 : InR X.length (addV (rst F.1 i) (sclV G.1 (cof F.1 i)), F.2 + G.2 * cof F.1 i).1 := i1.rst.add i2.scl
          obtain ⟨r3, o3⟩ := evR_in i3
          have E3 := pev_c (n := 12) (f := (addV (rst F.1 i) (sclV G.1 (cof F.1 i)), F.2 + G.2 * cof F.1 i)) (X := X) (a := 100) (b := 2) (k := 10) (fun t ht => Nat.le_trans (tA t ht).2 (by omega)) hXb (by dsimp only; omega) (by omega) (by dsimp only; omega) (by dsimp only; omega) (by omega)
          rw [r3] at E3
          have ev : (addV (rst F.1 i) (sclV G.1 (cof F.1 i)), F.2 + G.2 * cof F.1 i).2 + evS X (addV (rst F.1 i) (sclV G.1 (cof F.1 i)), F.2 + G.2 * cof F.1 i).1 = F.2 + evS (X.set i (G.2 + evS X G.1)) F.1 := by
            dsimp only
            rw [evS_add (rst_srt sF) (scl_srt sG).1, evS_scl, evS_set (by omega) sF nF]; grind
          rw [ev] at E3
          exact lBC_r6_3 C1 C4 C5 A D q1 (tv_t rfl) E2.1 rfl (by omega) (by omega) (by omega) E1.1 E3 rfl rfl (by omega) (by omega) rfl W
        · have i1' : ¬ InR (X.set i (G.2 + evS X G.1)).length F.1 := by rw [List.length_set]; exact i1
          rw [evR_out i1'] at E1
          have E3 := pev_c (n := 12) (f := (addV (rst F.1 i) (sclV G.1 (cof F.1 i)), F.2 + G.2 * cof F.1 i)) (X := X) (a := 100) (b := 2) (k := 10) (fun t ht => Nat.le_trans (tA t ht).2 (by omega)) hXb (by dsimp only; omega) (by omega) (by dsimp only; omega) (by dsimp only; omega) (by omega)
          by_cases i3 : InR X.length (addV (rst F.1 i) (sclV G.1 (cof F.1 i)), F.2 + G.2 * cof F.1 i).1
          · rw [(evR_in i3).1] at E3
            exact lBC_r6_4 C1 C4 C5 A D q1 (tv_t rfl) E2.1 rfl (by omega) (by omega) (by omega) E1.1 E3 (by omega) W
          · rw [evR_out i3] at E3
            exact lBC_r6_4 C1 C4 C5 A D q1 (tv_t rfl) E2.1 rfl (by omega) (by omega) (by omega) E1.1 E3 (by omega) W
      · have E2 := E2
        rw [evR_out i2] at E2
        exact lBC_r6_1 C1 C4 C5 A D q1 (tv_t rfl) E2.1 (by omega) W, fun h => by cases h⟩)
    (lBC_x6_4 (by omega))
  rw [if_pos (fun i _ => rfl)] at L
  exact L
end Go.Proofs.YthkkmokbjmempaaGreatDoor
