/- relucertlaw07.LinearAdd returns true. -/
import Derived.Test.YthkkmokbjmempaaGreatDoorHX
import Derived.Test.YthkkmokbjmempaaGreatDoorGq
import Derived.Test.YthkkmokbjmempaaGreatDoorLa
import Derived.Test.YthkkmokbjmempaaGreatDoorLX
import Derived.Test.YthkkmokbjmempaaGreatDoorZe
set_option linter.all false
set_option linter.all false
set_option maxRecDepth 100000
set_option maxHeartbeats 6400000
namespace Go.Proofs.YthkkmokbjmempaaGreatDoor
open Go.RowKit
attribute [local irreducible] run runL loopG exec lAR lAC

theorem SmF7.tm {F : Form} (h : SmF7 F) : TmB 2 F.1 := fun t ht => ⟨h.ok.srt.1.2 t ht, h.t t ht⟩
theorem SmF7.bd {F : Form} (h : SmF7 F) {b : Nat} (hb : 2 ≤ b) : BdF b F := ⟨by have := h.l; omega, fun t ht => Nat.le_trans (h.t t ht) hb, Nat.le_trans h.k hb⟩
theorem ofm : ofQ (-1) = -1 := by decide +kernel
theorem H_m1 : H (-1) ≤ 1 := by decide +kernel
theorem la_law {f g : FormR} {xs : List Raw} (hf : LimF f) (hg : LimF g) (hx : ∀ r ∈ xs, LimR2 r) : Con Tryz.prog 7 [frV f, frV g, .sl 3 (xs.map rawC)] (.lit (.bool true)) := by
  rcases small_or 11 hf with h | ⟨h, F, e, hF⟩
  · exact lAR_con (n := 0) (lAR_f1 h rfl)
  rcases small_or 11 hg with h2 | ⟨h2, G, e2, hG⟩
  · exact lAR_con (n := 0) (lAR_f2 h rfl h2 rfl)
  rcases point_or 12 hx with p | ⟨p, X, eX, hX, hXl, hXb⟩
  · exact lAR_con (n := 0) (lAR_f3 h rfl h2 rfl p rfl)
  rw [e] at h ⊢
  rw [e2] at h2 ⊢
  rw [eX] at p ⊢
  have lF := hF.l
  have lG := hG.l
  have tF := hF.tm
  have tG := hG.tm
  have kF := hF.k
  have kG := hG.k
  have sF := hF.ok.srt.1
  have sG := hG.ok.srt.1
  have hs := H_add F.2 G.2
  have hm1 := H_m1
  have hgm := H_mul G.2 (-1)
  have hd := H_add F.2 (G.2 * (-1))
  have C4 := lc7_f1 (n := 12) (a0 := F) (by omega)
  have C5 := lc7_f1 (n := 12) (a0 := G) (by omega)
  have A := padd_c (n := 10) (f := F) (g := G) (b := 2) hF.t hG.t (by omega) (by omega) (by omega) (by omega) (by omega)
  have D := psub_c (n := 10) (f := F) (g := G) (b := 2) hF.t hG.t (by omega) (by omega) (by omega) (by omega) (by omega)
  rw [merge_add sF sG, scl_one sG] at A
  rw [merge_add sF sG] at D
  have fA := add_c (n := 10) (f := F) (g := G) (m := 2) (b := 2) tG (by omega) tF (by omega) (by omega) (by omega) (by omega)
  have sc := scale_c (n := 10) (f := G) (c := ofQ (-1)) (tG.mono (by omega)) (by omega) (by omega) (by rw [ofm]; omega)
  rw [ofm] at sc
  have lS : (sclV G.1 (-1)).length ≤ 8 := Nat.le_trans (sclV_len _ _) lG
  have tS := tG.scl hm1
  have fS := add_c (n := 9) (f := F) (g := (sclV G.1 (-1), G.2 * (-1))) (m := 2) (b := 3) tS (by dsimp only; omega) tF (by omega) (by dsimp only; omega) (by omega) (by dsimp only; omega)
  have fD := fsu_f1 (n := 9) (a0 := F) (a1 := G) (by rw [ofm]; exact sc) fS
  have eD : F.2 + G.2 * (-1) = F.2 - G.2 := by grind
  dsimp only at fD
  rw [eD] at fD hd
  have tA := tF.add tG
  have tD := tF.add tS
  have lA := addV_len G.1 F.1
  have lD := addV_len (sclV G.1 (-1)) F.1
  have bA : BdF 1000000 (addV F.1 G.1, F.2 + G.2) := (TmB.mono tA (by omega)).bd (by dsimp only; omega) (by dsimp only; omega)
  have bD : BdF 1000000 (addV F.1 (sclV G.1 (-1)), F.2 - G.2) := (TmB.mono tD (by omega)).bd (by dsimp only; omega) (by dsimp only; omega)
  have q1 := feq_c (n := 12) (bA.mono (by omega)) (bA.mono (by omega))
  have q2 := feq_c (n := 12) (bD.mono (by omega)) (bD.mono (by omega))
  have q3 := leq_c (n := 10) (hF.bd (by omega)) (hG.bd (by omega))
  have q4 := feq_c (n := 12) (hF.bd (by omega)) (hG.bd (by omega))
  have q5 := leq_c (n := 10) (f := F) (g := F) (hF.bd (by omega)) (hF.bd (by omega))
  have E1 := (eval_c (n := 12) (f := F) (X := X) (a := 2) (b := 2) (k := 2) hF.t hXb kF (by omega) (by omega) (by omega) (by omega))
  have E2 := (eval_c (n := 12) (f := G) (X := X) (a := 2) (b := 2) (k := 2) hG.t hXb kG (by omega) (by omega) (by omega) (by omega))
  by_cases i1 : InR X.length F.1
  · obtain ⟨r1, o1⟩ := evR_in i1
    rw [r1] at E1
    have B1 := E1.2 _ o1
    by_cases i2 : InR X.length G.1
    · obtain ⟨r2, o2⟩ := evR_in i2
      rw [r2] at E2
      have B2 := E2.2 _ o2
      have i3 : InR X.length (addV F.1 G.1, F.2 + G.2).1 := i1.add i2
      obtain ⟨r3, o3⟩ := evR_in (f := (addV F.1 G.1, F.2 + G.2)) i3
      have E3 := pev_c (n := 12) (f := (addV F.1 G.1, F.2 + G.2)) (X := X) (a := 100) (b := 2) (k := 10) (fun t ht => Nat.le_trans (tA t ht).2 (by omega)) hXb (by dsimp only; omega) (by omega) (by dsimp only; omega) (by dsimp only; omega) (by omega)
      rw [r3] at E3
      have ev : (addV F.1 G.1, F.2 + G.2).2 + evS X (addV F.1 G.1, F.2 + G.2).1 = F.2 + evS X F.1 + (G.2 + evS X G.1) := by
        dsimp only
        rw [evS_add sF sG]; grind
      rw [ev] at E3
      have hh := H_add (F.2 + evS X F.1) (G.2 + evS X G.1)
      have R := lAC_f10 (n := 0) h rfl h2 rfl p rfl C4 C5 A D fA q1 (tv_t rfl) fD q2 (tv_t rfl) q3 q4 rfl q5 (tv_t rfl) E1.1 E2.1 rfl rfl E3 rfl (by omega) (by omega) (by omega) (by omega)
      rw [decide_eq_true rfl] at R
      exact lAC_con R
    · rw [evR_out i2] at E2
      exact lAC_con (lAC_f9 (n := 0) h rfl h2 rfl p rfl C4 C5 A D fA q1 (tv_t rfl) fD q2 (tv_t rfl) q3 q4 rfl q5 (tv_t rfl) E1.1 E2.1 rfl (by omega))
  · rw [evR_out i1] at E1
    by_cases i2 : InR X.length G.1
    · rw [(evR_in i2).1] at E2
      exact lAC_con (lAC_f8 (n := 0) h rfl h2 rfl p rfl C4 C5 A D fA q1 (tv_t rfl) fD q2 (tv_t rfl) q3 q4 rfl q5 (tv_t rfl) E1.1 E2.1 (by omega))
    · rw [evR_out i2] at E2
      exact lAC_con (lAC_f8 (n := 0) h rfl h2 rfl p rfl C4 C5 A D fA q1 (tv_t rfl) fD q2 (tv_t rfl) q3 q4 rfl q5 (tv_t rfl) E1.1 E2.1 (by omega))
end Go.Proofs.YthkkmokbjmempaaGreatDoor
