/- relucertlaw07.LinearEval returns true. -/
import Derived.Test.YthkkmokbjmempaaGreatDoorGn
import Derived.Test.YthkkmokbjmempaaGreatDoorZd
set_option linter.all false
set_option linter.all false
set_option maxRecDepth 100000
set_option maxHeartbeats 6400000
namespace Go.Proofs.YthkkmokbjmempaaGreatDoor
open Go.RowKit
attribute [local irreducible] run runL loopG exec lER lEC

theorem le_law {f : FormR} {xs : List Raw} {v : Int} (hf : LimF f) (hx : ∀ r ∈ xs, LimR2 r) : Con Tryz.prog 10 [frV f, .sl 3 (xs.map rawC), .lit (.int .i64 v)] (.lit (.bool true)) := by
  rcases small_or 11 hf with h | ⟨h, F, e, hF⟩
  · exact lER_con (n := 0) (lER_f1 h rfl)
  rcases point_or 12 hx with p | ⟨p, X, eX, hX, hXl, hXb⟩
  · exact lER_con (n := 0) (lER_f2 h rfl p rfl)
  rw [e] at h ⊢
  rw [eX] at p ⊢
  have hl := hF.l
  have hm : F.1.length * (2 + 2 + 1) ≤ 40 := by omega
  have A := eval_c (n := 12) (f := F) (X := X) (a := 2) (b := 2) (k := 2) hF.t hXb hF.k (by omega) (by omega) (by omega) (by omega)
  have B := pev_c (n := 12) (f := F) (X := X) (a := 2) (b := 2) (k := 2) hF.t hXb hF.k (by omega) (by omega) (by omega) (by omega)
  obtain ⟨s, z, hs, hsB⟩ := evR_form (B := 100) (fun s hs => Nat.le_trans (A.2 s hs) (by omega)) (by omega)
  rw [hs] at A B
  have hc : BdF 17179869184 F := ⟨by omega, fun t ht => Nat.le_trans (hF.t t ht) (by omega), Nat.le_trans hF.k (by omega)⟩
  have C := lco_c (n := 9) (v := v) hc
  have D := fco_c (n := 12) (f := F) (v := v) (by omega)
  have hcB : H (cof F.1 v) ≤ 2 := cof_H hF.t (by omega)
  have R := lEC_f3 (n := 0) (a2 := v) h rfl p rfl B A.1 rfl (by omega) (by omega) rfl C D (by omega) (by omega)
  rw [decide_eq_true rfl] at R
  exact lEC_con R
end Go.Proofs.YthkkmokbjmempaaGreatDoor
