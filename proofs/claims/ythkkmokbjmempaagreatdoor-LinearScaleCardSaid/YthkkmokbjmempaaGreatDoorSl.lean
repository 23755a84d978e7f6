/- relucertlaw07.LinearScale returns true. -/
import Derived.Test.YthkkmokbjmempaaGreatDoorHX
import Derived.Test.YthkkmokbjmempaaGreatDoorGq
import Derived.Test.YthkkmokbjmempaaGreatDoorLa
import Derived.Test.YthkkmokbjmempaaGreatDoorLX
import Derived.Test.YthkkmokbjmempaaGreatDoorZf
set_option linter.all false
set_option linter.all false
set_option maxRecDepth 100000
set_option maxHeartbeats 6400000
namespace Go.Proofs.YthkkmokbjmempaaGreatDoor
open Go.RowKit
attribute [local irreducible] run runL loopG exec lSR lSC

theorem raw_of {c : Raw} {X : List Rat} (h : [c].map rawC = X.map ratC) : ∃ q, X = [q] ∧ c = rawQ q := by
  match X, h with
  | [], h => simp at h
  | a :: b :: l, h => simp at h
  | [q], h =>
    refine ⟨q, rfl, ?_⟩
    simp only [List.map_cons, List.map_nil, rawC, ratC, List.cons.injEq, AV.lit.injEq, Value.bool.injEq, and_true] at h
    obtain ⟨h1, h2, h3⟩ := h
    have inj : ∀ {l m : List Nat}, natA l = natA m → l = m := fun {l m} e => by
      unfold natA at e
      simp only [AV.sl.injEq, true_and] at e
      have e2 := congrArg (List.map (fun (x : List AV) => match x with | [.lit (.int .u32 z)] => z.toNat | _ => 0)) e
      simpa [Function.comp_def] using e2
    obtain ⟨s, l1, l2⟩ := c
    dsimp only at h1 h2 h3
    rw [h1, inj h2, inj h3]
theorem ls_law {f : FormR} {c : Raw} {xs : List Raw} (hf : LimF f) (hc : LimR2 c) (hx : ∀ r ∈ xs, LimR2 r) : Con Tryz.prog 8 [frV f, .agg (rawC c), .sl 3 (xs.map rawC)] (.lit (.bool true)) := by
  rcases small_or 11 hf with h | ⟨h, F, e, hF⟩
  · exact lSR_con (n := 0) (lSR_f1 h rfl)
  rcases point_or 12 hx with p | ⟨p, X, eX, hX, hXl, hXb⟩
  · exact lSR_con (n := 0) (lSR_f2 h rfl p rfl)
  rcases point_or 12 (xs := [c]) (fun r hr => by rw [List.mem_singleton] at hr; subst hr; exact hc) with p2 | ⟨p2, Y, eY, hY, hYl, hYb⟩
  · exact lSR_con (n := 0) (lSR_f3 h rfl p rfl p2 rfl)
  obtain ⟨q, rfl, rfl⟩ := raw_of eY
  rw [e] at h ⊢
  rw [eX] at p ⊢
  have kc : H q ≤ 2 := hYb q (by simp)
  have lF := hF.l
  have kF := hF.k
  have tF : TmB 2 F.1 := fun t ht => ⟨hF.ok.srt.1.2 t ht, hF.t t ht⟩
  have sF := hF.ok.srt.1
  have hs := H_mul F.2 q
  have C4 := lc7_f1 (n := 12) (a0 := F) (by omega)
  have A := pscl_c (n := 10) (f := F) (c := q) (b := 2) hF.t (by omega) (by omega) (by omega) (by omega)
  rw [merge_scl] at A
  have fA := scale_c (n := 11) (f := F) (c := q) (tF.mono (by omega)) (by omega) (by omega) (by omega)
  have tS := tF.scl kc
  have lS : (sclV F.1 q).length ≤ 8 := Nat.le_trans (sclV_len _ _) lF
  have bS : BdF 1000000 (sclV F.1 q, F.2 * q) := (TmB.mono tS (by omega)).bd (by dsimp only; omega) (by dsimp only; omega)
  have q1 := feq_c (n := 12) (bS.mono (by omega)) (bS.mono (by omega))
  have E1 := (eval_c (n := 12) (f := F) (X := X) (a := 2) (b := 2) (k := 2) hF.t hXb kF (by omega) (by omega) (by omega) (by omega))
  by_cases i1 : InR X.length F.1
  · obtain ⟨r1, o1⟩ := evR_in i1
    rw [r1] at E1
    have B1 := E1.2 _ o1
    obtain ⟨r3, o3⟩ := evR_in (f := (sclV F.1 q, F.2 * q)) (show InR X.length (sclV F.1 q, F.2 * q).1 from i1.scl)
    have E3 := pev_c (n := 12) (f := (sclV F.1 q, F.2 * q)) (X := X) (a := 4) (b := 2) (k := 10) (fun t ht => (tS t ht).2) hXb (by dsimp only; omega) (by omega) (by dsimp only; omega) (by dsimp only; omega) (by omega)
    rw [r3] at E3
    have ev : (sclV F.1 q, F.2 * q).2 + evS X (sclV F.1 q, F.2 * q).1 = (F.2 + evS X F.1) * q := by
      dsimp only
      rw [evS_scl]; grind
    rw [ev] at E3
    have hh := H_mul (F.2 + evS X F.1) q
    have R := lSC_f6 (n := 0) h rfl p rfl p2 rfl C4 A E1.1 fA q1 (tv_t rfl) rfl E3 rfl (by omega) (by omega) (by omega) (by omega)
    rw [decide_eq_true rfl] at R
    exact lSC_con R
  · rw [evR_out i1] at E1
    exact lSC_con (lSC_f5 (n := 0) h rfl p rfl p2 rfl C4 A E1.1 fA q1 (tv_t rfl) (by omega))
end Go.Proofs.YthkkmokbjmempaaGreatDoor
