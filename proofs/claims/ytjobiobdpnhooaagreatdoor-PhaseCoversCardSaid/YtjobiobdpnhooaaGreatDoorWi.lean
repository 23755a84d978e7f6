/- Walks: relucertref21.Valid, relucertref19.Inside, relucertref21.Fits. -/
import Derived.Test.YtjobiobdpnhooaaGreatDoorUe
set_option linter.all false
set_option linter.all false
set_option maxRecDepth 100000
set_option maxHeartbeats 6400000
namespace Go.Proofs.YtjobiobdpnhooaaGreatDoor
open Go.RowKit

/-! relucertref21.Valid, level 4 -/
theorem vq_f1 {n : Nat} {a0 : TQuery} {r : Bool} {r2 : Bool} {r3 : Int} {r4 : Bool} (K1 : run (n + 3) 55 [.agg [.lit (.int .i64 (a0.Graph.Inputs)), .sl 4 (a0.Graph.Units.map formC), .sl 4 (a0.Graph.Outputs.map formC)]] = some (.lit (.bool r))) (C2 : r = true) (K3 : run (n + 3) 56 [.agg [.sl 3 (a0.Region.Lo.map ratC), .sl 3 (a0.Region.Hi.map ratC), .sl 4 (a0.Region.Rows.map formC)], .lit (.int .i64 (a0.Graph.Inputs))] = some (.lit (.bool r2))) (C4 : r2 = true) (K5 : run (n + 3) 58 [.agg [.lit (.int .i64 (a0.Graph.Inputs)), .sl 4 (a0.Graph.Units.map formC), .sl 4 (a0.Graph.Outputs.map formC)]] = some (.lit (.int .i64 r3))) (K6 : run (n + 3) 57 [formV a0.Goal, .lit (.int .i64 r3)] = some (.lit (.bool r4))) :
    run (n + 4) 25 [queryV a0] = some (.lit (.bool r4)) := by
  simp only [formV] at K6
  unfold run fnP
  simp +decide [Tryz.f25, K1, C2, K3, C4, K5, K6]
theorem vq_f2 {n : Nat} {a0 : TQuery} {r : Bool} {r2 : Bool} (K1 : run (n + 3) 55 [.agg [.lit (.int .i64 (a0.Graph.Inputs)), .sl 4 (a0.Graph.Units.map formC), .sl 4 (a0.Graph.Outputs.map formC)]] = some (.lit (.bool r))) (C2 : r = true) (K3 : run (n + 3) 56 [.agg [.sl 3 (a0.Region.Lo.map ratC), .sl 3 (a0.Region.Hi.map ratC), .sl 4 (a0.Region.Rows.map formC)], .lit (.int .i64 (a0.Graph.Inputs))] = some (.lit (.bool r2))) (C4 : r2 = false) :
    run (n + 4) 25 [queryV a0] = some (.lit (.bool false)) := by
  unfold run fnP
  simp +decide [Tryz.f25, K1, C2, K3, C4]
theorem vq_f3 {n : Nat} {a0 : TQuery} {r : Bool} (K1 : run (n + 3) 55 [.agg [.lit (.int .i64 (a0.Graph.Inputs)), .sl 4 (a0.Graph.Units.map formC), .sl 4 (a0.Graph.Outputs.map formC)]] = some (.lit (.bool r))) (C2 : r = false) :
    run (n + 4) 25 [queryV a0] = some (.lit (.bool false)) := by
  unfold run fnP
  simp +decide [Tryz.f25, K1, C2]
/-! relucertref19.Inside, level 0 -/
noncomputable def is_C3 : Code := (loopsOf (bodyOf Tryz.f8)).getD 0 .skip
def is_h3 (a0 : TRegion) (a1 : List Int) (out_3 : List Rat) (i_3 : Nat) : St :=
  ⟨[(1, .sl 1 (a1.map intU8C)), (2, .ptr 0 0), (5, .own 1 out_3.length), (6, .lit (.int .i64 (i_3 : Int)))],
   [(0, some (.box 36 [.sl 3 (a0.Lo.map ratC), .sl 3 (a0.Hi.map ratC), .sl 4 (a0.Rows.map formC)] false)),
    (1, some (.row 26 3 (out_3.map ratC) 0))], 2⟩
def is_o3a (out_3 : List Rat) : St :=
  ⟨[(5, .own 0 out_3.length)],
   [(0, some (.row 26 3 (out_3.map ratC) 0))], 1⟩
theorem is_r3_1 {n : Nat} {a0 : TRegion} {a1 : List Int} {i_3 : Nat} {x11 : Int} {x12 : Rat} {x13 : Rat} {out_3 : List Rat} (C1 : (i_3 : Int) < (a0.Lo.length : Int)) (C2 : (i_3 : Int) < (a1.length : Int)) (E3 : a1[i_3]? = some x11) (W4 : InI (x11.tmod 9)) (W5 : InI (x11.tmod 9)) (E6 : a0.Lo[i_3]? = some x12) (E7 : a0.Hi[i_3]? = some x13) (B8a : H x13 ≤ 17179869184) (B8b : H x12 ≤ 17179869184) (B9a : H (fracQ (x11.tmod 9) 8) ≤ 17179869184) (B9b : H (x13 - x12) ≤ 17179869184) (B10b : H ((fracQ (x11.tmod 9) 8) * (x13 - x12)) ≤ 17179869184) (M11 : out_3.length + 1 ≤ 100000000) (W12 : InI ((i_3 : Int) + 1)) :
    Cont 0 (exec Tryz.prog (tab n) 0 55 (livesOf 8) big is_C3) (livesOf 8 3) (is_h3 a0 a1 out_3 i_3) (is_h3 a0 a1 (out_3 ++ [x12 + ((fracQ (x11.tmod 9) 8) * (x13 - x12))]) (i_3 + 1)) := by
  have C1_ : i_3 < a0.Lo.length := by omega
  have C2_ : i_3 < a1.length := by omega
  obtain ⟨EL3, EG3⟩ := List.getElem?_eq_some_iff.1 E3
  have W4_ : IntKind.i64.wrap (x11.tmod 9) = x11.tmod 9 := wr64 W4.1 W4.2
  have K5 := r_frac (x := x11.tmod 9) (y := 8) W5 (by omega) (by omega)
  obtain ⟨EL6, EG6⟩ := List.getElem?_eq_some_iff.1 E6
  obtain ⟨EL7, EG7⟩ := List.getElem?_eq_some_iff.1 E7
  have K8 := r_sub (p := x13) (q := x12) B8a B8b
  have K9 := r_mul (p := fracQ (x11.tmod 9) 8) (q := x13 - x12) B9a B9b
  have K10 := r_add (p := x12) (q := (fracQ (x11.tmod 9) 8) * (x13 - x12)) B8b B10b
  have M11_ : ∀ b, b ≤ 10000 → roomy (out_3.length + 1) b = true := fun b hb => roomy_s M11 hb
  have W12_ : IntKind.i64.wrap ((i_3 : Int) + 1) = (i_3 : Int) + 1 := wr64 W12.1 W12.2
  unfold Cont
  simp +decide [is_h3, loopsOf, Tryz.f8, is_C3, C1, C1_, C2, C2_, EL3, EG3, E3, W4_, K5, EL6, EG6, E6, EL7, EG7, E7, K8, K9, K10, M11_, W12_]
theorem is_r3_2 {n : Nat} {a0 : TRegion} {a1 : List Int} {i_3 : Nat} {x14 : Rat} {x15 : Rat} {out_3 : List Rat} (C1 : (i_3 : Int) < (a0.Lo.length : Int)) (C2 : ¬ (i_3 : Int) < (a1.length : Int)) (E4 : a0.Lo[i_3]? = some x14) (E5 : a0.Hi[i_3]? = some x15) (B6a : H x15 ≤ 17179869184) (B6b : H x14 ≤ 17179869184) (B7a : H (fracQ 0 8) ≤ 17179869184) (B7b : H (x15 - x14) ≤ 17179869184) (B8b : H ((fracQ 0 8) * (x15 - x14)) ≤ 17179869184) (M9 : out_3.length + 1 ≤ 100000000) (W10 : InI ((i_3 : Int) + 1)) :
    Cont 0 (exec Tryz.prog (tab n) 0 55 (livesOf 8) big is_C3) (livesOf 8 3) (is_h3 a0 a1 out_3 i_3) (is_h3 a0 a1 (out_3 ++ [x14 + ((fracQ 0 8) * (x15 - x14))]) (i_3 + 1)) := by
  have C1_ : i_3 < a0.Lo.length := by omega
  have C2_ : ¬ i_3 < a1.length := by omega
  have K3 := r_frac (x := 0) (y := 8) (by omega) (by omega) (by omega)
  obtain ⟨EL4, EG4⟩ := List.getElem?_eq_some_iff.1 E4
  obtain ⟨EL5, EG5⟩ := List.getElem?_eq_some_iff.1 E5
  have K6 := r_sub (p := x15) (q := x14) B6a B6b
  have K7 := r_mul (p := fracQ 0 8) (q := x15 - x14) B7a B7b
  have K8 := r_add (p := x14) (q := (fracQ 0 8) * (x15 - x14)) B6b B8b
  have M9_ : ∀ b, b ≤ 10000 → roomy (out_3.length + 1) b = true := fun b hb => roomy_s M9 hb
  have W10_ : IntKind.i64.wrap ((i_3 : Int) + 1) = (i_3 : Int) + 1 := wr64 W10.1 W10.2
  unfold Cont
  simp +decide [is_h3, loopsOf, Tryz.f8, is_C3, C1, C1_, C2, C2_, K3, EL4, EG4, E4, EL5, EG5, E5, K6, K7, K8, M9_, W10_]
theorem is_x3_1 {n : Nat} {a0 : TRegion} {a1 : List Int} {i_3 : Nat} {out_3 : List Rat} (C1 : ¬ (i_3 : Int) < (a0.Lo.length : Int)) :
    Leave 0 (exec Tryz.prog (tab n) 0 55 (livesOf 8) big is_C3) (livesOf 8 (outOf 3)) (is_h3 a0 a1 out_3 i_3) (.exit 0) (is_o3a out_3) := by
  have C1_ : ¬ i_3 < a0.Lo.length := by omega
  unfold Leave
  simp +decide [is_h3, loopsOf, Tryz.f8, is_o3a, is_C3, C1, C1_]
theorem is_f1 {n : Nat} {a0 : TRegion} {a1 : List Int} {out_3 : List Rat} (L1 : loopG Tryz.prog (tab n) 0 55 (livesOf 8) 3 is_C3 (is_h3 a0 a1 [] 0) = some (.exit 0, is_o3a out_3)) :
    run n 8 [regionV a0, .sl 1 (a1.map intU8C)] = some (.sl 3 (out_3.map ratC)) := by
  unfold run fnP
  simp +decide [Tryz.f8]
  rw [loopX_G (C' := is_C3) (e := (is_h3 a0 a1 [] 0)) ?_ ?_, L1]
  rotate_left
  · kernel_rfl
  · simp +decide [is_h3]
  simp +decide [is_o3a]
/-! relucertref21.Fits, level 5 -/
theorem ft_f1 {n : Nat} {a0 : TQuery} {a1 : TDecision} {r : Bool} {r2 : Bool} (K1 : run (n + 4) 25 [queryV a0] = some (.lit (.bool r))) (C2 : r = true) (K3 : run (n + 4) 26 [queryV a0, decisionV a1] = some (.lit (.bool r2))) :
    run (n + 5) 9 [queryV a0, decisionV a1] = some (.lit (.bool r2)) := by
  simp only [queryV] at K1
  simp only [queryV, decisionV] at K3
  unfold run fnP
  simp +decide [Tryz.f9, K1, C2, K3]
theorem ft_f2 {n : Nat} {a0 : TQuery} {a1 : TDecision} {r : Bool} (K1 : run (n + 4) 25 [queryV a0] = some (.lit (.bool r))) (C2 : r = false) :
    run (n + 5) 9 [queryV a0, decisionV a1] = some (.lit (.bool false)) := by
  simp only [queryV] at K1
  unfold run fnP
  simp +decide [Tryz.f9, K1, C2]
end Go.Proofs.YtjobiobdpnhooaaGreatDoor
