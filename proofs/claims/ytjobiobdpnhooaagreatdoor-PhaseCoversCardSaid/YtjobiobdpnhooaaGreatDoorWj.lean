/- Walks: relucertref15.Values, relucertref15.forms, relucertref15.Pre. -/
import Derived.Test.YtjobiobdpnhooaaGreatDoorUe
set_option linter.all false
set_option linter.all false
set_option maxRecDepth 100000
set_option maxHeartbeats 6400000
namespace Go.Proofs.YtjobiobdpnhooaaGreatDoor
open Go.RowKit

/-! relucertref15.Values, level 3 -/
noncomputable def vs_C5 : Code := (loopsOf (bodyOf Tryz.f89)).getD 0 .skip
noncomputable def vs_C9 : Code := (loopsOf (bodyOf Tryz.f89)).getD 1 .skip
def vs_h5 (a0 : TGraph) (a1 : List Rat) (out_5 : List Rat) (i_5 : Nat) : St :=
  ⟨[(1, .sl 3 (a1.map ratC)), (2, .ptr 0 0), (6, .own 1 out_5.length), (7, .lit (.int .i64 (i_5 : Int)))],
   [(0, some (.box 33 [.lit (.int .i64 (a0.Inputs)), .sl 4 (a0.Units.map formC), .sl 4 (a0.Outputs.map formC)] false)),
    (1, some (.row 26 3 (out_5.map ratC) 0))], 2⟩
def vs_h9 (a0 : TGraph) (out_9 : List Rat) (i_9 : Nat) (fz_9 : Nat) : St :=
  ⟨[(2, .ptr 0 0), (6, .own 1 out_9.length), (8, .lit (.int .i64 (i_9 : Int)))],
   [(0, some (.box 33 [.lit (.int .i64 (a0.Inputs)), .sl 4 (a0.Units.map formC), .sl 4 (a0.Outputs.map formC)] false)),
    (1, some (.row 26 3 (out_9.map ratC) fz_9))], 2⟩
def vs_o5a (a0 : TGraph) (out_5 : List Rat) : St :=
  ⟨[(2, .ptr 0 0), (6, .own 1 out_5.length)],
   [(0, some (.box 33 [.lit (.int .i64 (a0.Inputs)), .sl 4 (a0.Units.map formC), .sl 4 (a0.Outputs.map formC)] false)),
    (1, some (.row 26 3 (out_5.map ratC) 0))], 2⟩
def vs_o9a (out_9 : List Rat) (fz_9 : Nat) : St :=
  ⟨[(6, .own 0 out_9.length)],
   [(0, some (.row 26 3 (out_9.map ratC) fz_9))], 1⟩
theorem vs_r5_1 {n : Nat} {a0 : TGraph} {a1 : List Rat} {i_5 : Nat} {x3 : Rat} {out_5 : List Rat} (C1 : (i_5 : Int) < (a1.length : Int)) (E2 : a1[i_5]? = some x3) (B3a : H x3 ≤ 17179869184) (M4 : out_5.length + 1 ≤ 100000000) (W5 : InI ((i_5 : Int) + 1)) :
    Cont 0 (exec Tryz.prog (tab (n + 3)) 0 59 (livesOf 89) big vs_C5) (livesOf 89 5) (vs_h5 a0 a1 out_5 i_5) (vs_h5 a0 a1 (out_5 ++ [x3]) (i_5 + 1)) := by
  have C1_ : i_5 < a1.length := by omega
  obtain ⟨EL2, EG2⟩ := List.getElem?_eq_some_iff.1 E2
  have K3 := r_canon (p := x3) B3a
  have M4_ : ∀ b, b ≤ 10000 → roomy (out_5.length + 1) b = true := fun b hb => roomy_s M4 hb
  have W5_ : IntKind.i64.wrap ((i_5 : Int) + 1) = (i_5 : Int) + 1 := wr64 W5.1 W5.2
  unfold Cont
  simp +decide [vs_h5, loopsOf, Tryz.f89, vs_C5, C1, C1_, EL2, EG2, E2, K3, M4_, W5_]
theorem vs_x5_1 {n : Nat} {a0 : TGraph} {a1 : List Rat} {i_5 : Nat} {out_5 : List Rat} (C1 : ¬ (i_5 : Int) < (a1.length : Int)) :
    Leave 0 (exec Tryz.prog (tab (n + 3)) 0 59 (livesOf 89) big vs_C5) (livesOf 89 (outOf 5)) (vs_h5 a0 a1 out_5 i_5) (.exit 0) (vs_o5a a0 out_5) := by
  have C1_ : ¬ i_5 < a1.length := by omega
  unfold Leave
  simp +decide [vs_h5, loopsOf, Tryz.f89, vs_o5a, vs_C5, C1, C1_]
theorem vs_r9_1 {n : Nat} {a0 : TGraph} {i_9 : Nat} {F3 : List (Int × Rat)} {q3 : Rat} {out_9 : List Rat} {r8 : Rat} {r9 : Int} {r10 : Rat} {fz_9 : Nat} (C1 : (i_9 : Int) < (a0.Units.length : Int)) (E2 : a0.Units[i_9]? = some (F3, q3)) (K3 : run (n + 2) 90 [formV (F3, q3), .sl 3 (out_9.map ratC)] = some (.tup [ratV r8, .lit (.int .i64 r9)])) (K4 : run (n + 2) 114 [ratV r8, .agg [.lit (.bool false), .sl 1 [], .sl 1 []]] = some (ratV r10)) (M5 : out_9.length + 1 ≤ 100000000) (W6 : InI ((i_9 : Int) + 1)) :
    Cont 0 (exec Tryz.prog (tab (n + 3)) 0 59 (livesOf 89) big vs_C9) (livesOf 89 9) (vs_h9 a0 out_9 i_9 fz_9) (vs_h9 a0 (out_9 ++ [r10]) (i_9 + 1) out_9.length) := by
  have C1_ : i_9 < a0.Units.length := by omega
  obtain ⟨EL2, EG2⟩ := List.getElem?_eq_some_iff.1 E2
  simp only [ratV, formV] at K3
  simp only [ratV] at K4
  have M5_ : ∀ b, b ≤ 10000 → roomy (out_9.length + 1) b = true := fun b hb => roomy_s M5 hb
  have W6_ : IntKind.i64.wrap ((i_9 : Int) + 1) = (i_9 : Int) + 1 := wr64 W6.1 W6.2
  unfold Cont
  simp +decide [vs_h9, loopsOf, Tryz.f89, vs_C9, C1, C1_, EL2, EG2, E2, K3, K4, M5_, W6_]
theorem vs_x9_1 {n : Nat} {a0 : TGraph} {i_9 : Nat} {out_9 : List Rat} {fz_9 : Nat} (C1 : ¬ (i_9 : Int) < (a0.Units.length : Int)) :
    Leave 0 (exec Tryz.prog (tab (n + 3)) 0 59 (livesOf 89) big vs_C9) (livesOf 89 (outOf 9)) (vs_h9 a0 out_9 i_9 fz_9) (.exit 2) (vs_o9a out_9 fz_9) := by
  have C1_ : ¬ i_9 < a0.Units.length := by omega
  unfold Leave
  simp +decide [vs_h9, loopsOf, Tryz.f89, vs_o9a, vs_C9, C1, C1_]
theorem vs_f1 {n : Nat} {a0 : TGraph} {a1 : List Rat} {r : Bool} (K1 : run (n + 2) 55 [graphV a0] = some (.lit (.bool r))) (C2 : r = false) :
    run (n + 3) 89 [graphV a0, .sl 3 (a1.map ratC)] = some (.tup [.sl 3 [], .lit (.int .i64 1)]) := by
  simp only [graphV] at K1
  unfold run fnP
  simp +decide [Tryz.f89, K1, C2]
theorem vs_f2 {n : Nat} {a0 : TGraph} {a1 : List Rat} {r : Bool} (K1 : run (n + 2) 55 [graphV a0] = some (.lit (.bool r))) (C2 : r = true) (C3 : ¬ (a1.length : Int) = a0.Inputs) :
    run (n + 3) 89 [graphV a0, .sl 3 (a1.map ratC)] = some (.tup [.sl 3 [], .lit (.int .i64 1)]) := by
  simp only [graphV] at K1
  have C3_ : ((a1.length : Int) == a0.Inputs) = false := by simpa using C3
  have C3_n : ((a1.length : Int) != a0.Inputs) = true := by simpa using C3
  unfold run fnP
  simp +decide [Tryz.f89, K1, C2, C3_, C3_n]
theorem vs_f3 {n : Nat} {a0 : TGraph} {a1 : List Rat} {r : Bool} {out_5 : List Rat} {out_9 : List Rat} {fz_9 : Nat} (K1 : run (n + 2) 55 [graphV a0] = some (.lit (.bool r))) (C2 : r = true) (C3 : (a1.length : Int) = a0.Inputs) (L4 : loopG Tryz.prog (tab (n + 3)) 0 59 (livesOf 89) 5 vs_C5 (vs_h5 a0 a1 [] 0) = some (.exit 0, vs_o5a a0 out_5)) (L5 : loopG Tryz.prog (tab (n + 3)) 0 59 (livesOf 89) 9 vs_C9 (vs_h9 a0 out_5 0 0) = some (.exit 2, vs_o9a out_9 fz_9)) :
    run (n + 3) 89 [graphV a0, .sl 3 (a1.map ratC)] = some (.tup [.sl 3 (out_9.map ratC), .lit (.int .i64 0)]) := by
  simp only [graphV] at K1
  have C3_ : ((a1.length : Int) == a0.Inputs) = true := by rw [C3]; simp
  have C3_n : ((a1.length : Int) != a0.Inputs) = false := by rw [C3]; simp
  unfold run fnP
  simp +decide [Tryz.f89, K1, C2, C3_, C3_n]
  rw [loopX_G (C' := vs_C5) (e := (vs_h5 a0 a1 [] 0)) ?_ ?_, L4]
  rotate_left
  · kernel_rfl
  · simp +decide [vs_h5, K1, C2, C3_, C3_n]
  simp +decide [vs_o5a, K1, C2, C3_, C3_n]
  rw [loopX_G (C' := vs_C9) (e := (vs_h9 a0 out_5 0 0)) ?_ ?_, L5]
  rotate_left
  · kernel_rfl
  · simp +decide [vs_h9, K1, C2, C3_, C3_n]
  simp +decide [vs_o9a, K1, C2, C3_, C3_n]
/-! relucertref15.forms, level 4 -/
noncomputable def fm_C6 : Code := (loopsOf (bodyOf Tryz.f61)).getD 0 .skip
def fm_h6 (a1 : List Form) (r : List Rat) (out_6 : List Rat) (i_6 : Nat) : St :=
  ⟨[(1, .sl 4 (a1.map formC)), (8, .sl 3 (r.map ratC)), (10, .own 0 out_6.length), (11, .lit (.int .i64 (i_6 : Int)))],
   [(0, some (.row 26 3 (out_6.map ratC) 0))], 1⟩
def fm_o6a (out_6 : List Rat) : St :=
  ⟨[(10, .own 0 out_6.length)],
   [(0, some (.row 26 3 (out_6.map ratC) 0))], 1⟩
theorem fm_r6_1 {n : Nat} {a1 : List Form} {i_6 : Nat} {F3 : List (Int × Rat)} {q3 : Rat} {r : List Rat} {r7 : Rat} {r8 : Int} {out_6 : List Rat} (C1 : (i_6 : Int) < (a1.length : Int)) (E2 : a1[i_6]? = some (F3, q3)) (K3 : run (n + 3) 90 [formV (F3, q3), .sl 3 (r.map ratC)] = some (.tup [ratV r7, .lit (.int .i64 r8)])) (M4 : out_6.length + 1 ≤ 100000000) (W5 : InI ((i_6 : Int) + 1)) :
    Cont 0 (exec Tryz.prog (tab (n + 4)) 0 43 (livesOf 61) big fm_C6) (livesOf 61 6) (fm_h6 a1 r out_6 i_6) (fm_h6 a1 r (out_6 ++ [r7]) (i_6 + 1)) := by
  have C1_ : i_6 < a1.length := by omega
  obtain ⟨EL2, EG2⟩ := List.getElem?_eq_some_iff.1 E2
  simp only [ratV, formV] at K3
  have M4_ : ∀ b, b ≤ 10000 → roomy (out_6.length + 1) b = true := fun b hb => roomy_s M4 hb
  have W5_ : IntKind.i64.wrap ((i_6 : Int) + 1) = (i_6 : Int) + 1 := wr64 W5.1 W5.2
  unfold Cont
  simp +decide [fm_h6, loopsOf, Tryz.f61, fm_C6, C1, C1_, EL2, EG2, E2, K3, M4_, W5_]
theorem fm_x6_1 {n : Nat} {a1 : List Form} {i_6 : Nat} {r : List Rat} {out_6 : List Rat} (C1 : ¬ (i_6 : Int) < (a1.length : Int)) :
    Leave 0 (exec Tryz.prog (tab (n + 4)) 0 43 (livesOf 61) big fm_C6) (livesOf 61 (outOf 6)) (fm_h6 a1 r out_6 i_6) (.exit 0) (fm_o6a out_6) := by
  have C1_ : ¬ i_6 < a1.length := by omega
  unfold Leave
  simp +decide [fm_h6, loopsOf, Tryz.f61, fm_o6a, fm_C6, C1, C1_]
theorem fm_f1 {n : Nat} {a0 : TGraph} {a1 : List Form} {a2 : List Rat} {r : List Rat} {r2 : Int} (K1 : run (n + 3) 89 [graphV a0, .sl 3 (a2.map ratC)] = some (.tup [.sl 3 (r.map ratC), .lit (.int .i64 r2)])) (C2 : ¬ r2 = 0) :
    run (n + 4) 61 [graphV a0, .sl 4 (a1.map formC), .sl 3 (a2.map ratC)] = some (.tup [.sl 3 [], .lit (.int .i64 r2)]) := by
  simp only [graphV] at K1
  have C2_ : (r2 == 0) = false := by simpa using C2
  have C2_n : (r2 != 0) = true := by simpa using C2
  unfold run fnP
  simp +decide [Tryz.f61, K1, C2_, C2_n]
theorem fm_f2 {n : Nat} {a0 : TGraph} {a1 : List Form} {a2 : List Rat} {r : List Rat} {r2 : Int} {out_6 : List Rat} (K1 : run (n + 3) 89 [graphV a0, .sl 3 (a2.map ratC)] = some (.tup [.sl 3 (r.map ratC), .lit (.int .i64 r2)])) (C2 : r2 = 0) (L3 : loopG Tryz.prog (tab (n + 4)) 0 43 (livesOf 61) 6 fm_C6 (fm_h6 a1 r [] 0) = some (.exit 0, fm_o6a out_6)) :
    run (n + 4) 61 [graphV a0, .sl 4 (a1.map formC), .sl 3 (a2.map ratC)] = some (.tup [.sl 3 (out_6.map ratC), .lit (.int .i64 0)]) := by
  simp only [graphV] at K1
  have C2_ : (r2 == 0) = true := by rw [C2]; simp
  have C2_n : (r2 != 0) = false := by rw [C2]; simp
  unfold run fnP
  simp +decide [Tryz.f61, K1, C2_, C2_n]
  rw [loopX_G (C' := fm_C6) (e := (fm_h6 a1 r [] 0)) ?_ ?_, L3]
  rotate_left
  · kernel_rfl
  · simp +decide [fm_h6, K1, C2_, C2_n]
  simp +decide [fm_o6a, K1, C2_, C2_n]
/-! relucertref15.Pre, level 5 -/
theorem pr_f1 {n : Nat} {a0 : TGraph} {a1 : List Rat} {r : List Rat} {r2 : Int} (K1 : run (n + 4) 61 [graphV a0, .sl 4 (a0.Units.map formC), .sl 3 (a1.map ratC)] = some (.tup [.sl 3 (r.map ratC), .lit (.int .i64 r2)])) :
    run (n + 5) 28 [graphV a0, .sl 3 (a1.map ratC)] = some (.tup [.sl 3 (r.map ratC), .lit (.int .i64 r2)]) := by
  simp only [graphV] at K1
  unfold run fnP
  simp +decide [Tryz.f28, K1]
end Go.Proofs.YtjobiobdpnhooaaGreatDoor
