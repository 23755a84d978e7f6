/- Walks: graph.run@1, graph.Values@1, graph.Pre@1, graph.Outputs@1. Walks: relucertref15.Values@1, relucertref15.forms@2, relucertref15.Pre@1, relucertref15.Outputs@1. -/
import Derived.Test.YtlpmemelhlnfbaaGreatDoorGA5
set_option linter.all false
set_option linter.all false
set_option maxRecDepth 100000
set_option maxHeartbeats 6400000
namespace Go.Proofs.YtlpmemelhlnfbaaGreatDoor
open Go.RowKit

/-! graph.run, level 6 -/
noncomputable def grnX_C4 : Code := (loopsOf (bodyOf Tryz.f96)).getD 0 .skip
noncomputable def grnX_C9 : Code := (loopsOf (bodyOf Tryz.f96)).getD 1 .skip
def grnX_h4 (a0 : TGraph) (a1 : List Raw) (out_4 : List Rat) (i_4 : Nat) : St :=
  ⟨[(2, .ptr 0 0), (4, .own 1 out_4.length), (5, .own 2 0), (23, .sl 3 (a1.map rawC)), (24, .lit (.int .i64 (a1.length : Int))), (25, .lit (.int .i64 (i_4 : Int)))],
   [(0, some (.box 38 [.lit (.int .i64 (a0.Inputs)), .sl 4 (a0.Units.map formC), .sl 4 (a0.Outputs.map formC)] false)),
    (1, some (.row 27 3 (out_4.map ratC) 0)),
    (2, some (.row 27 3 [] 0))], 3⟩
def grnX_h9 (a0 : TGraph) (out_9 : List Rat) (out2_9 : List Rat) (i_9 : Nat) (fz_9 : Nat) : St :=
  ⟨[(4, .own 0 out_9.length), (5, .own 1 out2_9.length), (36, .sl 4 (a0.Units.map formC)), (37, .lit (.int .i64 (a0.Units.length : Int))), (38, .lit (.int .i64 (i_9 : Int)))],
   [(0, some (.row 27 3 (out_9.map ratC) fz_9)),
    (1, some (.row 27 3 (out2_9.map ratC) 0))], 2⟩
def grnX_o4a (a0 : TGraph) (out_4 : List Rat) : St :=
  ⟨[(2, .ptr 0 0), (4, .own 1 out_4.length), (5, .own 2 0)],
   [(0, some (.box 38 [.lit (.int .i64 (a0.Inputs)), .sl 4 (a0.Units.map formC), .sl 4 (a0.Outputs.map formC)] false)),
    (1, some (.row 27 3 (out_4.map ratC) 0)),
    (2, some (.row 27 3 [] 0))], 3⟩
def grnX_o9a (out_9 : List Rat) (out2_9 : List Rat) (fz_9 : Nat) : St :=
  ⟨[(4, .own 0 out_9.length), (5, .own 1 out2_9.length)],
   [(0, some (.row 27 3 (out_9.map ratC) fz_9)),
    (1, some (.row 27 3 (out2_9.map ratC) 0))], 2⟩
theorem grnX_r4_1 {n : Nat} {a0 : TGraph} {a1 : List Raw} {i_4 : Nat} {x3 : Raw} {out_4 : List Rat} (C1 : (i_4 : Int) < (a1.length : Int)) (E2 : a1[i_4]? = some x3) (B3a : RawB x3) (M4 : out_4.length + 1 ≤ 100000000) (W5 : InI ((i_4 : Int) + 1)) :
    Cont 0 (exec Tryz.prog (tab (n + 6)) 0 61 (livesOf 96) big grnX_C4) (livesOf 96 4) (grnX_h4 a0 a1 out_4 i_4) (grnX_h4 a0 a1 (out_4 ++ [x3.q]) (i_4 + 1)) := by
  have C1_ : i_4 < a1.length := by omega
  obtain ⟨EL2, EG2⟩ := List.getElem?_eq_some_iff.1 E2
  have K3 := rr_canon B3a
  have M4_ : ∀ b, b ≤ 10000 → roomy (out_4.length + 1) b = true := fun b hb => roomy_s M4 hb
  have W5_ : IntKind.i64.wrap ((i_4 : Int) + 1) = (i_4 : Int) + 1 := wr64 W5.1 W5.2
  unfold Cont
  simp +decide [grnX_h4, loopsOf, Tryz.f96, grnX_C4, C1, C1_, EL2, EG2, E2, K3, M4_, W5_]
theorem grnX_x4_1 {n : Nat} {a0 : TGraph} {a1 : List Raw} {i_4 : Nat} {out_4 : List Rat} (C1 : ¬ (i_4 : Int) < (a1.length : Int)) :
    Leave 0 (exec Tryz.prog (tab (n + 6)) 0 61 (livesOf 96) big grnX_C4) (livesOf 96 (outOf 4)) (grnX_h4 a0 a1 out_4 i_4) (.exit 0) (grnX_o4a a0 out_4) := by
  have C1_ : ¬ i_4 < a1.length := by omega
  unfold Leave
  simp +decide [grnX_h4, loopsOf, Tryz.f96, grnX_o4a, grnX_C4, C1, C1_]
theorem grnX_r9_1 {n : Nat} {a0 : TGraph} {i_9 : Nat} {F3 : List (Int × Rat)} {q3 : Rat} {out_9 : List Rat} {r8 : Rat} {r9 : Int} {out2_9 : List Rat} {r10 : Rat} {fz_9 : Nat} (C1 : (i_9 : Int) < (a0.Units.length : Int)) (E2 : a0.Units[i_9]? = some (F3, q3)) (K3 : run (n + 5) 97 [formV (F3, q3), .sl 3 (out_9.map ratC)] = some (.tup [ratV r8, .lit (.int .i64 r9)])) (M4 : out2_9.length + 1 ≤ 100000000) (K5 : run (n + 5) 165 [.agg [.lit (.bool false), .sl 1 [], .sl 1 []], ratV r8] = some (ratV r10)) (M6 : out_9.length + 1 ≤ 100000000) (W7 : InI ((i_9 : Int) + 1)) :
    Cont 0 (exec Tryz.prog (tab (n + 6)) 0 61 (livesOf 96) big grnX_C9) (livesOf 96 9) (grnX_h9 a0 out_9 out2_9 i_9 fz_9) (grnX_h9 a0 (out_9 ++ [r10]) (out2_9 ++ [r8]) (i_9 + 1) out_9.length) := by
  have C1_ : i_9 < a0.Units.length := by omega
  obtain ⟨EL2, EG2⟩ := List.getElem?_eq_some_iff.1 E2
  simp only [ratV, formV] at K3
  have M4_ : ∀ b, b ≤ 10000 → roomy (out2_9.length + 1) b = true := fun b hb => roomy_s M4 hb
  simp only [ratV] at K5
  have M6_ : ∀ b, b ≤ 10000 → roomy (out_9.length + 1) b = true := fun b hb => roomy_s M6 hb
  have W7_ : IntKind.i64.wrap ((i_9 : Int) + 1) = (i_9 : Int) + 1 := wr64 W7.1 W7.2
  unfold Cont
  simp +decide [grnX_h9, loopsOf, Tryz.f96, grnX_C9, C1, C1_, EL2, EG2, E2, K3, M4_, K5, M6_, W7_]
theorem grnX_x9_1 {n : Nat} {a0 : TGraph} {i_9 : Nat} {out_9 : List Rat} {out2_9 : List Rat} {fz_9 : Nat} (C1 : ¬ (i_9 : Int) < (a0.Units.length : Int)) :
    Leave 0 (exec Tryz.prog (tab (n + 6)) 0 61 (livesOf 96) big grnX_C9) (livesOf 96 (outOf 9)) (grnX_h9 a0 out_9 out2_9 i_9 fz_9) (.exit 2) (grnX_o9a out_9 out2_9 fz_9) := by
  have C1_ : ¬ i_9 < a0.Units.length := by omega
  unfold Leave
  simp +decide [grnX_h9, loopsOf, Tryz.f96, grnX_o9a, grnX_C9, C1, C1_]
theorem grnX_f3 {n : Nat} {a0 : TGraph} {a1 : List Raw} {r : Bool} {out_4 : List Rat} {out_9 : List Rat} {out2_9 : List Rat} {fz_9 : Nat} (K1 : run (n + 5) 41 [graphV a0] = some (.lit (.bool r))) (C2 : r = true) (C3 : (a1.length : Int) = a0.Inputs) (L4 : loopG Tryz.prog (tab (n + 6)) 0 61 (livesOf 96) 4 grnX_C4 (grnX_h4 a0 a1 [] 0) = some (.exit 0, grnX_o4a a0 out_4)) (L5 : loopG Tryz.prog (tab (n + 6)) 0 61 (livesOf 96) 9 grnX_C9 (grnX_h9 a0 out_4 [] 0 0) = some (.exit 2, grnX_o9a out_9 out2_9 fz_9)) :
    run (n + 6) 96 [graphV a0, .sl 3 (a1.map rawC)] = some (.tup [.sl 3 (out_9.map ratC), .sl 3 (out2_9.map ratC), .lit (.int .i64 0)]) := by
  simp only [graphV] at K1
  have C3_ : ((a1.length : Int) == a0.Inputs) = true := by rw [C3]; simp
  have C3_n : ((a1.length : Int) != a0.Inputs) = false := by rw [C3]; simp
  unfold run fnP
  simp +decide [Tryz.f96, K1, C2, C3_, C3_n]
  rw [loopX_G (C' := grnX_C4) (e := (grnX_h4 a0 a1 [] 0)) ?_ ?_, L4]
  rotate_left
  · kernel_rfl
  · simp +decide [grnX_h4, K1, C2, C3_, C3_n]
  simp +decide [grnX_o4a, K1, C2, C3_, C3_n]
  rw [loopX_G (C' := grnX_C9) (e := (grnX_h9 a0 out_4 [] 0 0)) ?_ ?_, L5]
  rotate_left
  · kernel_rfl
  · simp +decide [grnX_h9, K1, C2, C3_, C3_n]
  simp +decide [grnX_o9a, K1, C2, C3_, C3_n]
/-! graph.Values, level 7 -/
theorem gVaX_f1 {n : Nat} {a0 : TGraph} {a1 : List Raw} {r : List Rat} {r2 : List Rat} {r3 : Int} (K1 : run (n + 6) 96 [graphV a0, .sl 3 (a1.map rawC)] = some (.tup [.sl 3 (r.map ratC), .sl 3 (r2.map ratC), .lit (.int .i64 r3)])) :
    run (n + 7) 32 [graphV a0, .sl 3 (a1.map rawC)] = some (.tup [.sl 3 (r.map ratC), .lit (.int .i64 r3)]) := by
  simp only [graphV] at K1
  unfold run fnP
  simp +decide [Tryz.f32, K1]
/-! graph.Pre, level 7 -/
theorem gPrX_f1 {n : Nat} {a0 : TGraph} {a1 : List Raw} {r : List Rat} {r2 : List Rat} {r3 : Int} (K1 : run (n + 6) 96 [graphV a0, .sl 3 (a1.map rawC)] = some (.tup [.sl 3 (r.map ratC), .sl 3 (r2.map ratC), .lit (.int .i64 r3)])) :
    run (n + 7) 33 [graphV a0, .sl 3 (a1.map rawC)] = some (.tup [.sl 3 (r2.map ratC), .lit (.int .i64 r3)]) := by
  simp only [graphV] at K1
  unfold run fnP
  simp +decide [Tryz.f33, K1]
/-! graph.Outputs, level 7 -/
noncomputable def gOuX_C6 : Code := (loopsOf (bodyOf Tryz.f34)).getD 0 .skip
def gOuX_h6 (a0 : TGraph) (r : List Rat) (out_6 : List Rat) (i_6 : Nat) : St :=
  ⟨[(6, .sl 3 (r.map ratC)), (9, .own 0 out_6.length), (25, .sl 4 (a0.Outputs.map formC)), (26, .lit (.int .i64 (a0.Outputs.length : Int))), (27, .lit (.int .i64 (i_6 : Int)))],
   [(0, some (.row 27 3 (out_6.map ratC) 0))], 1⟩
def gOuX_o6a (out_6 : List Rat) : St :=
  ⟨[(9, .own 0 out_6.length)],
   [(0, some (.row 27 3 (out_6.map ratC) 0))], 1⟩
theorem gOuX_r6_1 {n : Nat} {a0 : TGraph} {i_6 : Nat} {F3 : List (Int × Rat)} {q3 : Rat} {r : List Rat} {r8 : Rat} {r9 : Int} {out_6 : List Rat} (C1 : (i_6 : Int) < (a0.Outputs.length : Int)) (E2 : a0.Outputs[i_6]? = some (F3, q3)) (K3 : run (n + 6) 97 [formV (F3, q3), .sl 3 (r.map ratC)] = some (.tup [ratV r8, .lit (.int .i64 r9)])) (M4 : out_6.length + 1 ≤ 100000000) (W5 : InI ((i_6 : Int) + 1)) :
    Cont 0 (exec Tryz.prog (tab (n + 7)) 0 43 (livesOf 34) big gOuX_C6) (livesOf 34 6) (gOuX_h6 a0 r out_6 i_6) (gOuX_h6 a0 r (out_6 ++ [r8]) (i_6 + 1)) := by
  have C1_ : i_6 < a0.Outputs.length := by omega
  obtain ⟨EL2, EG2⟩ := List.getElem?_eq_some_iff.1 E2
  simp only [ratV, formV] at K3
  have M4_ : ∀ b, b ≤ 10000 → roomy (out_6.length + 1) b = true := fun b hb => roomy_s M4 hb
  have W5_ : IntKind.i64.wrap ((i_6 : Int) + 1) = (i_6 : Int) + 1 := wr64 W5.1 W5.2
  unfold Cont
  simp +decide [gOuX_h6, loopsOf, Tryz.f34, gOuX_C6, C1, C1_, EL2, EG2, E2, K3, M4_, W5_]
theorem gOuX_x6_1 {n : Nat} {a0 : TGraph} {i_6 : Nat} {r : List Rat} {out_6 : List Rat} (C1 : ¬ (i_6 : Int) < (a0.Outputs.length : Int)) :
    Leave 0 (exec Tryz.prog (tab (n + 7)) 0 43 (livesOf 34) big gOuX_C6) (livesOf 34 (outOf 6)) (gOuX_h6 a0 r out_6 i_6) (.exit 0) (gOuX_o6a out_6) := by
  have C1_ : ¬ i_6 < a0.Outputs.length := by omega
  unfold Leave
  simp +decide [gOuX_h6, loopsOf, Tryz.f34, gOuX_o6a, gOuX_C6, C1, C1_]
theorem gOuX_f2 {n : Nat} {a0 : TGraph} {a1 : List Raw} {r : List Rat} {r2 : List Rat} {r3 : Int} {out_6 : List Rat} (K1 : run (n + 6) 96 [graphV a0, .sl 3 (a1.map rawC)] = some (.tup [.sl 3 (r.map ratC), .sl 3 (r2.map ratC), .lit (.int .i64 r3)])) (C2 : r3 = 0) (L3 : loopG Tryz.prog (tab (n + 7)) 0 43 (livesOf 34) 6 gOuX_C6 (gOuX_h6 a0 r [] 0) = some (.exit 0, gOuX_o6a out_6)) :
    run (n + 7) 34 [graphV a0, .sl 3 (a1.map rawC)] = some (.tup [.sl 3 (out_6.map ratC), .lit (.int .i64 0)]) := by
  simp only [graphV] at K1
  have C2_ : (r3 == 0) = true := by rw [C2]; simp
  have C2_n : (r3 != 0) = false := by rw [C2]; simp
  unfold run fnP
  simp +decide [Tryz.f34, K1, C2_, C2_n]
  rw [loopX_G (C' := gOuX_C6) (e := (gOuX_h6 a0 r [] 0)) ?_ ?_, L3]
  rotate_left
  · kernel_rfl
  · simp +decide [gOuX_h6, K1, C2_, C2_n]
  simp +decide [gOuX_o6a, K1, C2_, C2_n]
end Go.Proofs.YtlpmemelhlnfbaaGreatDoor
set_option linter.all false
set_option maxRecDepth 100000
set_option maxHeartbeats 6400000
namespace Go.Proofs.YtlpmemelhlnfbaaGreatDoor
open Go.RowKit

/-! relucertref15.Values, level 3 -/
noncomputable def vsX_C5 : Code := (loopsOf (bodyOf Tryz.f35)).getD 0 .skip
noncomputable def vsX_C9 : Code := (loopsOf (bodyOf Tryz.f35)).getD 1 .skip
def vsX_h5 (a0 : TGraph) (a1 : List Raw) (out_5 : List Rat) (i_5 : Nat) : St :=
  ⟨[(1, .sl 3 (a1.map rawC)), (2, .ptr 0 0), (6, .own 1 out_5.length), (7, .lit (.int .i64 (i_5 : Int)))],
   [(0, some (.box 38 [.lit (.int .i64 (a0.Inputs)), .sl 4 (a0.Units.map formC), .sl 4 (a0.Outputs.map formC)] false)),
    (1, some (.row 27 3 (out_5.map ratC) 0))], 2⟩
def vsX_h9 (a0 : TGraph) (out_9 : List Rat) (i_9 : Nat) (fz_9 : Nat) : St :=
  ⟨[(2, .ptr 0 0), (6, .own 1 out_9.length), (8, .lit (.int .i64 (i_9 : Int)))],
   [(0, some (.box 38 [.lit (.int .i64 (a0.Inputs)), .sl 4 (a0.Units.map formC), .sl 4 (a0.Outputs.map formC)] false)),
    (1, some (.row 27 3 (out_9.map ratC) fz_9))], 2⟩
def vsX_o5a (a0 : TGraph) (out_5 : List Rat) : St :=
  ⟨[(2, .ptr 0 0), (6, .own 1 out_5.length)],
   [(0, some (.box 38 [.lit (.int .i64 (a0.Inputs)), .sl 4 (a0.Units.map formC), .sl 4 (a0.Outputs.map formC)] false)),
    (1, some (.row 27 3 (out_5.map ratC) 0))], 2⟩
def vsX_o9a (out_9 : List Rat) (fz_9 : Nat) : St :=
  ⟨[(6, .own 0 out_9.length)],
   [(0, some (.row 27 3 (out_9.map ratC) fz_9))], 1⟩
theorem vsX_r5_1 {n : Nat} {a0 : TGraph} {a1 : List Raw} {i_5 : Nat} {x3 : Raw} {out_5 : List Rat} (C1 : (i_5 : Int) < (a1.length : Int)) (E2 : a1[i_5]? = some x3) (B3a : RawB x3) (M4 : out_5.length + 1 ≤ 100000000) (W5 : InI ((i_5 : Int) + 1)) :
    Cont 0 (exec Tryz.prog (tab (n + 3)) 0 59 (livesOf 35) big vsX_C5) (livesOf 35 5) (vsX_h5 a0 a1 out_5 i_5) (vsX_h5 a0 a1 (out_5 ++ [x3.q]) (i_5 + 1)) := by
  have C1_ : i_5 < a1.length := by omega
  obtain ⟨EL2, EG2⟩ := List.getElem?_eq_some_iff.1 E2
  have K3 := rr_canon B3a
  have M4_ : ∀ b, b ≤ 10000 → roomy (out_5.length + 1) b = true := fun b hb => roomy_s M4 hb
  have W5_ : IntKind.i64.wrap ((i_5 : Int) + 1) = (i_5 : Int) + 1 := wr64 W5.1 W5.2
  unfold Cont
  simp +decide [vsX_h5, loopsOf, Tryz.f35, vsX_C5, C1, C1_, EL2, EG2, E2, K3, M4_, W5_]
theorem vsX_x5_1 {n : Nat} {a0 : TGraph} {a1 : List Raw} {i_5 : Nat} {out_5 : List Rat} (C1 : ¬ (i_5 : Int) < (a1.length : Int)) :
    Leave 0 (exec Tryz.prog (tab (n + 3)) 0 59 (livesOf 35) big vsX_C5) (livesOf 35 (outOf 5)) (vsX_h5 a0 a1 out_5 i_5) (.exit 0) (vsX_o5a a0 out_5) := by
  have C1_ : ¬ i_5 < a1.length := by omega
  unfold Leave
  simp +decide [vsX_h5, loopsOf, Tryz.f35, vsX_o5a, vsX_C5, C1, C1_]
theorem vsX_r9_1 {n : Nat} {a0 : TGraph} {i_9 : Nat} {F3 : List (Int × Rat)} {q3 : Rat} {out_9 : List Rat} {r8 : Rat} {r9 : Int} {r10 : Rat} {fz_9 : Nat} (C1 : (i_9 : Int) < (a0.Units.length : Int)) (E2 : a0.Units[i_9]? = some (F3, q3)) (K3 : run (n + 2) 99 [formV (F3, q3), .sl 3 (out_9.map ratC)] = some (.tup [ratV r8, .lit (.int .i64 r9)])) (K4 : run (n + 2) 100 [ratV r8, .agg [.lit (.bool false), .sl 1 [], .sl 1 []]] = some (ratV r10)) (M5 : out_9.length + 1 ≤ 100000000) (W6 : InI ((i_9 : Int) + 1)) :
    Cont 0 (exec Tryz.prog (tab (n + 3)) 0 59 (livesOf 35) big vsX_C9) (livesOf 35 9) (vsX_h9 a0 out_9 i_9 fz_9) (vsX_h9 a0 (out_9 ++ [r10]) (i_9 + 1) out_9.length) := by
  have C1_ : i_9 < a0.Units.length := by omega
  obtain ⟨EL2, EG2⟩ := List.getElem?_eq_some_iff.1 E2
  simp only [ratV, formV] at K3
  simp only [ratV] at K4
  have M5_ : ∀ b, b ≤ 10000 → roomy (out_9.length + 1) b = true := fun b hb => roomy_s M5 hb
  have W6_ : IntKind.i64.wrap ((i_9 : Int) + 1) = (i_9 : Int) + 1 := wr64 W6.1 W6.2
  unfold Cont
  simp +decide [vsX_h9, loopsOf, Tryz.f35, vsX_C9, C1, C1_, EL2, EG2, E2, K3, K4, M5_, W6_]
theorem vsX_x9_1 {n : Nat} {a0 : TGraph} {i_9 : Nat} {out_9 : List Rat} {fz_9 : Nat} (C1 : ¬ (i_9 : Int) < (a0.Units.length : Int)) :
    Leave 0 (exec Tryz.prog (tab (n + 3)) 0 59 (livesOf 35) big vsX_C9) (livesOf 35 (outOf 9)) (vsX_h9 a0 out_9 i_9 fz_9) (.exit 2) (vsX_o9a out_9 fz_9) := by
  have C1_ : ¬ i_9 < a0.Units.length := by omega
  unfold Leave
  simp +decide [vsX_h9, loopsOf, Tryz.f35, vsX_o9a, vsX_C9, C1, C1_]
theorem vsX_f3 {n : Nat} {a0 : TGraph} {a1 : List Raw} {r : Bool} {out_5 : List Rat} {out_9 : List Rat} {fz_9 : Nat} (K1 : run (n + 2) 25 [graphV a0] = some (.lit (.bool r))) (C2 : r = true) (C3 : (a1.length : Int) = a0.Inputs) (L4 : loopG Tryz.prog (tab (n + 3)) 0 59 (livesOf 35) 5 vsX_C5 (vsX_h5 a0 a1 [] 0) = some (.exit 0, vsX_o5a a0 out_5)) (L5 : loopG Tryz.prog (tab (n + 3)) 0 59 (livesOf 35) 9 vsX_C9 (vsX_h9 a0 out_5 0 0) = some (.exit 2, vsX_o9a out_9 fz_9)) :
    run (n + 3) 35 [graphV a0, .sl 3 (a1.map rawC)] = some (.tup [.sl 3 (out_9.map ratC), .lit (.int .i64 0)]) := by
  simp only [graphV] at K1
  have C3_ : ((a1.length : Int) == a0.Inputs) = true := by rw [C3]; simp
  have C3_n : ((a1.length : Int) != a0.Inputs) = false := by rw [C3]; simp
  unfold run fnP
  simp +decide [Tryz.f35, K1, C2, C3_, C3_n]
  rw [loopX_G (C' := vsX_C5) (e := (vsX_h5 a0 a1 [] 0)) ?_ ?_, L4]
  rotate_left
  · kernel_rfl
  · simp +decide [vsX_h5, K1, C2, C3_, C3_n]
  simp +decide [vsX_o5a, K1, C2, C3_, C3_n]
  rw [loopX_G (C' := vsX_C9) (e := (vsX_h9 a0 out_5 0 0)) ?_ ?_, L5]
  rotate_left
  · kernel_rfl
  · simp +decide [vsX_h9, K1, C2, C3_, C3_n]
  simp +decide [vsX_o9a, K1, C2, C3_, C3_n]
/-! relucertref15.forms, level 4 -/
noncomputable def fmX_C6 : Code := (loopsOf (bodyOf Tryz.f101)).getD 0 .skip
def fmX_h6 (a1 : List Form) (r : List Rat) (out_6 : List Rat) (i_6 : Nat) : St :=
  ⟨[(1, .sl 4 (a1.map formC)), (8, .sl 3 (r.map ratC)), (10, .own 0 out_6.length), (11, .lit (.int .i64 (i_6 : Int)))],
   [(0, some (.row 27 3 (out_6.map ratC) 0))], 1⟩
def fmX_o6a (out_6 : List Rat) : St :=
  ⟨[(10, .own 0 out_6.length)],
   [(0, some (.row 27 3 (out_6.map ratC) 0))], 1⟩
theorem fmX_r6_1 {n : Nat} {a1 : List Form} {i_6 : Nat} {F3 : List (Int × Rat)} {q3 : Rat} {r : List Rat} {r7 : Rat} {r8 : Int} {out_6 : List Rat} (C1 : (i_6 : Int) < (a1.length : Int)) (E2 : a1[i_6]? = some (F3, q3)) (K3 : run (n + 3) 99 [formV (F3, q3), .sl 3 (r.map ratC)] = some (.tup [ratV r7, .lit (.int .i64 r8)])) (M4 : out_6.length + 1 ≤ 100000000) (W5 : InI ((i_6 : Int) + 1)) :
    Cont 0 (exec Tryz.prog (tab (n + 4)) 0 43 (livesOf 101) big fmX_C6) (livesOf 101 6) (fmX_h6 a1 r out_6 i_6) (fmX_h6 a1 r (out_6 ++ [r7]) (i_6 + 1)) := by
  have C1_ : i_6 < a1.length := by omega
  obtain ⟨EL2, EG2⟩ := List.getElem?_eq_some_iff.1 E2
  simp only [ratV, formV] at K3
  have M4_ : ∀ b, b ≤ 10000 → roomy (out_6.length + 1) b = true := fun b hb => roomy_s M4 hb
  have W5_ : IntKind.i64.wrap ((i_6 : Int) + 1) = (i_6 : Int) + 1 := wr64 W5.1 W5.2
  unfold Cont
  simp +decide [fmX_h6, loopsOf, Tryz.f101, fmX_C6, C1, C1_, EL2, EG2, E2, K3, M4_, W5_]
theorem fmX_x6_1 {n : Nat} {a1 : List Form} {i_6 : Nat} {r : List Rat} {out_6 : List Rat} (C1 : ¬ (i_6 : Int) < (a1.length : Int)) :
    Leave 0 (exec Tryz.prog (tab (n + 4)) 0 43 (livesOf 101) big fmX_C6) (livesOf 101 (outOf 6)) (fmX_h6 a1 r out_6 i_6) (.exit 0) (fmX_o6a out_6) := by
  have C1_ : ¬ i_6 < a1.length := by omega
  unfold Leave
  simp +decide [fmX_h6, loopsOf, Tryz.f101, fmX_o6a, fmX_C6, C1, C1_]
theorem fmX_f2 {n : Nat} {a0 : TGraph} {a1 : List Form} {a2 : List Raw} {r : List Rat} {r2 : Int} {out_6 : List Rat} (K1 : run (n + 3) 35 [graphV a0, .sl 3 (a2.map rawC)] = some (.tup [.sl 3 (r.map ratC), .lit (.int .i64 r2)])) (C2 : r2 = 0) (L3 : loopG Tryz.prog (tab (n + 4)) 0 43 (livesOf 101) 6 fmX_C6 (fmX_h6 a1 r [] 0) = some (.exit 0, fmX_o6a out_6)) :
    run (n + 4) 101 [graphV a0, .sl 4 (a1.map formC), .sl 3 (a2.map rawC)] = some (.tup [.sl 3 (out_6.map ratC), .lit (.int .i64 0)]) := by
  simp only [graphV] at K1
  have C2_ : (r2 == 0) = true := by rw [C2]; simp
  have C2_n : (r2 != 0) = false := by rw [C2]; simp
  unfold run fnP
  simp +decide [Tryz.f101, K1, C2_, C2_n]
  rw [loopX_G (C' := fmX_C6) (e := (fmX_h6 a1 r [] 0)) ?_ ?_, L3]
  rotate_left
  · kernel_rfl
  · simp +decide [fmX_h6, K1, C2_, C2_n]
  simp +decide [fmX_o6a, K1, C2_, C2_n]
/-! relucertref15.Pre, level 5 -/
theorem prX_f1 {n : Nat} {a0 : TGraph} {a1 : List Raw} {r : List Rat} {r2 : Int} (K1 : run (n + 4) 101 [graphV a0, .sl 4 (a0.Units.map formC), .sl 3 (a1.map rawC)] = some (.tup [.sl 3 (r.map ratC), .lit (.int .i64 r2)])) :
    run (n + 5) 36 [graphV a0, .sl 3 (a1.map rawC)] = some (.tup [.sl 3 (r.map ratC), .lit (.int .i64 r2)]) := by
  simp only [graphV] at K1
  unfold run fnP
  simp +decide [Tryz.f36, K1]
/-! relucertref15.Outputs, level 5 -/
theorem ouX_f1 {n : Nat} {a0 : TGraph} {a1 : List Raw} {r : List Rat} {r2 : Int} (K1 : run (n + 4) 101 [graphV a0, .sl 4 (a0.Outputs.map formC), .sl 3 (a1.map rawC)] = some (.tup [.sl 3 (r.map ratC), .lit (.int .i64 r2)])) :
    run (n + 5) 37 [graphV a0, .sl 3 (a1.map rawC)] = some (.tup [.sl 3 (r.map ratC), .lit (.int .i64 r2)]) := by
  simp only [graphV] at K1
  unfold run fnP
  simp +decide [Tryz.f37, K1]
end Go.Proofs.YtlpmemelhlnfbaaGreatDoor
