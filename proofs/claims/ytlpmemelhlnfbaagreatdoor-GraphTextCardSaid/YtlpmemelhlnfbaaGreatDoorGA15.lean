/- Walks: relucertref07.Equal, relucertref07.EqualAll, relucertref07.Make. relucertref07.Equal: what it returns. Walks: relucertref15.Equal, relucertlaw15.same, relucertref03.SameAll. graph.Text, relucertref15.Text: the same text; relucertlaw15.GraphText returns true. -/
import Derived.Test.YtlpmemelhlnfbaaGreatDoorGA5
import Derived.Test.YtlpmemelhlnfbaaGreatDoorGA7
import Derived.Test.YtlpmemelhlnfbaaGreatDoorGA14
import Derived.Test.YtlpmemelhlnfbaaGreatDoorGA8
import Derived.Test.YtlpmemelhlnfbaaGreatDoorGA12
set_option linter.all false
set_option linter.all false
set_option maxRecDepth 100000
set_option maxHeartbeats 6400000
namespace Go.Proofs.YtlpmemelhlnfbaaGreatDoor
open Go.RowKit

noncomputable def feq_C4 : Code := (loopsOf (bodyOf Tryz.f55)).getD 0 .skip
def feq_h4 (a0 : Form) (a1 : Form) (i_4 : Nat) : St :=
  ⟨[(2, .ptr 0 0), (3, .ptr 1 0), (5, .lit (.int .i64 (i_4 : Int)))],
   [(0, some (.box 29 [.sl 4 (a0.1.map termC), .lit (.bool (rawQ a0.2).s), natA (rawQ a0.2).l1, natA (rawQ a0.2).l2] false)),
    (1, some (.box 29 [.sl 4 (a1.1.map termC), .lit (.bool (rawQ a1.2).s), natA (rawQ a1.2).l1, natA (rawQ a1.2).l2] false))], 2⟩
def feq_o4a  : St :=
  ⟨[(4, .lit (.bool false))],
   [], 0⟩
def feq_o4b  : St :=
  ⟨[(4, .any)],
   [], 0⟩
section
variable {n : Nat} {v5 : Int} {a0 : Form} {a1 : Form} {i_4 : Nat} {q5 : Rat} {q6 : Rat} {v6 : Int}
theorem feq_r4_1 (C1 : (i_4 : Int) < (a0.1.length : Int)) (E2 : a0.1[i_4]? = some (v5, q5)) (E3 : a1.1[i_4]? = some (v6, q6)) (C4 : v5 = v6) (B5a : H q5 ≤ 17179869184) (B5b : H q6 ≤ 17179869184) (C6 : q5 = q6) (W7 : InI ((i_4 : Int) + 1)) :
    Cont 0 (exec Tryz.prog (tab n) 0 57 (livesOf 55) big feq_C4) (livesOf 55 4) (feq_h4 a0 a1 i_4) (feq_h4 a0 a1 (i_4 + 1)) := by
  have C1_ : i_4 < a0.1.length := by omega
  obtain ⟨EL2, EG2⟩ := List.getElem?_eq_some_iff.1 E2
  obtain ⟨EL3, EG3⟩ := List.getElem?_eq_some_iff.1 E3
  have C4_ : (v5 == v6) = true := by rw [C4]; simp
  have C4_n : (v5 != v6) = false := by rw [C4]; simp
  have K5 := r_same (p := q5) (q := q6) B5a B5b
  have C6_ : decide (q5 = q6) = true := decide_eq_true C6
  have W7_ : IntKind.i64.wrap ((i_4 : Int) + 1) = (i_4 : Int) + 1 := wr64 W7.1 W7.2
  unfold Cont
  simp +decide [feq_h4, loopsOf, Tryz.f55, feq_C4, C1, C1_, EL2, EG2, E2, EL3, EG3, E3, C4_, C4_n, K5, C6_, W7_]
theorem feq_x4_1 (C1 : (i_4 : Int) < (a0.1.length : Int)) (E2 : a0.1[i_4]? = some (v5, q5)) (E3 : a1.1[i_4]? = some (v6, q6)) (C4 : ¬ v5 = v6) :
    Leave 0 (exec Tryz.prog (tab n) 0 57 (livesOf 55) big feq_C4) (livesOf 55 (outOf 4)) (feq_h4 a0 a1 i_4) (.ret) (feq_o4a ) := by
  have C1_ : i_4 < a0.1.length := by omega
  obtain ⟨EL2, EG2⟩ := List.getElem?_eq_some_iff.1 E2
  obtain ⟨EL3, EG3⟩ := List.getElem?_eq_some_iff.1 E3
  have C4_ : (v5 == v6) = false := by simpa using C4
  have C4_n : (v5 != v6) = true := by simpa using C4
  unfold Leave
  simp +decide [feq_h4, loopsOf, Tryz.f55, feq_o4a, feq_C4, C1, C1_, EL2, EG2, E2, EL3, EG3, E3, C4_, C4_n]
theorem feq_x4_2 (C1 : (i_4 : Int) < (a0.1.length : Int)) (E2 : a0.1[i_4]? = some (v5, q5)) (E3 : a1.1[i_4]? = some (v6, q6)) (C4 : v5 = v6) (B5a : H q5 ≤ 17179869184) (B5b : H q6 ≤ 17179869184) (C6 : ¬ (q5 = q6)) :
    Leave 0 (exec Tryz.prog (tab n) 0 57 (livesOf 55) big feq_C4) (livesOf 55 (outOf 4)) (feq_h4 a0 a1 i_4) (.ret) (feq_o4a ) := by
  have C1_ : i_4 < a0.1.length := by omega
  obtain ⟨EL2, EG2⟩ := List.getElem?_eq_some_iff.1 E2
  obtain ⟨EL3, EG3⟩ := List.getElem?_eq_some_iff.1 E3
  have C4_ : (v5 == v6) = true := by rw [C4]; simp
  have C4_n : (v5 != v6) = false := by rw [C4]; simp
  have K5 := r_same (p := q5) (q := q6) B5a B5b
  unfold Leave
  simp +decide [feq_h4, loopsOf, Tryz.f55, feq_o4a, feq_C4, C1, C1_, EL2, EG2, E2, EL3, EG3, E3, C4_, C4_n, K5, C6]
theorem feq_x4_3 (C1 : ¬ (i_4 : Int) < (a0.1.length : Int)) :
    Leave 0 (exec Tryz.prog (tab n) 0 57 (livesOf 55) big feq_C4) (livesOf 55 (outOf 4)) (feq_h4 a0 a1 i_4) (.exit 0) (feq_o4b ) := by
  have C1_ : ¬ i_4 < a0.1.length := by omega
  unfold Leave
  simp +decide [feq_h4, loopsOf, Tryz.f55, feq_o4b, feq_C4, C1, C1_]
theorem feq_f1 (C1 : ¬ (a0.1.length : Int) = (a1.1.length : Int)) :
    run n 55 [formV a0, formV a1] = some (.lit (.bool false)) := by
  have C1_ : ((a0.1.length : Int) == (a1.1.length : Int)) = false := by simpa using C1
  have C1_n : ((a0.1.length : Int) != (a1.1.length : Int)) = true := by simpa using C1
  unfold run fnP
  simp +decide [Tryz.f55, C1_, C1_n]
theorem feq_f2 (C1 : (a0.1.length : Int) = (a1.1.length : Int)) (B2a : H a0.2 ≤ 17179869184) (B2b : H a1.2 ≤ 17179869184) (C3 : ¬ (a0.2 = a1.2)) :
    run n 55 [formV a0, formV a1] = some (.lit (.bool false)) := by
  have C1_ : ((a0.1.length : Int) == (a1.1.length : Int)) = true := by rw [C1]; simp
  have C1_n : ((a0.1.length : Int) != (a1.1.length : Int)) = false := by rw [C1]; simp
  have K2 := r_same (p := a0.2) (q := a1.2) B2a B2b
  unfold run fnP
  simp +decide [Tryz.f55, C1_, C1_n, K2, C3]
theorem feq_f3 (C1 : (a0.1.length : Int) = (a1.1.length : Int)) (B2a : H a0.2 ≤ 17179869184) (B2b : H a1.2 ≤ 17179869184) (C3 : a0.2 = a1.2) (L4 : loopG Tryz.prog (tab n) 0 57 (livesOf 55) 4 feq_C4 (feq_h4 a0 a1 0) = some (.ret, feq_o4a )) :
    run n 55 [formV a0, formV a1] = some (.lit (.bool false)) := by
  have C1_ : ((a0.1.length : Int) == (a1.1.length : Int)) = true := by rw [C1]; simp
  have C1_n : ((a0.1.length : Int) != (a1.1.length : Int)) = false := by rw [C1]; simp
  have K2 := r_same (p := a0.2) (q := a1.2) B2a B2b
  have C3_ : decide (a0.2 = a1.2) = true := decide_eq_true C3
  unfold run fnP
  simp +decide [Tryz.f55, C1_, C1_n, K2, C3_]
  rw [loopX_G (C' := feq_C4) (e := (feq_h4 a0 a1 0)) ?_ ?_, L4]
  rotate_left
  · kernel_rfl
  · simp +decide [feq_h4, C1_, C1_n, K2, C3_]
  simp +decide [feq_o4a, C1_, C1_n, K2, C3_]
theorem feq_f4 (C1 : (a0.1.length : Int) = (a1.1.length : Int)) (B2a : H a0.2 ≤ 17179869184) (B2b : H a1.2 ≤ 17179869184) (C3 : a0.2 = a1.2) (L4 : loopG Tryz.prog (tab n) 0 57 (livesOf 55) 4 feq_C4 (feq_h4 a0 a1 0) = some (.exit 0, feq_o4b )) :
    run n 55 [formV a0, formV a1] = some (.lit (.bool true)) := by
  have C1_ : ((a0.1.length : Int) == (a1.1.length : Int)) = true := by rw [C1]; simp
  have C1_n : ((a0.1.length : Int) != (a1.1.length : Int)) = false := by rw [C1]; simp
  have K2 := r_same (p := a0.2) (q := a1.2) B2a B2b
  have C3_ : decide (a0.2 = a1.2) = true := decide_eq_true C3
  unfold run fnP
  simp +decide [Tryz.f55, C1_, C1_n, K2, C3_]
  rw [loopX_G (C' := feq_C4) (e := (feq_h4 a0 a1 0)) ?_ ?_, L4]
  rotate_left
  · kernel_rfl
  · simp +decide [feq_h4, C1_, C1_n, K2, C3_]
  simp +decide [feq_o4b, C1_, C1_n, K2, C3_]
end
noncomputable def fea_C4 : Code := (loopsOf (bodyOf Tryz.f90)).getD 0 .skip
def fea_h4 (a0 : List Form) (a1 : List Form) (i_4 : Nat) : St :=
  ⟨[(0, .sl 4 (a0.map formC)), (1, .sl 4 (a1.map formC)), (5, .lit (.int .i64 (i_4 : Int)))],
   [], 0⟩
def fea_o4a  : St :=
  ⟨[(4, .lit (.bool false))],
   [], 0⟩
def fea_o4b  : St :=
  ⟨[(4, .any)],
   [], 0⟩
section
variable {n : Nat} {a0 : List Form} {F5 : List (Int × Rat)} {a1 : List Form} {q6 : Rat} {i_4 : Nat} {q5 : Rat} {r3 : Bool} {F6 : List (Int × Rat)}
theorem fea_r4_1 (C1 : (i_4 : Int) < (a0.length : Int)) (E2 : a0[i_4]? = some (F5, q5)) (E3 : a1[i_4]? = some (F6, q6)) (K4 : run n 55 [formV (F5, q5), formV (F6, q6)] = some (.lit (.bool r3))) (C5 : r3 = true) (W6 : InI ((i_4 : Int) + 1)) :
    Cont 0 (exec Tryz.prog (tab (n + 1)) 0 27 (livesOf 90) big fea_C4) (livesOf 90 4) (fea_h4 a0 a1 i_4) (fea_h4 a0 a1 (i_4 + 1)) := by
  have C1_ : i_4 < a0.length := by omega
  obtain ⟨EL2, EG2⟩ := List.getElem?_eq_some_iff.1 E2
  obtain ⟨EL3, EG3⟩ := List.getElem?_eq_some_iff.1 E3
  simp only [formV] at K4
  have W6_ : IntKind.i64.wrap ((i_4 : Int) + 1) = (i_4 : Int) + 1 := wr64 W6.1 W6.2
  unfold Cont
  simp +decide [fea_h4, loopsOf, Tryz.f90, fea_C4, C1, C1_, EL2, EG2, E2, EL3, EG3, E3, K4, C5, W6_]
theorem fea_x4_1 (C1 : (i_4 : Int) < (a0.length : Int)) (E2 : a0[i_4]? = some (F5, q5)) (E3 : a1[i_4]? = some (F6, q6)) (K4 : run n 55 [formV (F5, q5), formV (F6, q6)] = some (.lit (.bool r3))) (C5 : r3 = false) :
    Leave 0 (exec Tryz.prog (tab (n + 1)) 0 27 (livesOf 90) big fea_C4) (livesOf 90 (outOf 4)) (fea_h4 a0 a1 i_4) (.ret) (fea_o4a ) := by
  have C1_ : i_4 < a0.length := by omega
  obtain ⟨EL2, EG2⟩ := List.getElem?_eq_some_iff.1 E2
  obtain ⟨EL3, EG3⟩ := List.getElem?_eq_some_iff.1 E3
  simp only [formV] at K4
  unfold Leave
  simp +decide [fea_h4, loopsOf, Tryz.f90, fea_o4a, fea_C4, C1, C1_, EL2, EG2, E2, EL3, EG3, E3, K4, C5]
theorem fea_x4_2 (C1 : ¬ (i_4 : Int) < (a0.length : Int)) :
    Leave 0 (exec Tryz.prog (tab (n + 1)) 0 27 (livesOf 90) big fea_C4) (livesOf 90 (outOf 4)) (fea_h4 a0 a1 i_4) (.exit 0) (fea_o4b ) := by
  have C1_ : ¬ i_4 < a0.length := by omega
  unfold Leave
  simp +decide [fea_h4, loopsOf, Tryz.f90, fea_o4b, fea_C4, C1, C1_]
theorem fea_f1 (C1 : ¬ (a0.length : Int) = (a1.length : Int)) :
    run (n + 1) 90 [.sl 4 (a0.map formC), .sl 4 (a1.map formC)] = some (.lit (.bool false)) := by
  have C1_ : ((a0.length : Int) == (a1.length : Int)) = false := by simpa using C1
  have C1_n : ((a0.length : Int) != (a1.length : Int)) = true := by simpa using C1
  unfold run fnP
  simp +decide [Tryz.f90, C1_, C1_n]
theorem fea_f2 (C1 : (a0.length : Int) = (a1.length : Int)) (L2 : loopG Tryz.prog (tab (n + 1)) 0 27 (livesOf 90) 4 fea_C4 (fea_h4 a0 a1 0) = some (.ret, fea_o4a )) :
    run (n + 1) 90 [.sl 4 (a0.map formC), .sl 4 (a1.map formC)] = some (.lit (.bool false)) := by
  have C1_ : ((a0.length : Int) == (a1.length : Int)) = true := by rw [C1]; simp
  have C1_n : ((a0.length : Int) != (a1.length : Int)) = false := by rw [C1]; simp
  unfold run fnP
  simp +decide [Tryz.f90, C1_, C1_n]
  rw [loopX_G (C' := fea_C4) (e := (fea_h4 a0 a1 0)) ?_ ?_, L2]
  rotate_left
  · kernel_rfl
  · simp +decide [fea_h4, C1_, C1_n]
  simp +decide [fea_o4a, C1_, C1_n]
theorem fea_f3 (C1 : (a0.length : Int) = (a1.length : Int)) (L2 : loopG Tryz.prog (tab (n + 1)) 0 27 (livesOf 90) 4 fea_C4 (fea_h4 a0 a1 0) = some (.exit 0, fea_o4b )) :
    run (n + 1) 90 [.sl 4 (a0.map formC), .sl 4 (a1.map formC)] = some (.lit (.bool true)) := by
  have C1_ : ((a0.length : Int) == (a1.length : Int)) = true := by rw [C1]; simp
  have C1_n : ((a0.length : Int) != (a1.length : Int)) = false := by rw [C1]; simp
  unfold run fnP
  simp +decide [Tryz.f90, C1_, C1_n]
  rw [loopX_G (C' := fea_C4) (e := (fea_h4 a0 a1 0)) ?_ ?_, L2]
  rotate_left
  · kernel_rfl
  · simp +decide [fea_h4, C1_, C1_n]
  simp +decide [fea_o4b, C1_, C1_n]
end
end Go.Proofs.YtlpmemelhlnfbaaGreatDoor
set_option linter.all false
set_option maxRecDepth 100000
set_option maxHeartbeats 6400000
namespace Go.Proofs.YtlpmemelhlnfbaaGreatDoor
open Go.RowKit
attribute [local irreducible] run runL loopG exec

theorem list_all {α : Type} {l m : List α} (hl : l.length = m.length) : (∀ i, i < l.length → l[i]? = m[i]?) → l = m := fun h => by
  apply List.ext_getElem?
  intro i
  rcases Nat.lt_or_ge i l.length with hi | hi
  · exact h i hi
  · rw [List.getElem?_eq_none hi, List.getElem?_eq_none (by omega)]
theorem feq_c {n : Nat} {f g : Form} (hf : BdF 17179869184 f) (hg : BdF 17179869184 g) : run n 55 [formV f, formV g] = some (.lit (.bool (tv (f = g)))) := by
  have l1 := hf.l
  have l2 := hg.l
  by_cases hl : f.1.length = g.1.length
  · by_cases hk : f.2 = g.2
    · have L := loopG_all (O := tab n) (P := Tryz.prog) (m := 0) (N := 57) (lives := livesOf 55) (r := 4) (C := feq_C4) (M := f.1.length) (enc := feq_h4 f g) (p := fun i => tv (f.1[i]? = g.1[i]?)) (exN := .exit 0) (exE := .ret) (out := feq_o4b) (outE := feq_o4a) (by omega) (fun h => by cases h) (fun h => by cases h)
        (fun i hi _ => by
          have hx : f.1[i]? = some f.1[i] := List.getElem?_eq_getElem hi
          have hy : g.1[i]? = some (g.1[i]'(by omega)) := List.getElem?_eq_getElem _
          obtain ⟨t, ht⟩ : ∃ t, f.1[i] = t := ⟨_, rfl⟩
          obtain ⟨u, hu⟩ : ∃ u, (g.1[i]'(by omega)) = u := ⟨_, rfl⟩
          rw [ht] at hx
          rw [hu] at hy
          obtain ⟨v, q⟩ := t
          obtain ⟨v', q'⟩ := u
          have hq := hf.t _ (List.mem_of_getElem? hx)
          have hq' := hg.t _ (List.mem_of_getElem? hy)
          dsimp only at hq hq'
          refine ⟨fun hp => ?_, fun hp => ?_⟩
          · have hp := tv_true hp
            rw [hx, hy] at hp
            cases hp
            exact feq_r4_1 (by omega) hx hy rfl hq hq' rfl ⟨by omega, by omega⟩
          · have hp := tv_false hp
            rw [hx, hy] at hp
            by_cases e1 : v = v'
            · exact feq_x4_2 (by omega) hx hy e1 hq hq' fun e2 => hp (by rw [e1, e2])
            · exact feq_x4_1 (by omega) hx hy e1)
        (feq_x4_3 (by omega))
      by_cases hA : ∀ i, i < f.1.length → tv (f.1[i]? = g.1[i]?) = true
      · rw [if_pos hA] at L
        rw [tv_t (Prod.ext (list_all hl fun i hi => tv_true (hA i hi)) hk)]
        exact feq_f4 (by omega) hf.k hg.k hk L
      · rw [if_neg hA] at L
        rw [tv_f fun h => hA fun i hi => tv_t (by rw [h])]
        exact feq_f3 (by omega) hf.k hg.k hk L
    · rw [tv_f fun h => hk (by rw [h])]
      exact feq_f2 (by omega) hf.k hg.k hk
  · rw [tv_f fun h => hl (by rw [h])]
    exact feq_f1 (by omega)
end Go.Proofs.YtlpmemelhlnfbaaGreatDoor
set_option linter.all false
set_option maxRecDepth 100000
set_option maxHeartbeats 6400000
namespace Go.Proofs.YtlpmemelhlnfbaaGreatDoor
open Go.RowKit

section
variable {n : Nat} {a0 : TGraph} {a1 : TGraph} {r : Bool} {r2 : Bool}
theorem rEq_f1 (C1 : a0.Inputs = a1.Inputs) (K2 : run (n + 1) 90 [.sl 4 (a0.Units.map formC), .sl 4 (a1.Units.map formC)] = some (.lit (.bool r))) (C3 : r = true) (K4 : run (n + 1) 90 [.sl 4 (a0.Outputs.map formC), .sl 4 (a1.Outputs.map formC)] = some (.lit (.bool r2))) :
    run (n + 2) 24 [graphV a0, graphV a1] = some (.lit (.bool r2)) := by
  have C1_ : (a0.Inputs == a1.Inputs) = true := by rw [C1]; simp
  have C1_n : (a0.Inputs != a1.Inputs) = false := by rw [C1]; simp
  unfold run fnP
  simp +decide [Tryz.f24, C1_, C1_n, K2, C3, K4]
theorem rEq_f2 (C1 : a0.Inputs = a1.Inputs) (K2 : run (n + 1) 90 [.sl 4 (a0.Units.map formC), .sl 4 (a1.Units.map formC)] = some (.lit (.bool r))) (C3 : r = false) :
    run (n + 2) 24 [graphV a0, graphV a1] = some (.lit (.bool false)) := by
  have C1_ : (a0.Inputs == a1.Inputs) = true := by rw [C1]; simp
  have C1_n : (a0.Inputs != a1.Inputs) = false := by rw [C1]; simp
  unfold run fnP
  simp +decide [Tryz.f24, C1_, C1_n, K2, C3]
theorem rEq_f3 (C1 : ¬ a0.Inputs = a1.Inputs) :
    run (n + 2) 24 [graphV a0, graphV a1] = some (.lit (.bool false)) := by
  have C1_ : (a0.Inputs == a1.Inputs) = false := by simpa using C1
  have C1_n : (a0.Inputs != a1.Inputs) = true := by simpa using C1
  unfold run fnP
  simp +decide [Tryz.f24, C1_, C1_n]
end
end Go.Proofs.YtlpmemelhlnfbaaGreatDoor
set_option linter.all false
set_option maxRecDepth 100000
set_option maxHeartbeats 6400000
namespace Go.Proofs.YtlpmemelhlnfbaaGreatDoor
open Go.RowKit
open Lib (decDigits)
attribute [local irreducible] run runL loopG exec gxl

theorem vtxt_len {f : Form} (hf : TxB f) : (txt f).length ≤ 700000 := by
  have h := txL_len (l := f.1) (a := []) hf.t
  have hm : f.1.length * 6703 ≤ 100 * 6703 := Nat.mul_le_mul_right _ hf.l
  have hk := absT_len2 hf.k
  have hj := jn_len (txL f.1) (ngT f.2) (absT f.2)
  simp only [List.length_nil, Nat.zero_add] at h
  have h2 : (txL f.1).length ≤ f.1.length * 6703 := h
  unfold txt
  split <;> omega
theorem dd_len {u : Nat} (h : u < 1000000000) : (decDigits u).length ≤ 100 := by
  have h2 : (lmb u).length ≤ 2 := lmb_len_le (Nat.lt_of_lt_of_le h (by decide))
  have := dd_small h2
  omega
theorem nl_len {A : List (List UInt8)} {m : Nat} (h : ∀ a ∈ A, a.length + 1 ≤ m) : (nl A).length ≤ A.length * m := by
  induction A with
  | nil => exact Nat.zero_le _
  | cons a A ih =>
    have h1 := h a (by simp)
    have h2 := ih fun x hx => h x (by simp [hx])
    rw [nl_cons, List.length_append, List.length_cons, List.length_cons, Nat.add_mul]
    omega
theorem lnUs_len (I : Int) : ∀ (U : List Form) (j : Nat), (lnUs I j U).length = U.length
  | [], _ => rfl
  | _ :: U, j => by rw [lnUs, List.length_cons, List.length_cons, lnUs_len I U]
theorem lnOs_len : ∀ (U : List Form) (j : Nat), (lnOs j U).length = U.length
  | [], _ => rfl
  | _ :: U, j => by rw [lnOs, List.length_cons, List.length_cons, lnOs_len U]
theorem lnU_len {I : Int} {j : Nat} {f : Form} (hI : 0 ≤ I ∧ I ≤ 1000) (hj : j ≤ 1000) (hf : TxB f) : (lnU I j f).length + 1 ≤ 700201 := by
  have h1 := vtxt_len hf
  have h2 := dd_len (u := (I + (j : Int)).toNat) (by omega)
  unfold lnU midU
  simp only [List.length_cons, List.length_append, List.length_nil]
  omega
theorem lnO_len {j : Nat} {f : Form} (hj : j ≤ 1000) (hf : TxB f) : (lnO j f).length + 1 ≤ 700201 := by
  have h1 := vtxt_len hf
  have h2 := dd_len (u := j) (by omega)
  unfold lnO
  simp only [List.length_cons, List.length_append, List.length_nil]
  omega
theorem lnH_len {I : Int} (hI : 0 ≤ I ∧ I ≤ 1000) : (lnH I).length + 1 ≤ 700201 := by
  have h2 := dd_len (u := I.toNat) (by omega)
  unfold lnH
  simp only [List.length_cons, List.length_append, List.length_nil]
  omega
theorem lnUs_all {I : Int} (hI : 0 ≤ I ∧ I ≤ 1000) : ∀ {U : List Form} {j : Nat}, j + U.length ≤ 1000 → (∀ f ∈ U, TxB f) → ∀ a ∈ lnUs I j U, a.length + 1 ≤ 700201
  | [], _, _, _, a, h => by cases h
  | f :: U, j, hj, hU, a, h => by
    rw [List.length_cons] at hj
    rcases List.mem_cons.1 h with h | h
    · rw [h]; exact lnU_len hI (by omega) (hU f (by simp))
    · exact lnUs_all hI (by omega) (fun u hu => hU u (by simp [hu])) a h
theorem lnOs_all : ∀ {U : List Form} {j : Nat}, j + U.length ≤ 1000 → (∀ f ∈ U, TxB f) → ∀ a ∈ lnOs j U, a.length + 1 ≤ 700201
  | [], _, _, _, a, h => by cases h
  | f :: U, j, hj, hU, a, h => by
    rw [List.length_cons] at hj
    rcases List.mem_cons.1 h with h | h
    · rw [h]; exact lnO_len (by omega) (hU f (by simp))
    · exact lnOs_all (by omega) (fun u hu => hU u (by simp [hu])) a h
section
variable {n : Nat}
theorem vbw_c {a s : List UInt8} (hl : a.length + s.length ≤ 90000000) : ∃ r : Int, runL (n + 1) 69 [.ptr 0 0, .lit (.string (bs s))] [.box 88 [.ptr 0 0, .own 1 (bs a).size] false, .row 5 1 (strEls (bs a)) 0] = some (.tup [.lit (.int .i64 r), .lit .nilIface], [(0, .box 88 [.ptr 0 0, .own 2 (bs (a ++ s)).size] false), (2, .row 5 1 (strEls (bs (a ++ s))) 0)]) := by
  have h := bws_1 (n := n) (a := bs a) (s := bs s) (roomy_s (by rw [bs_size, bs_size]; omega) (by omega))
  have h2 : (bs a).size + (bs s).size = (bs (a ++ s)).size := by rw [bs_size, bs_size, bs_size, List.length_append]
  rw [bs_app, h2] at h
  exact ⟨_, h⟩
theorem vbw0_c {s : List UInt8} (hl : s.length ≤ 90000000) : ∃ r : Int, runL (n + 1) 69 [.ptr 0 0, .lit (.string (bs s))] [.box 88 [.lit (.pointer none), .nl 1] false] = some (.tup [.lit (.int .i64 r), .lit .nilIface], [(0, .box 88 [.ptr 0 0, .own 1 (bs s).size] false), (1, .row 5 1 (strEls (bs s)) 0)]) :=
  ⟨_, bws_0 (n := n) (s := bs s) (roomy_s (by rw [bs_size]; omega) (by omega))⟩
theorem sz2 {a b : List UInt8} (h : a.length + b.length ≤ 900000000) : (bs a).size + (bs b).size ≤ 9000000000000000000 := by rw [bs_size, bs_size]; omega
variable {g : TGraph}
def gU (g : TGraph) (i : Nat) : List UInt8 := nl (lnH g.Inputs :: lnUs g.Inputs 0 (g.Units.take i))
def gO (g : TGraph) (i : Nat) : List UInt8 := nl ((lnH g.Inputs :: lnUs g.Inputs 0 g.Units) ++ lnOs 0 (g.Outputs.take i))
theorem gU_step {i : Nat} {f : Form} (hx : g.Units[i]? = some f) : gU g (i + 1) = gU g i ++ (lnU g.Inputs i f ++ [10]) := by
  have hi := (List.getElem?_eq_some_iff.1 hx).1
  have htk : g.Units.take (i + 1) = g.Units.take i ++ [f] := by rw [List.take_add_one, hx]; rfl
  unfold gU
  rw [htk, lnUs_snoc, List.length_take, Nat.min_eq_left (by omega), ← List.cons_append, nl_snoc, Nat.zero_add]
theorem gO_step {i : Nat} {f : Form} (hx : g.Outputs[i]? = some f) : gO g (i + 1) = gO g i ++ (lnO i f ++ [10]) := by
  have hi := (List.getElem?_eq_some_iff.1 hx).1
  have htk : g.Outputs.take (i + 1) = g.Outputs.take i ++ [f] := by rw [List.take_add_one, hx]; rfl
  unfold gO
  rw [htk, lnOs_snoc, List.length_take, Nat.min_eq_left (by omega), ← List.append_assoc, nl_snoc, Nat.zero_add]
structure GTx (g : TGraph) : Prop where
  i : 0 ≤ g.Inputs ∧ g.Inputs ≤ 1000
  lu : g.Units.length ≤ 10
  lo : g.Outputs.length ≤ 10
  u : ∀ f ∈ g.Units, TxB f
  o : ∀ f ∈ g.Outputs, TxB f
theorem gU_len (h : GTx g) (i : Nat) : (gU g i).length ≤ 12 * 700201 := by
  have hl := h.lu
  have h1 := nl_len (A := lnH g.Inputs :: lnUs g.Inputs 0 (g.Units.take i)) (m := 700201) fun a ha => by
    rcases List.mem_cons.1 ha with e | e
    · rw [e]; exact lnH_len h.i
    · exact lnUs_all h.i (by rw [List.length_take]; omega) (fun f hf => h.u f (List.mem_of_mem_take hf)) a e
  rw [List.length_cons, lnUs_len, List.length_take] at h1
  exact Nat.le_trans h1 (Nat.mul_le_mul_right _ (by omega))
theorem gO_len (h : GTx g) (i : Nat) : (gO g i).length ≤ 24 * 700201 := by
  have hl := h.lu
  have hl2 := h.lo
  have h1 := nl_len (A := (lnH g.Inputs :: lnUs g.Inputs 0 g.Units) ++ lnOs 0 (g.Outputs.take i)) (m := 700201) fun a ha => by
    rcases List.mem_append.1 ha with ha | ha
    · rcases List.mem_cons.1 ha with e | e
      · rw [e]; exact lnH_len h.i
      · exact lnUs_all h.i (by omega) h.u a e
    · exact lnOs_all (by rw [List.length_take]; omega) (fun f hf => h.o f (List.mem_of_mem_take hf)) a ha
  rw [List.length_append, List.length_cons, lnUs_len, lnOs_len, List.length_take] at h1
  exact Nat.le_trans h1 (Nat.mul_le_mul_right _ (by omega))
theorem gO_0 : gO g 0 = gU g g.Units.length := by
  unfold gO gU
  rw [List.take_length, List.take_zero]
  show nl (_ ++ []) = _
  rw [List.append_nil]
theorem gO_all : gO g g.Outputs.length = gtxt g := by
  unfold gO gtxt
  rw [List.take_length]
theorem gU_0 : gU g 0 = lnH g.Inputs ++ [10] := by
  unfold gU
  rw [List.take_zero]
  show nl [lnH g.Inputs] = _
  simp [nl]
def hd7 : List UInt8 := [105, 110, 112, 117, 116, 115, 32]
theorem vnum_c {z : Int} (h0 : 0 ≤ z) (h1 : z ≤ 100000) : run (n + 6) 94 [.lit (.int .i64 z)] = some (.lit (.string (bs (decDigits z.toNat)))) := by
  have K := fdg_c (n := n + 1) (K := z.toNat) (by have h2 : (lmb z.toNat).length ≤ 2 := lmb_len_le (by omega); omega)
  exact num15_f1 (n := n + 1) (by rw [wrapU64]; omega) (k_ofu (z := z) (by omega) (by omega)) K
theorem gtx_c (h : GTx g) (hv : run (n + 7) 41 [graphV g] = some (.lit (.bool true))) : run (n + 8) 28 [graphV g] = some (.lit (.string (bs (gtxt g)))) := by
  have hi := h.i
  have hlu := h.lu
  have hlo := h.lo
  have cx : (⟨#[120]⟩ : ByteArray) = bs [120] := rfl
  have cy : (⟨#[121]⟩ : ByteArray) = bs [121] := rfl
  have cm : (⟨#[32, 61, 32, 109, 97, 120, 40, 48, 44, 32]⟩ : ByteArray) = bs midU := rfl
  have ce : (⟨#[32, 61, 32]⟩ : ByteArray) = bs [32, 61, 32] := rfl
  have cp : (⟨#[41, 10]⟩ : ByteArray) = bs [41, 10] := rfl
  have cn : (⟨#[10]⟩ : ByteArray) = bs [10] := rfl
  have ch : (⟨#[105, 110, 112, 117, 116, 115, 32]⟩ : ByteArray) = bs hd7 := rfl
  have lm : midU.length = 10 := rfl
  have lh : hd7.length = 7 := rfl
  have hdd := dd_len (u := g.Inputs.toNat) (by omega)
  obtain ⟨r0, K6⟩ := vbw0_c (n := n + 6) (s := gU g 0) (by have := gU_len h 0; omega)
  obtain ⟨b1, L1, I1⟩ := loopG_R (β := Unit) (O := tab (n + 8)) (P := Tryz.prog) (m := 0) (N := 57) (lives := livesOf 28) (r := 6) (C := gtx_C6) (exN := .exit 0) (M := g.Units.length) (enc := fun i _ => gtx_h6 g i (bs (gU g i))) (out := fun _ => gtx_o6a g (bs (gU g g.Units.length))) (fun _ _ => True) () trivial (by omega) (by simp)
    (fun i _ hlt _ => by
      obtain ⟨f, hx⟩ : ∃ f, g.Units[i]? = some f := ⟨_, List.getElem?_eq_getElem hlt⟩
      have hf := h.u f (List.mem_of_getElem? hx)
      have hl1 := vtxt_len hf
      have hl2 := dd_len (u := (g.Inputs + (i : Int)).toNat) (by omega)
      have hl3 := gU_len h i
      have e := gU_step hx
      obtain ⟨r, W⟩ := vbw_c (n := n + 6) (a := gU g i) (s := lnU g.Inputs i f ++ [10]) (by have := lnU_len (j := i) hi (by omega) hf; simp only [List.length_append, List.length_cons, List.length_nil]; omega)
      rw [← e] at W
      have es : bs (lnU g.Inputs i f ++ [10]) = (((bs [120] ++ bs (decDigits (g.Inputs + (i : Int)).toNat)) ++ bs midU) ++ bs (txt f)) ++ bs [41, 10] := by
        rw [bs_app, bs_app, bs_app, bs_app]
        unfold lnU
        simp
      refine ⟨(), ?_, trivial⟩
      refine gtx_r6_1 (F3 := f.1) (q3 := f.2) (cat14 := bs (lnU g.Inputs i f ++ [10])) (r16 := 0) (by omega) hx ⟨by omega, by omega⟩ (k_itoa (by omega) (by omega)) (by rw [cx]; exact sz2 (by simp only [List.length_append, List.length_cons, List.length_nil]; omega)) rfl ?_ rfl (ltx_c (n := n) (f := f) hf) ?_ rfl ?_ (by rw [cx, cm, cp]; exact es) W ⟨by omega, by omega⟩
      · rw [cx, cm, bs_app]; exact sz2 (by simp only [List.length_append, List.length_cons, List.length_nil]; omega)
      · rw [cx, cm, bs_app, bs_app]; exact sz2 (by simp only [List.length_append, List.length_cons, List.length_nil]; omega)
      · rw [cx, cm, cp, bs_app, bs_app, bs_app]; exact sz2 (by simp only [List.length_append, List.length_cons, List.length_nil]; omega))
    (fun _ _ => gtx_x6_1 (by omega))
  obtain ⟨b2, L2, I2⟩ := loopG_R (β := Unit) (O := tab (n + 8)) (P := Tryz.prog) (m := 0) (N := 57) (lives := livesOf 28) (r := 11) (C := gtx_C11) (exN := .exit 2) (M := g.Outputs.length) (enc := fun i _ => gtx_h11 g i (bs (gO g i))) (out := fun _ => gtx_o11a (bs (gO g g.Outputs.length))) (fun _ _ => True) () trivial (by omega) (by simp)
    (fun i _ hlt _ => by
      obtain ⟨f, hx⟩ : ∃ f, g.Outputs[i]? = some f := ⟨_, List.getElem?_eq_getElem hlt⟩
      have hf := h.o f (List.mem_of_getElem? hx)
      have hl1 := vtxt_len hf
      have hl2 := dd_len (u := i) (by omega)
      have hl3 := gO_len h i
      have e := gO_step hx
      obtain ⟨r, W⟩ := vbw_c (n := n + 6) (a := gO g i) (s := lnO i f ++ [10]) (by have := lnO_len (j := i) (by omega) hf; simp only [List.length_append, List.length_cons, List.length_nil]; omega)
      rw [← e] at W
      have es : bs (lnO i f ++ [10]) = (((bs [121] ++ bs (decDigits i)) ++ bs [32, 61, 32]) ++ bs (txt f)) ++ bs [10] := by
        rw [bs_app, bs_app, bs_app, bs_app]
        unfold lnO
        simp
      have kI := k_itoa (v := (i : Int)) (by omega) (by omega)
      rw [Int.toNat_natCast] at kI
      refine ⟨(), ?_, trivial⟩
      refine gtx_r11_1 (F6 := f.1) (q6 := f.2) (cat26 := bs (lnO i f ++ [10])) (r28 := 0) (by omega) hx kI (by rw [cy]; exact sz2 (by simp only [List.length_append, List.length_cons, List.length_nil]; omega)) rfl ?_ rfl (ltx_c (n := n) (f := f) hf) ?_ rfl ?_ (by rw [cy, ce, cn]; exact es) W ⟨by omega, by omega⟩
      · rw [cy, ce, bs_app]; exact sz2 (by simp only [List.length_append, List.length_cons, List.length_nil]; omega)
      · rw [cy, ce, bs_app, bs_app]; exact sz2 (by simp only [List.length_append, List.length_cons, List.length_nil]; omega)
      · rw [cy, ce, cn, bs_app, bs_app, bs_app]; exact sz2 (by simp only [List.length_append, List.length_cons, List.length_nil]; omega))
    (fun _ _ => gtx_x11_1 (by omega))
  rw [gO_0] at L2
  rw [gO_all] at L2
  have hne : gtxt g ≠ [] := fun e => by
    have := congrArg List.length e
    unfold gtxt at this
    rw [List.cons_append, nl_cons, List.length_append, List.length_cons] at this
    simp at this
  have hgl := gO_len h g.Outputs.length
  rw [gO_all] at hgl
  have Z := bstr_c (n := n + 1) hne (by omega)
  rw [gU_0] at K6 L1
  have e0 : bs (lnH g.Inputs ++ [10]) = (bs hd7 ++ bs (decDigits g.Inputs.toNat)) ++ bs [10] := by rw [bs_app, bs_app]; rfl
  exact gtx_f2 (cat2 := bs (lnH g.Inputs ++ [10])) (r4 := 0) hv rfl (k_itoa (by omega) (by omega)) (by rw [ch]; exact sz2 (by omega)) rfl (by rw [ch, cn, bs_app]; exact sz2 (by simp only [List.length_append, List.length_cons, List.length_nil]; omega)) (by rw [ch, cn]; exact e0) K6 L1 L2 Z
theorem gtf_c (h : GTx g) (hv : run (n + 6) 25 [graphV g] = some (.lit (.bool true))) : run (n + 7) 29 [graphV g] = some (.lit (.string (bs (gtxt g)))) := by
  have hi := h.i
  have hlu := h.lu
  have hlo := h.lo
  have cx : (⟨#[120]⟩ : ByteArray) = bs [120] := rfl
  have cy : (⟨#[121]⟩ : ByteArray) = bs [121] := rfl
  have cm : (⟨#[32, 61, 32, 109, 97, 120, 40, 48, 44, 32]⟩ : ByteArray) = bs midU := rfl
  have ce : (⟨#[32, 61, 32]⟩ : ByteArray) = bs [32, 61, 32] := rfl
  have cp : (⟨#[41, 10]⟩ : ByteArray) = bs [41, 10] := rfl
  have cn : (⟨#[10]⟩ : ByteArray) = bs [10] := rfl
  have ch : (⟨#[105, 110, 112, 117, 116, 115, 32]⟩ : ByteArray) = bs hd7 := rfl
  have lm : midU.length = 10 := rfl
  have lh : hd7.length = 7 := rfl
  have hdd := dd_len (u := g.Inputs.toNat) (by omega)
  obtain ⟨b1, L1, I1⟩ := loopG_R (β := Unit) (O := tab (n + 7)) (P := Tryz.prog) (m := 0) (N := 60) (lives := livesOf 29) (r := 5) (C := gtf_C5) (exN := .exit 0) (M := g.Units.length) (enc := fun i _ => gtf_h5 g (bs (gU g i)) i) (out := fun _ => gtf_o5a g (bs (gU g g.Units.length))) (fun _ _ => True) () trivial (by omega) (by simp)
    (fun i _ hlt _ => by
      obtain ⟨f, hx⟩ : ∃ f, g.Units[i]? = some f := ⟨_, List.getElem?_eq_getElem hlt⟩
      have hf := h.u f (List.mem_of_getElem? hx)
      have hl1 := vtxt_len hf
      have hl2 := dd_len (u := (g.Inputs + (i : Int)).toNat) (by omega)
      have hl3 := gU_len h i
      have hl4 := lnU_len (j := i) hi (by omega) hf
      have e := gU_step hx
      have es : bs (lnU g.Inputs i f ++ [10]) = (((bs [120] ++ bs (decDigits (g.Inputs + (i : Int)).toNat)) ++ bs midU) ++ bs (txt f)) ++ bs [41, 10] := by
        rw [bs_app, bs_app, bs_app, bs_app]
        unfold lnU
        simp
      refine ⟨(), ?_, trivial⟩
      refine gtf_r5_1 (F3 := f.1) (q3 := f.2) (cat16 := bs (lnU g.Inputs i f ++ [10])) (by omega) ⟨by omega, by omega⟩ (vnum_c (by omega) (by omega)) (by rw [cx]; exact sz2 (by simp only [List.length_append, List.length_cons, List.length_nil]; omega)) rfl ?_ rfl hx (ftx_c (n := n) (f := f) hf) ?_ rfl ?_ (by rw [cx, cm, cp]; exact es) (sz2 (by simp only [List.length_append, List.length_cons, List.length_nil]; omega)) (by rw [e, bs_app]) ⟨by omega, by omega⟩
      · rw [cx, cm, bs_app]; exact sz2 (by simp only [List.length_append, List.length_cons, List.length_nil]; omega)
      · rw [cx, cm, bs_app, bs_app]; exact sz2 (by simp only [List.length_append, List.length_cons, List.length_nil]; omega)
      · rw [cx, cm, cp, bs_app, bs_app, bs_app]; exact sz2 (by simp only [List.length_append, List.length_cons, List.length_nil]; omega))
    (fun _ _ => gtf_x5_1 (by omega))
  obtain ⟨b2, L2, I2⟩ := loopG_R (β := Unit) (O := tab (n + 7)) (P := Tryz.prog) (m := 0) (N := 60) (lives := livesOf 29) (r := 9) (C := gtf_C9) (exN := .exit 2) (M := g.Outputs.length) (enc := fun i _ => gtf_h9 g (bs (gO g i)) i) (out := fun _ => gtf_o9a (bs (gO g g.Outputs.length))) (fun _ _ => True) () trivial (by omega) (by simp)
    (fun i _ hlt _ => by
      obtain ⟨f, hx⟩ : ∃ f, g.Outputs[i]? = some f := ⟨_, List.getElem?_eq_getElem hlt⟩
      have hf := h.o f (List.mem_of_getElem? hx)
      have hl1 := vtxt_len hf
      have hl2 := dd_len (u := i) (by omega)
      have hl3 := gO_len h i
      have hl4 := lnO_len (j := i) (by omega) hf
      have e := gO_step hx
      have es : bs (lnO i f ++ [10]) = (((bs [121] ++ bs (decDigits i)) ++ bs [32, 61, 32]) ++ bs (txt f)) ++ bs [10] := by
        rw [bs_app, bs_app, bs_app, bs_app]
        unfold lnO
        simp
      have kI := vnum_c (n := n) (z := (i : Int)) (by omega) (by omega)
      rw [Int.toNat_natCast] at kI
      refine ⟨(), ?_, trivial⟩
      refine gtf_r9_1 (F6 := f.1) (q6 := f.2) (cat31 := bs (lnO i f ++ [10])) (by omega) kI (by rw [cy]; exact sz2 (by simp only [List.length_append, List.length_cons, List.length_nil]; omega)) rfl ?_ rfl hx (ftx_c (n := n) (f := f) hf) ?_ rfl ?_ (by rw [cy, ce, cn]; exact es) (sz2 (by simp only [List.length_append, List.length_cons, List.length_nil]; omega)) (by rw [e, bs_app]) ⟨by omega, by omega⟩
      · rw [cy, ce, bs_app]; exact sz2 (by simp only [List.length_append, List.length_cons, List.length_nil]; omega)
      · rw [cy, ce, bs_app, bs_app]; exact sz2 (by simp only [List.length_append, List.length_cons, List.length_nil]; omega)
      · rw [cy, ce, cn, bs_app, bs_app, bs_app]; exact sz2 (by simp only [List.length_append, List.length_cons, List.length_nil]; omega))
    (fun _ _ => gtf_x9_1 (by omega))
  rw [gO_0] at L2
  rw [gO_all] at L2
  rw [gU_0] at L1
  have e0 : bs (lnH g.Inputs ++ [10]) = (bs hd7 ++ bs (decDigits g.Inputs.toNat)) ++ bs [10] := by rw [bs_app, bs_app]; rfl
  exact gtf_f2 (cat2 := bs (lnH g.Inputs ++ [10])) hv rfl (vnum_c (by omega) (by omega)) (by rw [ch]; exact sz2 (by omega)) rfl (by rw [ch, cn, bs_app]; exact sz2 (by simp only [List.length_append, List.length_cons, List.length_nil]; omega)) (by rw [ch, cn]; exact e0) L1 L2
theorem GrOk.gtx (hg : GrOk g) : GTx g ∧ (∀ f ∈ g.Units, TxN f) ∧ ∀ f ∈ g.Outputs, TxN f := by
  have h0 := hg.i0
  have h1 := hg.i1
  have h2 := hg.u
  have h3 := hg.o1
  have hU : ∀ f ∈ g.Units, TxN f ∧ TxB f := fun f hf => by
    obtain ⟨i, hi⟩ := List.mem_iff_getElem?.1 hf
    have := (List.getElem?_eq_some_iff.1 hi).1
    exact (hg.un i f hi).tx (by omega)
  have hO : ∀ f ∈ g.Outputs, TxN f ∧ TxB f := fun f hf => (hg.ou f hf).tx (by omega)
  exact ⟨⟨⟨by omega, by omega⟩, by omega, by omega, fun f hf => (hU f hf).2, fun f hf => (hO f hf).2⟩, fun f hf => (hU f hf).1, fun f hf => (hO f hf).1⟩
theorem fea_c {L M : List Form} (hl : L.length ≤ 1000) (hm : M.length ≤ 1000) (hB : ∀ f ∈ L, BdF 17179869184 f) (hC : ∀ f ∈ M, BdF 17179869184 f) : run (n + 1) 90 [.sl 4 (L.map formC), .sl 4 (M.map formC)] = some (.lit (.bool (tv (L = M)))) := by
  by_cases c : (L.length : Int) = (M.length : Int)
  · have hG := loopG_all (O := tab (n + 1)) (P := Tryz.prog) (m := 0) (N := 27) (lives := livesOf 90) (r := 4) (C := fea_C4) (M := L.length) (enc := fun i => fea_h4 L M i) (p := fun i => tv (L[i]? = M[i]?)) (exN := .exit 0) (exE := .ret) (out := fea_o4b) (outE := fea_o4a) (by omega) (fun h => by cases h) (fun h => by cases h)
      (fun i hi _ => by
        obtain ⟨f, hx⟩ : ∃ f, L[i]? = some f := ⟨_, List.getElem?_eq_getElem hi⟩
        obtain ⟨e, hy⟩ : ∃ e, M[i]? = some e := ⟨_, List.getElem?_eq_getElem (by omega)⟩
        have K := feq_c (n := n) (hB f (List.mem_of_getElem? hx)) (hC e (List.mem_of_getElem? hy))
        have et : tv (L[i]? = M[i]?) = tv (f = e) := tv_iff (by rw [hx, hy]; exact ⟨fun h => Option.some.inj h, fun h => by rw [h]⟩)
        rw [et]
        exact ⟨fun hp => fea_r4_1 (by omega) hx hy K hp ⟨by omega, by omega⟩, fun hp => fea_x4_1 (by omega) hx hy K hp⟩)
      (fea_x4_2 (by omega))
    by_cases e : L = M
    · rw [if_pos (fun i hi => tv_t (by rw [e]))] at hG
      rw [tv_t e]
      exact fea_f3 c hG
    · rw [if_neg (fun h2 => e (list_all (by omega) fun i hi => tv_true (h2 i hi)))] at hG
      rw [tv_f e]
      exact fea_f2 c hG
  · rw [tv_f (fun e => c (by rw [e]))]
    exact fea_f1 c
theorem rEq_c {a b : TGraph} (ha : GrOk a) (hb : GrOk b) : run (n + 2) 24 [graphV a, graphV b] = some (.lit (.bool (tv (a = b)))) := by
  have h1 := ha.u
  have h2 := ha.o1
  have h3 := hb.u
  have h4 := hb.o1
  have Ba := ha.bd.mono (c := 17179869184) (by omega)
  have Bb := hb.bd.mono (c := 17179869184) (by omega)
  have K1 := fea_c (n := n) (L := a.Units) (M := b.Units) (by omega) (by omega) Ba.u Bb.u
  have K2 := fea_c (n := n) (L := a.Outputs) (M := b.Outputs) (by omega) (by omega) Ba.o Bb.o
  by_cases c1 : a.Inputs = b.Inputs
  · by_cases c2 : a.Units = b.Units
    · rw [tv_t c2] at K1
      have e : tv (a.Outputs = b.Outputs) = tv (a = b) := tv_iff ⟨fun h => by
        obtain ⟨_, _, _⟩ := a
        obtain ⟨_, _, _⟩ := b
        dsimp only at c1 c2 h
        rw [c1, c2, h], fun h => by rw [h]⟩
      rw [e] at K2
      exact rEq_f1 c1 K1 rfl K2
    · rw [tv_f c2] at K1
      rw [tv_f (fun h => c2 (by rw [h]))]
      exact rEq_f2 c1 K1 rfl
  · rw [tv_f (fun h => c1 (by rw [h]))]
    exact rEq_f3 c1
end
theorem gtext_true {n : Nat} {xa bs_ : List Int} (ha : ∀ x ∈ xa, 0 ≤ x ∧ x < 256) (hb : ∀ x ∈ bs_, 0 ≤ x ∧ x < 256) : gxl n [.sl 1 (xa.map intU8C), .sl 1 (bs_.map intU8C)] = some (.lit (.bool true)) := by
  by_cases c1 : 400 < (xa.length : Int)
  · exact gxl_f1 c1
  by_cases c2 : 400 < (bs_.length : Int)
  · exact gxl_f2 c1 c2
  obtain ⟨g, K3, hg⟩ := small15_c (n := n + 4) ⟨by omega, ha⟩ (by omega)
  obtain ⟨h, K4, hh⟩ := small15_c (n := n + 4) ⟨by omega, hb⟩ (by omega)
  have vg := gvalid_c (n := n + 3) (hg.bd.mono (by omega))
  rw [tv_t hg.ok] at vg
  have vh := gvalid_c (n := n + 3) (hh.bd.mono (by omega))
  rw [tv_t hh.ok] at vh
  have wg := validG_c (n := n + 6) (hg.bd.mono (by omega))
  rw [tv_t hg.ok] at wg
  obtain ⟨g1, g2, g3⟩ := hg.gtx
  obtain ⟨h1, h2, h3⟩ := hh.gtx
  have T1 := gtx_c (n := n + 1) g1 vg
  have T2 := gtf_c (n := n + 2) g1 wg
  have T3 := gtx_c (n := n + 1) h1 vh
  have E := rEq_c (n := n + 7) hg hh
  have R := gxl_f3 (n := n) c1 c2 K3 K4 T1 T2 rfl T3 E
  have e : (((bs (gtxt g)).toList == (bs (gtxt h)).toList) == tv (g = h)) = true := by
    rw [ba_toList, ba_toList, bs_data, bs_data]
    by_cases c : g = h
    · rw [tv_t c, c]; simp
    · have hne : gtxt g ≠ gtxt h := fun e => c (gtxt_inj g1.i.1 h1.i.1 g2 g3 h2 h3 e)
      rw [tv_f c]
      simpa using hne
  rw [e] at R
  exact R
end Go.Proofs.YtlpmemelhlnfbaaGreatDoor
