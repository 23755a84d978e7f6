import Derived.Test.YtlpmemelhlnfbaaGreatDoorGA25
import Derived.Test.YtlpmemelhlnfbaaGreatDoorGA20
import Derived.Test.YtlpmemelhlnfbaaGreatDoorGA26
import Derived.Test.YtlpmemelhlnfbaaGreatDoorGA16
import Derived.Test.YtlpmemelhlnfbaaGreatDoorGA17
import Derived.Test.YtlpmemelhlnfbaaGreatDoorGA21
set_option linter.all false
set_option maxRecDepth 100000
set_option maxHeartbeats 6400000
namespace Go.Proofs.YtlpmemelhlnfbaaGreatDoor
open Go.RowKit
attribute [local irreducible] run runL loopG exec
end Go.Proofs.YtlpmemelhlnfbaaGreatDoor
set_option linter.all false
set_option maxRecDepth 100000
set_option maxHeartbeats 6400000
namespace Go.Proofs.YtlpmemelhlnfbaaGreatDoor
open Go.RowKit
end Go.Proofs.YtlpmemelhlnfbaaGreatDoor
set_option linter.all false
set_option maxRecDepth 100000
namespace Go.Proofs.YtlpmemelhlnfbaaGreatDoor
open Go.RowKit
attribute [local irreducible] run runL loopG exec
end Go.Proofs.YtlpmemelhlnfbaaGreatDoor
set_option linter.all false
set_option maxRecDepth 100000
set_option maxHeartbeats 6400000
namespace Go.Proofs.YtlpmemelhlnfbaaGreatDoor
open Go.RowKit
section
variable {a1 : Int} {a0 : TGraph} {r : Bool} {n : Nat}
theorem unt_f2 (K1 : run (n + 2) 25 [graphV a0] = some (.lit (.bool r))) (C2 : r = true) (C3 : a1 < 0) :
    run (n + 3) 85 [graphV a0, .lit (.int .i64 a1)] = some (.lit (.int .i64 2)) := by
  simp only [graphV] at K1
  unfold run fnP
  simp +decide [Tryz.f85, K1, C2, C3]
theorem unt_f3 (K1 : run (n + 2) 25 [graphV a0] = some (.lit (.bool r))) (C2 : r = true) (C3 : ¬ a1 < 0) (C4 : (a0.Units.length : Int) ≤ a1) :
    run (n + 3) 85 [graphV a0, .lit (.int .i64 a1)] = some (.lit (.int .i64 2)) := by
  simp only [graphV] at K1
  unfold run fnP
  simp +decide [Tryz.f85, K1, C2, C3, C4]
theorem unt_f4 (K1 : run (n + 2) 25 [graphV a0] = some (.lit (.bool r))) (C2 : r = true) (C3 : ¬ a1 < 0) (C4 : ¬ (a0.Units.length : Int) ≤ a1) :
    run (n + 3) 85 [graphV a0, .lit (.int .i64 a1)] = some (.lit (.int .i64 0)) := by
  simp only [graphV] at K1
  unfold run fnP
  simp +decide [Tryz.f85, K1, C2, C3, C4]
end
end Go.Proofs.YtlpmemelhlnfbaaGreatDoor
set_option linter.all false
set_option maxRecDepth 100000
set_option maxHeartbeats 6400000
namespace Go.Proofs.YtlpmemelhlnfbaaGreatDoor
open Go.RowKit
section
variable {a1 : Int} {a2 : Bool} {a0 : TGraph} {r : Bool} {n : Nat}
theorem gck_f3 (K1 : run (n + 5) 41 [graphV a0] = some (.lit (.bool r))) (C2 : r = true) (C3 : a2 = true) (C4 : a1 < 0) :
    run (n + 6) 76 [graphV a0, .lit (.int .i64 a1), .lit (.bool a2)] = some (.lit (.int .i64 2)) := by
  simp only [graphV] at K1
  unfold run fnP
  simp +decide [Tryz.f76, K1, C2, C3, C4]
theorem gck_f4 (K1 : run (n + 5) 41 [graphV a0] = some (.lit (.bool r))) (C2 : r = true) (C3 : a2 = true) (C4 : ¬ a1 < 0) (C5 : (a0.Units.length : Int) ≤ a1) :
    run (n + 6) 76 [graphV a0, .lit (.int .i64 a1), .lit (.bool a2)] = some (.lit (.int .i64 2)) := by
  simp only [graphV] at K1
  unfold run fnP
  simp +decide [Tryz.f76, K1, C2, C3, C4, C5]
theorem gck_f5 (K1 : run (n + 5) 41 [graphV a0] = some (.lit (.bool r))) (C2 : r = true) (C3 : a2 = true) (C4 : ¬ a1 < 0) (C5 : ¬ (a0.Units.length : Int) ≤ a1) :
    run (n + 6) 76 [graphV a0, .lit (.int .i64 a1), .lit (.bool a2)] = some (.lit (.int .i64 0)) := by
  simp only [graphV] at K1
  unfold run fnP
  simp +decide [Tryz.f76, K1, C2, C3, C4, C5]
end
theorem gvr_f1 {n : Nat} {a0 : Int} {a1 : Rat}  :
    run n 82 [.lit (.int .i64 a0), ratV a1] = some (.agg [.sl 4 [[.lit (.int .i64 a0), .lit (.bool (rawQ a1).s), natA (rawQ a1).l1, natA (rawQ a1).l2]], .lit (.bool false), .sl 1 [], .sl 1 []]) := by
  unfold run fnP
  simp +decide [Tryz.f82]
end Go.Proofs.YtlpmemelhlnfbaaGreatDoor
set_option linter.all false
set_option maxRecDepth 100000
set_option maxHeartbeats 6400000
namespace Go.Proofs.YtlpmemelhlnfbaaGreatDoor
open Go.RowKit
theorem cpy_f1 {n : Nat} {a0 : TGraph} (M1 : a0.Units.length ≤ 100000000) (M2 : a0.Outputs.length ≤ 100000000) :
    run n 22 [graphV a0] = some (graphV a0) := by
  have M1_ : ∀ b, b ≤ 10000 → roomy (a0.Units.length) b = true := fun b hb => roomy_s M1 hb
  have M2_ : ∀ b, b ≤ 10000 → roomy (a0.Outputs.length) b = true := fun b hb => roomy_s M2 hb
  unfold run fnP
  simp +decide [Tryz.f22, M1_, M2_]
end Go.Proofs.YtlpmemelhlnfbaaGreatDoor
set_option linter.all false
set_option maxRecDepth 100000
set_option maxHeartbeats 6400000
namespace Go.Proofs.YtlpmemelhlnfbaaGreatDoor
open Go.RowKit
theorem rEq_f1 {n : Nat} {a0 : TGraph} {a1 : TGraph} {r : Bool} {r2 : Bool} (C1 : a0.Inputs = a1.Inputs) (K2 : run (n + 1) 90 [.sl 4 (a0.Units.map formC), .sl 4 (a1.Units.map formC)] = some (.lit (.bool r))) (C3 : r = true) (K4 : run (n + 1) 90 [.sl 4 (a0.Outputs.map formC), .sl 4 (a1.Outputs.map formC)] = some (.lit (.bool r2))) :
    run (n + 2) 24 [graphV a0, graphV a1] = some (.lit (.bool r2)) := by
  have C1_ : (a0.Inputs == a1.Inputs) = true := by rw [C1]; simp
  have C1_n : (a0.Inputs != a1.Inputs) = false := by rw [C1]; simp
  unfold run fnP
  simp +decide [Tryz.f24, C1_, C1_n, K2, C3, K4]
theorem sme_f1 {n : Nat} {a0 : TGraph} {a1 : TGraph} {a2 : List Rat} {r : List Rat} {r2 : Int} {r3 : List Rat} {r4 : Int} {r5 : Bool} (K1 : run (n + 5) 37 [graphV a0, .sl 3 (a2.map ratC)] = some (.tup [.sl 3 (r.map ratC), .lit (.int .i64 r2)])) (K2 : run (n + 5) 37 [graphV a1, .sl 3 (a2.map ratC)] = some (.tup [.sl 3 (r3.map ratC), .lit (.int .i64 r4)])) (C3 : r2 = 0) (C4 : r4 = 0) (K5 : run (n + 5) 38 [.sl 3 (r.map ratC), .sl 3 (r3.map ratC)] = some (.lit (.bool r5))) :
    run (n + 6) 26 [graphV a0, graphV a1, .sl 3 (a2.map ratC)] = some (.lit (.bool r5)) := by
  simp only [graphV] at K1
  simp only [graphV] at K2
  have C3_ : (r2 == 0) = true := by rw [C3]; simp
  have C3_n : (r2 != 0) = false := by rw [C3]; simp
  have C4_ : (r4 == 0) = true := by rw [C4]; simp
  have C4_n : (r4 != 0) = false := by rw [C4]; simp
  unfold run fnP
  simp +decide [Tryz.f26, K1, K2, C3_, C3_n, C4_, C4_n, K5]
noncomputable def sal_C4 : Code := (loopsOf (bodyOf Tryz.f38)).getD 0 .skip
def sal_h4 (a0 : List Rat) (a1 : List Rat) (i_4 : Nat) : St :=
  ⟨[(0, .sl 3 (a0.map ratC)), (1, .sl 3 (a1.map ratC)), (5, .lit (.int .i64 (i_4 : Int)))],
   [], 0⟩
def sal_o4b  : St :=
  ⟨[(4, .any)],
   [], 0⟩
section
variable {a1 : List Rat} {i_4 : Nat} {x6 : Rat} {a0 : List Rat} {x5 : Rat} {n : Nat}
theorem sal_r4_1 (C1 : (i_4 : Int) < (a0.length : Int)) (E2 : a0[i_4]? = some x5) (E3 : a1[i_4]? = some x6) (B4a : H x5 ≤ 17179869184) (B4b : H x6 ≤ 17179869184) (C5 : x5 = x6) (W6 : InI ((i_4 : Int) + 1)) :
    Cont 0 (exec Tryz.prog (tab n) 0 27 (livesOf 38) big sal_C4) (livesOf 38 4) (sal_h4 a0 a1 i_4) (sal_h4 a0 a1 (i_4 + 1)) := by
  have C1_ : i_4 < a0.length := by omega
  obtain ⟨EL2, EG2⟩ := List.getElem?_eq_some_iff.1 E2
  obtain ⟨EL3, EG3⟩ := List.getElem?_eq_some_iff.1 E3
  have K4 := r_same (p := x5) (q := x6) B4a B4b
  have C5_ : decide (x5 = x6) = true := decide_eq_true C5
  have W6_ : IntKind.i64.wrap ((i_4 : Int) + 1) = (i_4 : Int) + 1 := wr64 W6.1 W6.2
  unfold Cont
  simp +decide [sal_h4, loopsOf, Tryz.f38, sal_C4, C1, C1_, EL2, EG2, E2, EL3, EG3, E3, K4, C5_, W6_]
theorem sal_x4_2 (C1 : ¬ (i_4 : Int) < (a0.length : Int)) :
    Leave 0 (exec Tryz.prog (tab n) 0 27 (livesOf 38) big sal_C4) (livesOf 38 (outOf 4)) (sal_h4 a0 a1 i_4) (.exit 0) (sal_o4b ) := by
  have C1_ : ¬ i_4 < a0.length := by omega
  unfold Leave
  simp +decide [sal_h4, loopsOf, Tryz.f38, sal_o4b, sal_C4, C1, C1_]
theorem sal_f3 (C1 : (a0.length : Int) = (a1.length : Int)) (L2 : loopG Tryz.prog (tab n) 0 27 (livesOf 38) 4 sal_C4 (sal_h4 a0 a1 0) = some (.exit 0, sal_o4b )) :
    run n 38 [.sl 3 (a0.map ratC), .sl 3 (a1.map ratC)] = some (.lit (.bool true)) := by
  have C1_ : ((a0.length : Int) == (a1.length : Int)) = true := by rw [C1]; simp
  have C1_n : ((a0.length : Int) != (a1.length : Int)) = false := by rw [C1]; simp
  unfold run fnP
  simp +decide [Tryz.f38, C1_, C1_n]
  rw [loopX_G (C' := sal_C4) (e := (sal_h4 a0 a1 0)) ?_ ?_, L2]
  rotate_left
  · kernel_rfl
  · simp +decide [sal_h4, C1_, C1_n]
  simp +decide [sal_o4b, C1_, C1_n]
end
end Go.Proofs.YtlpmemelhlnfbaaGreatDoor
set_option linter.all false
set_option maxRecDepth 100000
set_option maxHeartbeats 6400000
namespace Go.Proofs.YtlpmemelhlnfbaaGreatDoor
open Go.RowKit
noncomputable def glsT (n : Nat) : FuncId → Option Orc := ext (tab (n + 10)) 18 (.pure awG)
noncomputable def gls (n : Nat) (args : List AV) : Option AV := fnP Tryz.prog (glsT n) (livesOf 4) big (fnOf 4) args
end Go.Proofs.YtlpmemelhlnfbaaGreatDoor
set_option linter.all false
set_option maxRecDepth 100000
set_option maxHeartbeats 6400000
namespace Go.Proofs.YtlpmemelhlnfbaaGreatDoor
open Go.RowKit
attribute [local irreducible] run runL loopG exec
theorem list_all {α : Type} {l m : List α} (hl : l.length = m.length) : (∀ i, i < l.length → l[i]? = m[i]?) → l = m := fun h => by
  apply List.ext_getElem?
  intro i
  rcases Nat.lt_or_ge i l.length with hi | hi
  · exact h i hi
  · rw [List.getElem?_eq_none hi, List.getElem?_eq_none (by omega)]
theorem feq_c {n : Nat} {f g : Form} (hf : BdF 17179869184 f) (hg : BdF 17179869184 g) : run n 55 [formV f, formV g] = some (.lit (.bool (tv (f = g)))) := by
  have l1 := hf.l
  have l2 := hg.l
  by_cases hl : f.1.length = g.1.length
  · by_cases hk : f.2 = g.2
    · have L := loopG_all (O := tab n) (P := Tryz.prog) (m := 0) (N := 57) (lives := livesOf 55) (r := 4) (C := feq_C4) (M := f.1.length) (enc := feq_h4 f g) (p := fun i => tv (f.1[i]? = g.1[i]?)) (exN := .exit 0) (exE := .ret) (out := feq_o4b) (outE := feq_o4a) (by omega) (fun h => by cases h) (fun h => by cases h)
        (fun i hi _ => by
          have hx : f.1[i]? = some f.1[i] := List.getElem?_eq_getElem hi
          have hy : g.1[i]? = some (g.1[i]'(by omega)) := List.getElem?_eq_getElem _
          obtain ⟨t, ht⟩ : ∃ t, f.1[i] = t := ⟨_, rfl⟩
          obtain ⟨u, hu⟩ : ∃ u, (g.1[i]'(by omega)) = u := ⟨_, rfl⟩
          rw [ht] at hx
          rw [hu] at hy
          obtain ⟨v, q⟩ := t
          obtain ⟨v', q'⟩ := u
          have hq := hf.t _ (List.mem_of_getElem? hx)
          have hq' := hg.t _ (List.mem_of_getElem? hy)
          dsimp only at hq hq'
          refine ⟨fun hp => ?_, fun hp => ?_⟩
          · have hp := tv_true hp
            rw [hx, hy] at hp
            cases hp
            exact feq_r4_1 (by omega) hx hy rfl hq hq' rfl ⟨by omega, by omega⟩
          · have hp := tv_false hp
            rw [hx, hy] at hp
            by_cases e1 : v = v'
            · exact feq_x4_2 (by omega) hx hy e1 hq hq' fun e2 => hp (by rw [e1, e2])
            · exact feq_x4_1 (by omega) hx hy e1)
        (feq_x4_3 (by omega))
      by_cases hA : ∀ i, i < f.1.length → tv (f.1[i]? = g.1[i]?) = true
      · rw [if_pos hA] at L
        rw [tv_t (Prod.ext (list_all hl fun i hi => tv_true (hA i hi)) hk)]
        exact feq_f4 (by omega) hf.k hg.k hk L
      · rw [if_neg hA] at L
        rw [tv_f fun h => hA fun i hi => tv_t (by rw [h])]
        exact feq_f3 (by omega) hf.k hg.k hk L
    · rw [tv_f fun h => hk (by rw [h])]
      exact feq_f2 (by omega) hf.k hg.k hk
  · rw [tv_f fun h => hl (by rw [h])]
    exact feq_f1 (by omega)
end Go.Proofs.YtlpmemelhlnfbaaGreatDoor
set_option linter.all false
set_option maxRecDepth 100000
set_option maxHeartbeats 6400000
namespace Go.Proofs.YtlpmemelhlnfbaaGreatDoor
open Go.RowKit
attribute [local irreducible] run runL loopG exec
theorem sal_same {n : Nat} {L : List Rat} (hl : L.length ≤ 100000000) (hB : ∀ q ∈ L, H q ≤ 17179869184) : run n 38 [.sl 3 (L.map ratC), .sl 3 (L.map ratC)] = some (.lit (.bool true)) := by
  refine sal_f3 rfl (loopG_I (O := tab n) (P := Tryz.prog) (m := 0) (N := 27) (lives := livesOf 38) (r := 4) (C := sal_C4) (L := L) (f := fun _ (b : Unit) _ => b) (enc := fun i _ => sal_h4 L L i) (exN := .exit 0) (out := fun _ => sal_o4b) (Inv := fun _ _ => True) () trivial (by omega) (by simp)
    (fun i x b hi hI => by
      have hlt := (List.getElem?_eq_some_iff.1 hi).1
      have hx := hB x (List.mem_of_getElem? hi)
      exact ⟨sal_r4_1 (by omega) hi hi hx hx rfl ⟨by omega, by omega⟩, trivial⟩)
    (fun b hI => sal_x4_2 (by omega))).1
end Go.Proofs.YtlpmemelhlnfbaaGreatDoor
