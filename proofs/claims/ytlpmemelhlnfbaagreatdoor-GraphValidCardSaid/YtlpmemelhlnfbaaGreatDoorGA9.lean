import Derived.Test.YtlpmemelhlnfbaaGreatDoorGA8
import Derived.Test.YtlpmemelhlnfbaaGreatDoorGA5
import Derived.Test.YtlpmemelhlnfbaaGreatDoorGA7
set_option linter.all false
set_option maxRecDepth 100000
set_option maxHeartbeats 6400000
namespace Go.Proofs.YtlpmemelhlnfbaaGreatDoor
open Go.RowKit
theorem gvcR_f1 {n : Nat} {a0 : FormR} {c0 : Int} {r : Bool} (K1 : run n 60 [.agg [.sl 4 (a0.1.map termRC), .lit (.bool a0.2.s), natA a0.2.l1, natA a0.2.l2], .lit (.int .i64 c0)] = some (.lit (.bool r))) :
    run (n + 1) 171 [.agg [.sl 4 (a0.1.map termRC), .lit (.bool a0.2.s), natA a0.2.l1, natA a0.2.l2], .mem [.lit (.int .i64 c0)]] = some (.lit (.bool (!r))) := by
  unfold run fnP
  simp +decide [Tryz.f171, K1]
noncomputable def ifgR_C2 : Code := (loopsOf (bodyOf Tryz.f207)).getD 0 .skip
def ifgR_h2 (a0 : List FormR) (c0 : Int) (i_2 : Nat) : St :=
  ⟨[(0, .sl 4 (a0.map formRC)), (1, .clo 171 [.mem [.lit (.int .i64 c0)]]), (7, .lit (.int .i64 (a0.length : Int))), (8, .lit (.int .i64 (i_2 : Int)))],
   [], 0⟩
def ifgR_o2a (i_2 : Nat) : St :=
  ⟨[(4, .lit (.int .i64 (i_2 : Int)))],
   [], 0⟩
def ifgR_o2b  : St :=
  ⟨[(4, .any)],
   [], 0⟩
section
variable {F3 : List (Int × Raw)} {r5 : Raw} {i_2 : Nat} {r6 : Bool} {a0 : List FormR} {c0 : Int} {n : Nat}
theorem ifgR_r2_1 (C1 : (i_2 : Int) < (a0.length : Int)) (E2 : a0[i_2]? = some (F3, r5)) (K3 : run (n + 1) 171 [.agg [.sl 4 (F3.map termRC), .lit (.bool r5.s), natA r5.l1, natA r5.l2], .mem [.lit (.int .i64 c0)]] = some (.lit (.bool r6))) (C4 : r6 = false) (W5 : InI ((i_2 : Int) + 1)) :
    Cont 0 (exec Tryz.prog (tab (n + 2)) 0 19 (livesOf 207) big ifgR_C2) (livesOf 207 2) (ifgR_h2 a0 c0 i_2) (ifgR_h2 a0 c0 (i_2 + 1)) := by
  have C1_ : i_2 < a0.length := by omega
  obtain ⟨EL2, EG2⟩ := List.getElem?_eq_some_iff.1 E2
  have W5_ : IntKind.i64.wrap ((i_2 : Int) + 1) = (i_2 : Int) + 1 := wr64 W5.1 W5.2
  unfold Cont
  simp +decide [ifgR_h2, loopsOf, Tryz.f207, ifgR_C2, C1, C1_, EL2, EG2, E2, K3, C4, W5_]
theorem ifgR_x2_1 (C1 : (i_2 : Int) < (a0.length : Int)) (E2 : a0[i_2]? = some (F3, r5)) (K3 : run (n + 1) 171 [.agg [.sl 4 (F3.map termRC), .lit (.bool r5.s), natA r5.l1, natA r5.l2], .mem [.lit (.int .i64 c0)]] = some (.lit (.bool r6))) (C4 : r6 = true) :
    Leave 0 (exec Tryz.prog (tab (n + 2)) 0 19 (livesOf 207) big ifgR_C2) (livesOf 207 (outOf 2)) (ifgR_h2 a0 c0 i_2) (.ret) (ifgR_o2a i_2) := by
  have C1_ : i_2 < a0.length := by omega
  obtain ⟨EL2, EG2⟩ := List.getElem?_eq_some_iff.1 E2
  unfold Leave
  simp +decide [ifgR_h2, loopsOf, Tryz.f207, ifgR_o2a, ifgR_C2, C1, C1_, EL2, EG2, E2, K3, C4]
theorem ifgR_x2_2 (C1 : ¬ (i_2 : Int) < (a0.length : Int)) :
    Leave 0 (exec Tryz.prog (tab (n + 2)) 0 19 (livesOf 207) big ifgR_C2) (livesOf 207 (outOf 2)) (ifgR_h2 a0 c0 i_2) (.exit 0) (ifgR_o2b ) := by
  have C1_ : ¬ i_2 < a0.length := by omega
  unfold Leave
  simp +decide [ifgR_h2, loopsOf, Tryz.f207, ifgR_o2b, ifgR_C2, C1, C1_]
theorem ifgR_f1 (L1 : loopG Tryz.prog (tab (n + 2)) 0 19 (livesOf 207) 2 ifgR_C2 (ifgR_h2 a0 c0 0) = some (.ret, ifgR_o2a i_2)) :
    run (n + 2) 207 [.sl 4 (a0.map formRC), .clo 171 [.mem [.lit (.int .i64 c0)]]] = some (.lit (.int .i64 (i_2 : Int))) := by
  unfold run fnP
  simp +decide [Tryz.f207]
  rw [loopX_G (C' := ifgR_C2) (e := (ifgR_h2 a0 c0 0)) ?_ ?_, L1]
  rotate_left
  · kernel_rfl
  · simp +decide [ifgR_h2]
  simp +decide [ifgR_o2a]
theorem ifgR_f2 (L1 : loopG Tryz.prog (tab (n + 2)) 0 19 (livesOf 207) 2 ifgR_C2 (ifgR_h2 a0 c0 0) = some (.exit 0, ifgR_o2b )) :
    run (n + 2) 207 [.sl 4 (a0.map formRC), .clo 171 [.mem [.lit (.int .i64 c0)]]] = some (.lit (.int .i64 (-1))) := by
  unfold run fnP
  simp +decide [Tryz.f207]
  rw [loopX_G (C' := ifgR_C2) (e := (ifgR_h2 a0 c0 0)) ?_ ?_, L1]
  rotate_left
  · kernel_rfl
  · simp +decide [ifgR_h2]
  simp +decide [ifgR_o2b]
end
theorem cfgR_f1 {n : Nat} {a0 : List FormR} {c0 : Int} {r : Int} (K1 : run (n + 2) 207 [.sl 4 (a0.map formRC), .clo 171 [.mem [.lit (.int .i64 c0)]]] = some (.lit (.int .i64 r))) :
    run (n + 3) 170 [.sl 4 (a0.map formRC), .clo 171 [.mem [.lit (.int .i64 c0)]]] = some (.lit (.bool (decide (0 ≤ r)))) := by
  unfold run fnP
  simp +decide [Tryz.f170, K1]
theorem gvaR_f1 {n : Nat} {a0 : List FormR} {a1 : Int} {r : Bool} (K1 : run (n + 3) 170 [.sl 4 (a0.map formRC), .clo 171 [.mem [.lit (.int .i64 a1)]]] = some (.lit (.bool r))) :
    run (n + 4) 104 [.sl 4 (a0.map formRC), .lit (.int .i64 a1)] = some (.lit (.bool (!r))) := by
  unfold run fnP
  simp +decide [Tryz.f104, K1]
noncomputable def gVR_C4 : Code := (loopsOf (bodyOf Tryz.f41)).getD 0 .skip
def gVR_h4 (a0 : TGraphR) (i_4 : Nat) : St :=
  ⟨[(1, .ptr 0 0), (32, .sl 4 (a0.Units.map formRC)), (33, .lit (.int .i64 (a0.Units.length : Int))), (34, .lit (.int .i64 (i_4 : Int)))],
   [(0, some (.box 38 [.lit (.int .i64 (a0.Inputs)), .sl 4 (a0.Units.map formRC), .sl 4 (a0.Outputs.map formRC)] false))], 1⟩
def gVR_o4a (a0 : TGraphR) : St :=
  ⟨[(1, .ptr 0 0), (2, .lit (.bool false))],
   [(0, some (.box 38 [.lit (.int .i64 (a0.Inputs)), .sl 4 (a0.Units.map formRC), .sl 4 (a0.Outputs.map formRC)] false))], 1⟩
def gVR_o4b (a0 : TGraphR) : St :=
  ⟨[(1, .ptr 0 0), (2, .any)],
   [(0, some (.box 38 [.lit (.int .i64 (a0.Inputs)), .sl 4 (a0.Units.map formRC), .sl 4 (a0.Outputs.map formRC)] false))], 1⟩
section
variable {F3 : List (Int × Raw)} {i_4 : Nat} {r5 : Raw} {r6 : Bool} {a0 : TGraphR} {n : Nat} {r7 : Bool}
theorem gVR_r4_1 (C1 : (i_4 : Int) < (a0.Units.length : Int)) (E2 : a0.Units[i_4]? = some (F3, r5)) (W3 : InI (a0.Inputs + (i_4 : Int))) (K4 : run (n + 4) 60 [.agg [.sl 4 (F3.map termRC), .lit (.bool r5.s), natA r5.l1, natA r5.l2], .lit (.int .i64 (a0.Inputs + (i_4 : Int)))] = some (.lit (.bool r6))) (C5 : r6 = true) (W6 : InI ((i_4 : Int) + 1)) :
    Cont 0 (exec Tryz.prog (tab (n + 5)) 0 56 (livesOf 41) big gVR_C4) (livesOf 41 4) (gVR_h4 a0 i_4) (gVR_h4 a0 (i_4 + 1)) := by
  have C1_ : i_4 < a0.Units.length := by omega
  obtain ⟨EL2, EG2⟩ := List.getElem?_eq_some_iff.1 E2
  have W3_ : IntKind.i64.wrap (a0.Inputs + (i_4 : Int)) = a0.Inputs + (i_4 : Int) := wr64 W3.1 W3.2
  have W6_ : IntKind.i64.wrap ((i_4 : Int) + 1) = (i_4 : Int) + 1 := wr64 W6.1 W6.2
  unfold Cont
  simp +decide [gVR_h4, loopsOf, Tryz.f41, gVR_C4, C1, C1_, EL2, EG2, E2, W3_, K4, C5, W6_]
theorem gVR_x4_1 (C1 : (i_4 : Int) < (a0.Units.length : Int)) (E2 : a0.Units[i_4]? = some (F3, r5)) (W3 : InI (a0.Inputs + (i_4 : Int))) (K4 : run (n + 4) 60 [.agg [.sl 4 (F3.map termRC), .lit (.bool r5.s), natA r5.l1, natA r5.l2], .lit (.int .i64 (a0.Inputs + (i_4 : Int)))] = some (.lit (.bool r6))) (C5 : r6 = false) :
    Leave 0 (exec Tryz.prog (tab (n + 5)) 0 56 (livesOf 41) big gVR_C4) (livesOf 41 (outOf 4)) (gVR_h4 a0 i_4) (.ret) (gVR_o4a a0) := by
  have C1_ : i_4 < a0.Units.length := by omega
  obtain ⟨EL2, EG2⟩ := List.getElem?_eq_some_iff.1 E2
  have W3_ : IntKind.i64.wrap (a0.Inputs + (i_4 : Int)) = a0.Inputs + (i_4 : Int) := wr64 W3.1 W3.2
  unfold Leave
  simp +decide [gVR_h4, loopsOf, Tryz.f41, gVR_o4a, gVR_C4, C1, C1_, EL2, EG2, E2, W3_, K4, C5]
theorem gVR_x4_2 (C1 : ¬ (i_4 : Int) < (a0.Units.length : Int)) :
    Leave 0 (exec Tryz.prog (tab (n + 5)) 0 56 (livesOf 41) big gVR_C4) (livesOf 41 (outOf 4)) (gVR_h4 a0 i_4) (.exit 0) (gVR_o4b a0) := by
  have C1_ : ¬ i_4 < a0.Units.length := by omega
  unfold Leave
  simp +decide [gVR_h4, loopsOf, Tryz.f41, gVR_o4b, gVR_C4, C1, C1_]
theorem gVR_f1 (C1 : a0.Inputs < 1) :
    run (n + 5) 41 [graphRV a0] = some (.lit (.bool false)) := by
  unfold run fnP
  simp +decide [Tryz.f41, C1]
theorem gVR_f2 (C1 : ¬ a0.Inputs < 1) (C2 : 256 < a0.Inputs) :
    run (n + 5) 41 [graphRV a0] = some (.lit (.bool false)) := by
  unfold run fnP
  simp +decide [Tryz.f41, C1, C2]
theorem gVR_f3 (C1 : ¬ a0.Inputs < 1) (C2 : ¬ 256 < a0.Inputs) (C3 : 1024 < (a0.Units.length : Int)) :
    run (n + 5) 41 [graphRV a0] = some (.lit (.bool false)) := by
  have C3_ : 1024 < a0.Units.length := by omega
  unfold run fnP
  simp +decide [Tryz.f41, C1, C2, C3, C3_]
theorem gVR_f4 (C1 : ¬ a0.Inputs < 1) (C2 : ¬ 256 < a0.Inputs) (C3 : ¬ 1024 < (a0.Units.length : Int)) (C4 : (a0.Outputs.length : Int) < 1) :
    run (n + 5) 41 [graphRV a0] = some (.lit (.bool false)) := by
  have C3_ : ¬ 1024 < a0.Units.length := by omega
  have C4_ : a0.Outputs.length < 1 := by omega
  unfold run fnP
  simp +decide [Tryz.f41, C1, C2, C3, C3_, C4, C4_]
theorem gVR_f5 (C1 : ¬ a0.Inputs < 1) (C2 : ¬ 256 < a0.Inputs) (C3 : ¬ 1024 < (a0.Units.length : Int)) (C4 : ¬ (a0.Outputs.length : Int) < 1) (C5 : 256 < (a0.Outputs.length : Int)) :
    run (n + 5) 41 [graphRV a0] = some (.lit (.bool false)) := by
  have C3_ : ¬ 1024 < a0.Units.length := by omega
  have C4_ : ¬ a0.Outputs.length < 1 := by omega
  have C5_ : 256 < a0.Outputs.length := by omega
  unfold run fnP
  simp +decide [Tryz.f41, C1, C2, C3, C3_, C4, C4_, C5, C5_]
theorem gVR_f6 (C1 : ¬ a0.Inputs < 1) (C2 : ¬ 256 < a0.Inputs) (C3 : ¬ 1024 < (a0.Units.length : Int)) (C4 : ¬ (a0.Outputs.length : Int) < 1) (C5 : ¬ 256 < (a0.Outputs.length : Int)) (L6 : loopG Tryz.prog (tab (n + 5)) 0 56 (livesOf 41) 4 gVR_C4 (gVR_h4 a0 0) = some (.ret, gVR_o4a a0)) :
    run (n + 5) 41 [graphRV a0] = some (.lit (.bool false)) := by
  have C3_ : ¬ 1024 < a0.Units.length := by omega
  have C4_ : ¬ a0.Outputs.length < 1 := by omega
  have C5_ : ¬ 256 < a0.Outputs.length := by omega
  unfold run fnP
  simp +decide [Tryz.f41, C1, C2, C3, C3_, C4, C4_, C5, C5_]
  rw [loopX_G (C' := gVR_C4) (e := (gVR_h4 a0 0)) ?_ ?_, L6]
  rotate_left
  · kernel_rfl
  · simp +decide [gVR_h4, C1, C2, C3, C3_, C4, C4_, C5, C5_]
  simp +decide [gVR_o4a, C1, C2, C3, C3_, C4, C4_, C5, C5_]
theorem gVR_f7 (C1 : ¬ a0.Inputs < 1) (C2 : ¬ 256 < a0.Inputs) (C3 : ¬ 1024 < (a0.Units.length : Int)) (C4 : ¬ (a0.Outputs.length : Int) < 1) (C5 : ¬ 256 < (a0.Outputs.length : Int)) (L6 : loopG Tryz.prog (tab (n + 5)) 0 56 (livesOf 41) 4 gVR_C4 (gVR_h4 a0 0) = some (.exit 0, gVR_o4b a0)) (W7 : InI (a0.Inputs + (a0.Units.length : Int))) (K8 : run (n + 4) 104 [.sl 4 (a0.Outputs.map formRC), .lit (.int .i64 (a0.Inputs + (a0.Units.length : Int)))] = some (.lit (.bool r7))) :
    run (n + 5) 41 [graphRV a0] = some (.lit (.bool r7)) := by
  have C3_ : ¬ 1024 < a0.Units.length := by omega
  have C4_ : ¬ a0.Outputs.length < 1 := by omega
  have C5_ : ¬ 256 < a0.Outputs.length := by omega
  have W7_ : IntKind.i64.wrap (a0.Inputs + (a0.Units.length : Int)) = a0.Inputs + (a0.Units.length : Int) := wr64 W7.1 W7.2
  unfold run fnP
  simp +decide [Tryz.f41, C1, C2, C3, C3_, C4, C4_, C5, C5_, W7_, K8]
  rw [loopX_G (C' := gVR_C4) (e := (gVR_h4 a0 0)) ?_ ?_, L6]
  rotate_left
  · kernel_rfl
  · simp +decide [gVR_h4, C1, C2, C3, C3_, C4, C4_, C5, C5_, W7_, K8]
  simp +decide [gVR_o4b, C1, C2, C3, C3_, C4, C4_, C5, C5_, W7_, K8]
end
end Go.Proofs.YtlpmemelhlnfbaaGreatDoor
set_option linter.all false
set_option maxRecDepth 100000
set_option maxHeartbeats 6400000
namespace Go.Proofs.YtlpmemelhlnfbaaGreatDoor
open Go.RowKit
attribute [local irreducible] run runL loopG exec
def BdR (f : FormR) : Prop := LimF f ∧ FewR f.1 f.2
structure OkGrR (g : TGraphR) : Prop where
  i0 : 1 ≤ g.Inputs
  i1 : g.Inputs ≤ 256
  u : (g.Units.length : Int) ≤ 1024
  o0 : 1 ≤ (g.Outputs.length : Int)
  o1 : (g.Outputs.length : Int) ≤ 256
  un : ∀ i, i < g.Units.length → ∀ f, g.Units[i]? = some f → OkFR f (g.Inputs + (i : Int))
  ou : ∀ f ∈ g.Outputs, OkFR f (g.Inputs + (g.Units.length : Int))
structure BdGR (g : TGraphR) : Prop where
  lu : g.Units.length ≤ 100000000
  lo : g.Outputs.length ≤ 100000000
  u : ∀ f ∈ g.Units, BdR f
  o : ∀ f ∈ g.Outputs, BdR f
theorem validR1_c {n : Nat} {f : FormR} {vars : Int} (hB : BdR f) : run n 51 [frV f, .lit (.int .i64 vars)] = some (.lit (.bool (tv (OkFR f vars)))) := validR_c hB.1 hB.2
theorem validFsR_c {n : Nat} {L : List FormR} {vars : Int} (hl : L.length ≤ 100000000) (hB : ∀ f ∈ L, BdR f) : run (n + 1) 91 [.sl 4 (L.map formRC), .lit (.int .i64 vars)] = some (.lit (.bool (tv (∀ f ∈ L, OkFR f vars)))) := by
  have hG := loopG_all (O := tab (n + 1)) (P := Tryz.prog) (m := 0) (N := 19) (lives := livesOf 91) (r := 2) (C := vlR_C2) (M := L.length) (enc := vlR_h2 L vars) (p := fun i => tv (∀ f, L[i]? = some f → OkFR f vars)) (exN := .exit 0) (exE := .ret) (out := vlR_o2b) (outE := vlR_o2a) (by omega) (by simp) (by simp)
    (fun i hi hI => by
      have hx : L[i]? = some L[i] := List.getElem?_eq_getElem hi
      generalize L[i] = f at hx
      have C1 : (i : Int) < (L.length : Int) := by omega
      have W : InI ((i : Int) + 1) := ⟨by omega, by omega⟩
      have K := validR1_c (n := n) (vars := vars) (hB f (List.mem_of_getElem? hx))
      have e : tv (∀ g, L[i]? = some g → OkFR g vars) = tv (OkFR f vars) := tv_iff ⟨fun h => h f hx, fun h g hg => by rw [hx] at hg; cases hg; exact h⟩
      rw [e]
      exact ⟨fun hp => vlR_r2_1 C1 hx K hp W, fun hp => vlR_x2_1 C1 hx K hp⟩)
    (vlR_x2_2 (by omega))
  by_cases h : ∀ f ∈ L, OkFR f vars
  · rw [if_pos (fun i hi => tv_t (all_idx.2 h i hi))] at hG
    rw [tv_t h]
    exact vlR_f2 hG
  · rw [if_neg (fun h2 => h (all_idx.1 fun i hi => tv_true (h2 i hi)))] at hG
    rw [tv_f h]
    exact vlR_f1 hG
theorem validGR_c {n : Nat} {g : TGraphR} (hB : BdGR g) : run (n + 2) 25 [graphRV g] = some (.lit (.bool (tv (OkGrR g)))) := by
  have hlu := hB.lu
  have hlo := hB.lo
  by_cases c1 : g.Inputs < 1
  · rw [tv_f (fun h => by have := h.i0; omega)]; exact vgR_f1 c1
  by_cases c2 : 256 < g.Inputs
  · rw [tv_f (fun h => by have := h.i1; omega)]; exact vgR_f2 c1 c2
  by_cases c3 : 1024 < (g.Units.length : Int)
  · rw [tv_f (fun h => by have := h.u; omega)]; exact vgR_f3 c1 c2 c3
  by_cases c4 : (g.Outputs.length : Int) < 1
  · rw [tv_f (fun h => by have := h.o0; omega)]; exact vgR_f4 c1 c2 c3 c4
  by_cases c5 : 256 < (g.Outputs.length : Int)
  · rw [tv_f (fun h => by have := h.o1; omega)]; exact vgR_f5 c1 c2 c3 c4 c5
  have hG := loopG_all (O := tab (n + 2)) (P := Tryz.prog) (m := 0) (N := 57) (lives := livesOf 25) (r := 4) (C := vgR_C4) (M := g.Units.length) (enc := vgR_h4 g) (p := fun i => tv (∀ f, g.Units[i]? = some f → OkFR f (g.Inputs + (i : Int)))) (exN := .exit 0) (exE := .ret) (out := vgR_o4b g) (outE := vgR_o4a g) (by omega) (by simp) (by simp)
    (fun i hi hI => by
      have hx : g.Units[i]? = some g.Units[i] := List.getElem?_eq_getElem hi
      generalize g.Units[i] = f at hx
      have C1 : (i : Int) < (g.Units.length : Int) := by omega
      have W : InI ((i : Int) + 1) := ⟨by omega, by omega⟩
      have W2 : InI (g.Inputs + (i : Int)) := ⟨by omega, by omega⟩
      have K := validR1_c (n := n + 1) (vars := g.Inputs + (i : Int)) (hB.u f (List.mem_of_getElem? hx))
      have e : tv (∀ f, g.Units[i]? = some f → OkFR f (g.Inputs + (i : Int))) = tv (OkFR f (g.Inputs + (i : Int))) := tv_iff ⟨fun h => h f hx, fun h g hg => by rw [hx] at hg; cases hg; exact h⟩
      rw [e]
      exact ⟨fun hp => vgR_r4_1 C1 hx W2 K hp W, fun hp => vgR_x4_1 C1 hx W2 K hp⟩)
    (vgR_x4_2 (by omega))
  by_cases h : ∀ i, i < g.Units.length → ∀ f, g.Units[i]? = some f → OkFR f (g.Inputs + (i : Int))
  · rw [if_pos (fun i hi => tv_t (h i hi))] at hG
    have K := validFsR_c (n := n) (vars := g.Inputs + (g.Units.length : Int)) hlo hB.o
    have e : tv (OkGrR g) = tv (∀ f ∈ g.Outputs, OkFR f (g.Inputs + (g.Units.length : Int))) := tv_iff ⟨fun k => k.ou, fun k => ⟨by omega, by omega, by omega, by omega, by omega, h, k⟩⟩
    rw [e]
    exact vgR_f7 c1 c2 c3 c4 c5 hG ⟨by omega, by omega⟩ K
  · rw [if_neg (fun h2 => h fun i hi => tv_true (h2 i hi))] at hG
    rw [tv_f (fun k => h k.un)]
    exact vgR_f6 c1 c2 c3 c4 c5 hG
theorem lvalidR_c {n : Nat} {f : FormR} {vars : Int} (hB : BdR f) : run n 60 [frV f, .lit (.int .i64 vars)] = some (.lit (.bool (tv (OkFR f vars)))) := lvalidR0_c hB.1 hB.2
theorem gvcR_c {n : Nat} {f : FormR} {vars : Int} (hB : BdR f) : run (n + 1) 171 [frV f, .mem [.lit (.int .i64 vars)]] = some (.lit (.bool (!tv (OkFR f vars)))) := gvcR_f1 (lvalidR_c (n := n) hB)
theorem ifgR_c {n : Nat} {L : List FormR} {vars : Int} (hl : L.length ≤ 100000000) (hB : ∀ f ∈ L, BdR f) : ∃ r : Int, run (n + 2) 207 [.sl 4 (L.map formRC), .clo 171 [.mem [.lit (.int .i64 vars)]]] = some (.lit (.int .i64 r)) ∧ (0 ≤ r ↔ ¬ ∀ f ∈ L, OkFR f vars) := by
  obtain ⟨ex, t, h1, h2⟩ := loopG_Q (β := Unit) (P := Tryz.prog) (O := tab (n + 2)) (m := 0) (N := 19) (lives := livesOf 207) (r := 2) (C := ifgR_C2) (M := L.length) (enc := fun i _ => ifgR_h2 L vars i)
    (fun i _ => ∀ j f, j < i → L[j]? = some f → OkFR f vars) (fun ex t => (ex = .exit 0 ∧ t = ifgR_o2b ∧ ∀ f ∈ L, OkFR f vars) ∨ (ex = .ret ∧ ∃ i : Nat, t = ifgR_o2a i ∧ ¬ ∀ f ∈ L, OkFR f vars)) () (fun j f hj => by omega) (by omega)
    (fun i b hi hI => by
      have hx : L[i]? = some L[i] := List.getElem?_eq_getElem hi
      generalize L[i] = f at hx
      have K := gvcR_c (n := n) (vars := vars) (hB f (List.mem_of_getElem? hx))
      by_cases h : OkFR f vars
      · rw [tv_t h] at K
        refine .inl ⟨(), ifgR_r2_1 (by omega) hx K rfl ⟨by omega, by omega⟩, fun j g hj hg => ?_⟩
        rcases Nat.lt_succ_iff_lt_or_eq.1 hj with h2 | rfl
        · exact hI j g h2 hg
        · rw [hx] at hg; cases hg; exact h
      · rw [tv_f h] at K
        exact .inr ⟨_, _, by simp, ifgR_x2_1 (by omega) hx K rfl, .inr ⟨rfl, i, rfl, fun h2 => h (h2 f (List.mem_of_getElem? hx))⟩⟩)
    (fun b hI => ⟨_, _, by simp, ifgR_x2_2 (by omega), .inl ⟨rfl, rfl, fun f hf => by
      obtain ⟨j, hj⟩ := List.mem_iff_getElem?.1 hf
      exact hI j f (List.getElem?_eq_some_iff.1 hj).1 hj⟩⟩)
  rcases h2 with ⟨rfl, rfl, h3⟩ | ⟨rfl, i, rfl, h3⟩
  · exact ⟨-1, ifgR_f2 h1, fun h => by omega, fun h => absurd h3 h⟩
  · exact ⟨(i : Int), ifgR_f1 h1, fun _ => h3, fun _ => by omega⟩
theorem gvsR_c {n : Nat} {L : List FormR} {vars : Int} (hl : L.length ≤ 100000000) (hB : ∀ f ∈ L, BdR f) : run (n + 4) 104 [.sl 4 (L.map formRC), .lit (.int .i64 vars)] = some (.lit (.bool (tv (∀ f ∈ L, OkFR f vars)))) := by
  obtain ⟨r, h1, h2⟩ := ifgR_c (n := n) (vars := vars) hl hB
  have h3 := gvaR_f1 (n := n) (cfgR_f1 (n := n) h1)
  rw [h3]
  by_cases h : ∀ f ∈ L, OkFR f vars
  · rw [tv_t h, decide_eq_false (fun h4 => (h2.1 h4) h)]; rfl
  · rw [tv_f h, decide_eq_true (h2.2 h)]; rfl
theorem gvalidR_c {n : Nat} {g : TGraphR} (hB : BdGR g) : run (n + 5) 41 [graphRV g] = some (.lit (.bool (tv (OkGrR g)))) := by
  have hlu := hB.lu
  have hlo := hB.lo
  by_cases c1 : g.Inputs < 1
  · rw [tv_f (fun h => by have := h.i0; omega)]; exact gVR_f1 c1
  by_cases c2 : 256 < g.Inputs
  · rw [tv_f (fun h => by have := h.i1; omega)]; exact gVR_f2 c1 c2
  by_cases c3 : 1024 < (g.Units.length : Int)
  · rw [tv_f (fun h => by have := h.u; omega)]; exact gVR_f3 c1 c2 c3
  by_cases c4 : (g.Outputs.length : Int) < 1
  · rw [tv_f (fun h => by have := h.o0; omega)]; exact gVR_f4 c1 c2 c3 c4
  by_cases c5 : 256 < (g.Outputs.length : Int)
  · rw [tv_f (fun h => by have := h.o1; omega)]; exact gVR_f5 c1 c2 c3 c4 c5
  have hG := loopG_all (O := tab (n + 5)) (P := Tryz.prog) (m := 0) (N := 56) (lives := livesOf 41) (r := 4) (C := gVR_C4) (M := g.Units.length) (enc := gVR_h4 g) (p := fun i => tv (∀ f, g.Units[i]? = some f → OkFR f (g.Inputs + (i : Int)))) (exN := .exit 0) (exE := .ret) (out := gVR_o4b g) (outE := gVR_o4a g) (by omega) (by simp) (by simp)
    (fun i hi hI => by
      have hx : g.Units[i]? = some g.Units[i] := List.getElem?_eq_getElem hi
      generalize g.Units[i] = f at hx
      have C1 : (i : Int) < (g.Units.length : Int) := by omega
      have W : InI ((i : Int) + 1) := ⟨by omega, by omega⟩
      have W2 : InI (g.Inputs + (i : Int)) := ⟨by omega, by omega⟩
      have K := lvalidR_c (n := n + 4) (vars := g.Inputs + (i : Int)) (hB.u f (List.mem_of_getElem? hx))
      have e : tv (∀ f, g.Units[i]? = some f → OkFR f (g.Inputs + (i : Int))) = tv (OkFR f (g.Inputs + (i : Int))) := tv_iff ⟨fun h => h f hx, fun h g hg => by rw [hx] at hg; cases hg; exact h⟩
      rw [e]
      exact ⟨fun hp => gVR_r4_1 C1 hx W2 K hp W, fun hp => gVR_x4_1 C1 hx W2 K hp⟩)
    (gVR_x4_2 (by omega))
  by_cases h : ∀ i, i < g.Units.length → ∀ f, g.Units[i]? = some f → OkFR f (g.Inputs + (i : Int))
  · rw [if_pos (fun i hi => tv_t (h i hi))] at hG
    have K := gvsR_c (n := n) (vars := g.Inputs + (g.Units.length : Int)) hlo hB.o
    have e : tv (OkGrR g) = tv (∀ f ∈ g.Outputs, OkFR f (g.Inputs + (g.Units.length : Int))) := tv_iff ⟨fun k => k.ou, fun k => ⟨by omega, by omega, by omega, by omega, by omega, h, k⟩⟩
    rw [e]
    exact gVR_f7 c1 c2 c3 c4 c5 hG ⟨by omega, by omega⟩ K
  · rw [if_neg (fun h2 => h fun i hi => tv_true (h2 i hi))] at hG
    rw [tv_f (fun k => h k.un)]
    exact gVR_f6 c1 c2 c3 c4 c5 hG
def unG (g : TGraphR) : TGraph := ⟨g.Inputs, g.Units.map unR, g.Outputs.map unR⟩
theorem map_un {L : List FormR} (h : ∀ f ∈ L, frV f = formV (unR f)) : L.map formRC = (L.map unR).map formC := by
  rw [List.map_map]
  apply List.map_congr_left
  intro f hf
  have e : AV.agg (formRC f) = AV.agg (formC (unR f)) := h f hf
  exact AV.agg.inj e
theorem graph_un {g : TGraphR} (hB : BdGR g) (hO : OkGrR g) : graphRV g = graphV (unG g) ∧ OkGr (unG g) ∧ BdG 2 (unG g) ∧ (∀ f ∈ (unG g).Units, f.1.length ≤ 8) ∧ ∀ f ∈ (unG g).Outputs, f.1.length ≤ 8 := by
  have hu : ∀ f ∈ g.Units, ∃ v, OkFR f v := fun f hf => by
    obtain ⟨i, hi⟩ := List.mem_iff_getElem?.1 hf
    exact ⟨_, hO.un i (List.getElem?_eq_some_iff.1 hi).1 f hi⟩
  have ho : ∀ f ∈ g.Outputs, ∃ v, OkFR f v := fun f hf => ⟨_, hO.ou f hf⟩
  have eu := map_un (L := g.Units) fun f hf => by
    obtain ⟨v, hv⟩ := hu f hf
    exact (small_form (hB.u f hf).2 hv).1
  have eo := map_un (L := g.Outputs) fun f hf => by
    obtain ⟨v, hv⟩ := ho f hf
    exact (small_form (hB.o f hf).2 hv).1
  have bd : ∀ L : List FormR, (∀ f ∈ L, BdR f) → (∀ f ∈ L, ∃ v, OkFR f v) → ∀ f ∈ L.map unR, BdF 2 f ∧ f.1.length ≤ 8 := fun L h1 h2 f hf => by
    obtain ⟨f0, h0, rfl⟩ := List.mem_map.1 hf
    obtain ⟨v, hv⟩ := h2 f0 h0
    obtain ⟨_, s2, s3, s4, _⟩ := small_form (h1 f0 h0).2 hv
    have := (h1 f0 h0).2.1
    exact ⟨⟨by omega, s3, s4⟩, by omega⟩
  have bu := bd g.Units hB.u hu
  have bo := bd g.Outputs hB.o ho
  have lu := hB.lu
  have lo := hB.lo
  refine ⟨by simp only [graphRV, graphV, unG, eu, eo], ⟨hO.i0, hO.i1, ?_, ?_, ?_, fun i hi f hf => ?_, fun f hf => ?_⟩, ⟨?_, ?_, fun f hf => (bu f hf).1, fun f hf => (bo f hf).1⟩, fun f hf => (bu f hf).2, fun f hf => (bo f hf).2⟩
  · show ((g.Units.map unR).length : Int) ≤ 1024
    rw [List.length_map]; exact hO.u
  · show 1 ≤ ((g.Outputs.map unR).length : Int)
    rw [List.length_map]; exact hO.o0
  · show ((g.Outputs.map unR).length : Int) ≤ 256
    rw [List.length_map]; exact hO.o1
  · replace hf : (g.Units.map unR)[i]? = some f := hf
    rw [List.getElem?_map] at hf
    obtain ⟨f0, h0, rfl⟩ := Option.map_eq_some_iff.1 hf
    exact (small_form (hB.u f0 (List.mem_of_getElem? h0)).2 (hO.un i (List.getElem?_eq_some_iff.1 h0).1 f0 h0)).2.2.2.2
  · obtain ⟨f0, h0, rfl⟩ := List.mem_map.1 (show f ∈ g.Outputs.map unR from hf)
    have e : ((unG g).Units.length : Int) = (g.Units.length : Int) := by show ((g.Units.map unR).length : Int) = _; rw [List.length_map]
    rw [e]
    exact (small_form (hB.o f0 h0).2 (hO.ou f0 h0)).2.2.2.2
  · show (g.Units.map unR).length ≤ _
    rw [List.length_map]; exact lu
  · show (g.Outputs.map unR).length ≤ _
    rw [List.length_map]; exact lo
end Go.Proofs.YtlpmemelhlnfbaaGreatDoor
set_option linter.all false
set_option maxRecDepth 100000
set_option maxHeartbeats 6400000
namespace Go.Proofs.YtlpmemelhlnfbaaGreatDoor
open Go.RowKit
section
variable {a0 : Raw} {n : Nat}
theorem shR_f1 (C1 : (a0.l1.length : Int) ≤ 2) :
    run n 19 [.agg [.lit (.bool a0.s), natA a0.l1, natA a0.l2]] = some (.lit (.bool (decide ((a0.l2.length : Int) ≤ 2)))) := by
  have C1_ : a0.l1.length ≤ 2 := by omega
  unfold run fnP
  simp +decide [Tryz.f19, C1, C1_]
theorem shR_f2 (C1 : ¬ (a0.l1.length : Int) ≤ 2) :
    run n 19 [.agg [.lit (.bool a0.s), natA a0.l1, natA a0.l2]] = some (.lit (.bool false)) := by
  have C1_ : ¬ a0.l1.length ≤ 2 := by omega
  unfold run fnP
  simp +decide [Tryz.f19, C1, C1_]
end
end Go.Proofs.YtlpmemelhlnfbaaGreatDoor
set_option linter.all false
set_option maxRecDepth 100000
set_option maxHeartbeats 6400000
namespace Go.Proofs.YtlpmemelhlnfbaaGreatDoor
open Go.RowKit
noncomputable def frm_C2 : Code := (loopsOf (bodyOf Tryz.f95)).getD 0 .skip
noncomputable def frm_C7 : Code := (loopsOf frm_C2).getD 0 .skip
def frm_h7 (a0 : List FormR) (i_2 : Nat) (i_7 : Nat) : St :=
  ⟨[(0, .sl 4 (a0.map formRC)), (3, .lit (.int .i64 (i_2 : Int))), (4, .lit (.int .i64 (i_7 : Int)))],
   [], 0⟩
def frm_h2 (a0 : List FormR) (i_2 : Nat) : St :=
  ⟨[(0, .sl 4 (a0.map formRC)), (3, .lit (.int .i64 (i_2 : Int)))],
   [], 0⟩
def frm_o7a (a0 : List FormR) (i_2 : Nat) : St :=
  ⟨[(0, .sl 4 (a0.map formRC)), (2, .lit (.bool false)), (3, .lit (.int .i64 (i_2 : Int)))],
   [], 0⟩
def frm_o7b (a0 : List FormR) (i_2 : Nat) : St :=
  ⟨[(0, .sl 4 (a0.map formRC)), (2, .any), (3, .lit (.int .i64 (i_2 : Int)))],
   [], 0⟩
def frm_o2a  : St :=
  ⟨[(2, .lit (.bool false))],
   [], 0⟩
def frm_o2b  : St :=
  ⟨[(2, .any)],
   [], 0⟩
section
variable {r31 : Raw} {r32 : Raw} {v9 : Int} {i_7 : Nat} {F12 : List (Int × Raw)} {r33 : Bool} {i_2 : Nat} {a0 : List FormR} {n : Nat} {r23 : Raw} {r24 : Bool} {F9 : List (Int × Raw)}
theorem frm_r7_1 (E1 : a0[i_2]? = some (F12, r31)) (C2 : (i_7 : Int) < (F12.length : Int)) (E3 : F12[i_7]? = some (v9, r32)) (K4 : run n 19 [.agg [.lit (.bool r32.s), natA r32.l1, natA r32.l2]] = some (.lit (.bool r33))) (C5 : r33 = true) (W6 : InI ((i_7 : Int) + 1)) :
    Cont 0 (exec Tryz.prog (tab (n + 1)) 0 48 (livesOf 95) big frm_C7) (livesOf 95 7) (frm_h7 a0 i_2 i_7) (frm_h7 a0 i_2 (i_7 + 1)) := by
  obtain ⟨EL1, EG1⟩ := List.getElem?_eq_some_iff.1 E1
  have C2_ : i_7 < F12.length := by omega
  obtain ⟨EL3, EG3⟩ := List.getElem?_eq_some_iff.1 E3
  have W6_ : IntKind.i64.wrap ((i_7 : Int) + 1) = (i_7 : Int) + 1 := wr64 W6.1 W6.2
  unfold Cont
  simp +decide [frm_h7, loopsOf, Tryz.f95, frm_C2, frm_C7, EL1, EG1, E1, C2, C2_, EL3, EG3, E3, K4, C5, W6_]
theorem frm_x7_1 (E1 : a0[i_2]? = some (F12, r31)) (C2 : (i_7 : Int) < (F12.length : Int)) (E3 : F12[i_7]? = some (v9, r32)) (K4 : run n 19 [.agg [.lit (.bool r32.s), natA r32.l1, natA r32.l2]] = some (.lit (.bool r33))) (C5 : r33 = false) :
    Leave 0 (exec Tryz.prog (tab (n + 1)) 0 48 (livesOf 95) big frm_C7) (livesOf 95 (outOf 7)) (frm_h7 a0 i_2 i_7) (.ret) (frm_o7a a0 i_2) := by
  obtain ⟨EL1, EG1⟩ := List.getElem?_eq_some_iff.1 E1
  have C2_ : i_7 < F12.length := by omega
  obtain ⟨EL3, EG3⟩ := List.getElem?_eq_some_iff.1 E3
  unfold Leave
  simp +decide [frm_h7, loopsOf, Tryz.f95, frm_o7a, frm_C2, frm_C7, EL1, EG1, E1, C2, C2_, EL3, EG3, E3, K4, C5]
theorem frm_x7_2 (E1 : a0[i_2]? = some (F12, r31)) (C2 : ¬ (i_7 : Int) < (F12.length : Int)) :
    Leave 0 (exec Tryz.prog (tab (n + 1)) 0 48 (livesOf 95) big frm_C7) (livesOf 95 (outOf 7)) (frm_h7 a0 i_2 i_7) (.exit 2) (frm_o7b a0 i_2) := by
  obtain ⟨EL1, EG1⟩ := List.getElem?_eq_some_iff.1 E1
  have C2_ : ¬ i_7 < F12.length := by omega
  unfold Leave
  simp +decide [frm_h7, loopsOf, Tryz.f95, frm_o7b, frm_C2, frm_C7, EL1, EG1, E1, C2, C2_]
theorem frm_r2_1 (C1 : (i_2 : Int) < (a0.length : Int)) (E2 : a0[i_2]? = some (F9, r23)) (C3 : ¬ 8 < (F9.length : Int)) (K4 : run n 19 [.agg [.lit (.bool r23.s), natA r23.l1, natA r23.l2]] = some (.lit (.bool r24))) (C5 : r24 = true) (L6 : loopG Tryz.prog (tab (n + 1)) 0 48 (livesOf 95) 7 frm_C7 (frm_h7 a0 i_2 0) = some (.exit 2, frm_o7b a0 i_2)) (W7 : InI ((i_2 : Int) + 1)) :
    Cont 0 (exec Tryz.prog (tab (n + 1)) 0 48 (livesOf 95) big frm_C2) (livesOf 95 2) (frm_h2 a0 i_2) (frm_h2 a0 (i_2 + 1)) := by
  have C1_ : i_2 < a0.length := by omega
  obtain ⟨EL2, EG2⟩ := List.getElem?_eq_some_iff.1 E2
  have C3_ : ¬ 8 < F9.length := by omega
  have W7_ : IntKind.i64.wrap ((i_2 : Int) + 1) = (i_2 : Int) + 1 := wr64 W7.1 W7.2
  unfold Cont
  simp +decide [frm_h2, loopsOf, Tryz.f95, frm_C2, C1, C1_, EL2, EG2, E2, C3, C3_, K4, C5, W7_]
  rw [loopX_G (C' := frm_C7) (e := (frm_h7 a0 i_2 0)) ?_ ?_, L6]
  rotate_left
  · kernel_rfl
  · simp +decide [frm_h7, loopsOf, Tryz.f95, frm_C2, C1, C1_, EL2, EG2, E2, C3, C3_, K4, C5, W7_]
  simp +decide [frm_o7b, loopsOf, Tryz.f95, frm_C2, C1, C1_, EL2, EG2, E2, C3, C3_, K4, C5, W7_]
theorem frm_x2_1 (C1 : (i_2 : Int) < (a0.length : Int)) (E2 : a0[i_2]? = some (F9, r23)) (C3 : 8 < (F9.length : Int)) :
    Leave 0 (exec Tryz.prog (tab (n + 1)) 0 48 (livesOf 95) big frm_C2) (livesOf 95 (outOf 2)) (frm_h2 a0 i_2) (.ret) (frm_o2a ) := by
  have C1_ : i_2 < a0.length := by omega
  obtain ⟨EL2, EG2⟩ := List.getElem?_eq_some_iff.1 E2
  have C3_ : 8 < F9.length := by omega
  unfold Leave
  simp +decide [frm_h2, loopsOf, Tryz.f95, frm_o2a, frm_C2, C1, C1_, EL2, EG2, E2, C3, C3_]
theorem frm_x2_2 (C1 : (i_2 : Int) < (a0.length : Int)) (E2 : a0[i_2]? = some (F9, r23)) (C3 : ¬ 8 < (F9.length : Int)) (K4 : run n 19 [.agg [.lit (.bool r23.s), natA r23.l1, natA r23.l2]] = some (.lit (.bool r24))) (C5 : r24 = false) :
    Leave 0 (exec Tryz.prog (tab (n + 1)) 0 48 (livesOf 95) big frm_C2) (livesOf 95 (outOf 2)) (frm_h2 a0 i_2) (.ret) (frm_o2a ) := by
  have C1_ : i_2 < a0.length := by omega
  obtain ⟨EL2, EG2⟩ := List.getElem?_eq_some_iff.1 E2
  have C3_ : ¬ 8 < F9.length := by omega
  unfold Leave
  simp +decide [frm_h2, loopsOf, Tryz.f95, frm_o2a, frm_C2, C1, C1_, EL2, EG2, E2, C3, C3_, K4, C5]
theorem frm_x2_3 (C1 : (i_2 : Int) < (a0.length : Int)) (E2 : a0[i_2]? = some (F9, r23)) (C3 : ¬ 8 < (F9.length : Int)) (K4 : run n 19 [.agg [.lit (.bool r23.s), natA r23.l1, natA r23.l2]] = some (.lit (.bool r24))) (C5 : r24 = true) (L6 : loopG Tryz.prog (tab (n + 1)) 0 48 (livesOf 95) 7 frm_C7 (frm_h7 a0 i_2 0) = some (.ret, frm_o7a a0 i_2)) :
    Leave 0 (exec Tryz.prog (tab (n + 1)) 0 48 (livesOf 95) big frm_C2) (livesOf 95 (outOf 2)) (frm_h2 a0 i_2) (.ret) (frm_o2a ) := by
  have C1_ : i_2 < a0.length := by omega
  obtain ⟨EL2, EG2⟩ := List.getElem?_eq_some_iff.1 E2
  have C3_ : ¬ 8 < F9.length := by omega
  unfold Leave
  simp +decide [frm_h2, loopsOf, Tryz.f95, frm_o2a, frm_C2, C1, C1_, EL2, EG2, E2, C3, C3_, K4, C5]
  rw [loopX_G (C' := frm_C7) (e := (frm_h7 a0 i_2 0)) ?_ ?_, L6]
  rotate_left
  · kernel_rfl
  · simp +decide [frm_h7, loopsOf, Tryz.f95, frm_o2a, frm_C2, C1, C1_, EL2, EG2, E2, C3, C3_, K4, C5]
  simp +decide [frm_o7a, loopsOf, Tryz.f95, frm_o2a, frm_C2, C1, C1_, EL2, EG2, E2, C3, C3_, K4, C5]
theorem frm_x2_4 (C1 : ¬ (i_2 : Int) < (a0.length : Int)) :
    Leave 0 (exec Tryz.prog (tab (n + 1)) 0 48 (livesOf 95) big frm_C2) (livesOf 95 (outOf 2)) (frm_h2 a0 i_2) (.exit 0) (frm_o2b ) := by
  have C1_ : ¬ i_2 < a0.length := by omega
  unfold Leave
  simp +decide [frm_h2, loopsOf, Tryz.f95, frm_o2b, frm_C2, C1, C1_]
theorem frm_f1 (L1 : loopG Tryz.prog (tab (n + 1)) 0 48 (livesOf 95) 2 frm_C2 (frm_h2 a0 0) = some (.ret, frm_o2a )) :
    run (n + 1) 95 [.sl 4 (a0.map formRC)] = some (.lit (.bool false)) := by
  unfold run fnP
  simp +decide [Tryz.f95]
  rw [loopX_G (C' := frm_C2) (e := (frm_h2 a0 0)) ?_ ?_, L1]
  rotate_left
  · kernel_rfl
  · simp +decide [frm_h2]
  simp +decide [frm_o2a]
theorem frm_f2 (L1 : loopG Tryz.prog (tab (n + 1)) 0 48 (livesOf 95) 2 frm_C2 (frm_h2 a0 0) = some (.exit 0, frm_o2b )) :
    run (n + 1) 95 [.sl 4 (a0.map formRC)] = some (.lit (.bool true)) := by
  unfold run fnP
  simp +decide [Tryz.f95]
  rw [loopX_G (C' := frm_C2) (e := (frm_h2 a0 0)) ?_ ?_, L1]
  rotate_left
  · kernel_rfl
  · simp +decide [frm_h2]
  simp +decide [frm_o2b]
end
end Go.Proofs.YtlpmemelhlnfbaaGreatDoor
set_option linter.all false
set_option maxRecDepth 100000
set_option maxHeartbeats 6400000
namespace Go.Proofs.YtlpmemelhlnfbaaGreatDoor
open Go.RowKit
section
variable {a0 : TGraphR} {r : Bool} {n : Nat} {r2 : Bool}
theorem few5_f1 (C1 : (a0.Units.length : Int) ≤ 6) (C2 : (a0.Outputs.length : Int) ≤ 6) (K3 : run (n + 1) 95 [.sl 4 (a0.Units.map formRC)] = some (.lit (.bool r))) (C4 : r = true) (K5 : run (n + 1) 95 [.sl 4 (a0.Outputs.map formRC)] = some (.lit (.bool r2))) :
    run (n + 2) 30 [graphRV a0] = some (.lit (.bool r2)) := by
  have C1_ : a0.Units.length ≤ 6 := by omega
  have C2_ : a0.Outputs.length ≤ 6 := by omega
  unfold run fnP
  simp +decide [Tryz.f30, C1, C1_, C2, C2_, K3, C4, K5]
theorem few5_f2 (C1 : (a0.Units.length : Int) ≤ 6) (C2 : (a0.Outputs.length : Int) ≤ 6) (K3 : run (n + 1) 95 [.sl 4 (a0.Units.map formRC)] = some (.lit (.bool r))) (C4 : r = false) :
    run (n + 2) 30 [graphRV a0] = some (.lit (.bool false)) := by
  have C1_ : a0.Units.length ≤ 6 := by omega
  have C2_ : a0.Outputs.length ≤ 6 := by omega
  unfold run fnP
  simp +decide [Tryz.f30, C1, C1_, C2, C2_, K3, C4]
theorem few5_f3 (C1 : (a0.Units.length : Int) ≤ 6) (C2 : ¬ (a0.Outputs.length : Int) ≤ 6) :
    run (n + 2) 30 [graphRV a0] = some (.lit (.bool false)) := by
  have C1_ : a0.Units.length ≤ 6 := by omega
  have C2_ : ¬ a0.Outputs.length ≤ 6 := by omega
  unfold run fnP
  simp +decide [Tryz.f30, C1, C1_, C2, C2_]
theorem few5_f4 (C1 : ¬ (a0.Units.length : Int) ≤ 6) :
    run (n + 2) 30 [graphRV a0] = some (.lit (.bool false)) := by
  have C1_ : ¬ a0.Units.length ≤ 6 := by omega
  unfold run fnP
  simp +decide [Tryz.f30, C1, C1_]
end
theorem cpyR_f1 {n : Nat} {a0 : TGraphR} (M1 : a0.Units.length ≤ 100000000) (M2 : a0.Outputs.length ≤ 100000000) :
    run n 22 [graphRV a0] = some (graphRV a0) := by
  have M1_ : ∀ b, b ≤ 10000 → roomy (a0.Units.length) b = true := fun b hb => roomy_s M1 hb
  have M2_ : ∀ b, b ≤ 10000 → roomy (a0.Outputs.length) b = true := fun b hb => roomy_s M2 hb
  unfold run fnP
  simp +decide [Tryz.f22, M1_, M2_]
end Go.Proofs.YtlpmemelhlnfbaaGreatDoor
set_option linter.all false
set_option maxRecDepth 100000
set_option maxHeartbeats 6400000
namespace Go.Proofs.YtlpmemelhlnfbaaGreatDoor
open Go.RowKit
attribute [local irreducible] run runL loopG exec
theorem short_c {n : Nat} {r : Raw} : run n 19 [.agg [.lit (.bool r.s), natA r.l1, natA r.l2]] = some (.lit (.bool (tv (Two r)))) := by
  by_cases h1 : (r.l1.length : Int) ≤ 2
  · rw [shR_f1 h1]
    by_cases h2 : (r.l2.length : Int) ≤ 2
    · rw [decide_eq_true h2, tv_t ⟨by omega, by omega⟩]
    · rw [decide_eq_false h2, tv_f fun h => h2 (by have := h.2; omega)]
  · rw [shR_f2 h1, tv_f fun h => h1 (by have := h.1; omega)]
theorem frm_in {n : Nat} {L : List FormR} {i : Nat} {f : FormR} (hf : L[i]? = some f) (hl : f.1.length ≤ 8) :
    loopG Tryz.prog (tab (n + 1)) 0 48 (livesOf 95) 7 frm_C7 (frm_h7 L i 0) = some (if ∀ k, k < f.1.length → tv (∀ t, f.1[k]? = some t → Two t.2) = true then (.exit 2, frm_o7b L i) else (.ret, frm_o7a L i)) :=
  loopG_all (O := tab (n + 1)) (P := Tryz.prog) (m := 0) (N := 48) (lives := livesOf 95) (r := 7) (C := frm_C7) (M := f.1.length) (enc := fun k => frm_h7 L i k) (p := fun k => tv (∀ t, f.1[k]? = some t → Two t.2)) (exN := .exit 2) (exE := .ret) (out := frm_o7b L i) (outE := frm_o7a L i) (by omega) (fun h => by cases h) (fun h => by cases h)
    (fun k hk _ => by
      have hx : f.1[k]? = some f.1[k] := List.getElem?_eq_getElem hk
      generalize f.1[k] = t at hx
      have C1 : (k : Int) < (f.1.length : Int) := by omega
      have K := short_c (n := n) (r := t.2)
      have e : tv (∀ u, f.1[k]? = some u → Two u.2) = tv (Two t.2) := tv_iff ⟨fun h => h t hx, fun h u hu => by rw [hx] at hu; cases hu; exact h⟩
      rw [e]
      exact ⟨fun hp => frm_r7_1 hf C1 hx K hp ⟨by omega, by omega⟩, fun hp => frm_x7_1 hf C1 hx K hp⟩)
    (frm_x7_2 hf (by omega))
theorem frm_c {n : Nat} {L : List FormR} (hl : L.length ≤ 100000) : run (n + 1) 95 [.sl 4 (L.map formRC)] = some (.lit (.bool (tv (∀ f ∈ L, FewR f.1 f.2)))) := by
  have hG := loopG_all (O := tab (n + 1)) (P := Tryz.prog) (m := 0) (N := 48) (lives := livesOf 95) (r := 2) (C := frm_C2) (M := L.length) (enc := frm_h2 L) (p := fun i => tv (∀ f, L[i]? = some f → FewR f.1 f.2)) (exN := .exit 0) (exE := .ret) (out := frm_o2b) (outE := frm_o2a) (by omega) (fun h => by cases h) (fun h => by cases h)
    (fun i hi _ => by
      have hx : L[i]? = some L[i] := List.getElem?_eq_getElem hi
      generalize L[i] = f at hx
      have C1 : (i : Int) < (L.length : Int) := by omega
      have e : tv (∀ g, L[i]? = some g → FewR g.1 g.2) = tv (FewR f.1 f.2) := tv_iff ⟨fun h => h f hx, fun h g hg => by rw [hx] at hg; cases hg; exact h⟩
      rw [e]
      by_cases c1 : 8 < (f.1.length : Int)
      · refine ⟨fun hp => absurd (tv_true hp).1 (by omega), fun _ => frm_x2_1 C1 hx c1⟩
      have K := short_c (n := n) (r := f.2)
      by_cases c2 : Two f.2
      · rw [tv_t c2] at K
        have L6 := frm_in (n := n) hx (by omega)
        by_cases c3 : ∀ k, k < f.1.length → tv (∀ t, f.1[k]? = some t → Two t.2) = true
        · rw [if_pos c3] at L6
          refine ⟨fun _ => frm_r2_1 C1 hx c1 K rfl L6 ⟨by omega, by omega⟩, fun hp => absurd ⟨by omega, c2, fun t ht => ?_⟩ (tv_false hp)⟩
          obtain ⟨k, hk⟩ := List.mem_iff_getElem?.1 ht
          exact tv_true (c3 k (List.getElem?_eq_some_iff.1 hk).1) t hk
        · rw [if_neg c3] at L6
          refine ⟨fun hp => absurd (fun k hk => tv_t fun t ht => (tv_true hp).2.2 t (List.mem_of_getElem? ht)) c3, fun _ => frm_x2_3 C1 hx c1 K rfl L6⟩
      · rw [tv_f c2] at K
        exact ⟨fun hp => absurd (tv_true hp).2.1 c2, fun _ => frm_x2_2 C1 hx c1 K rfl⟩)
    (frm_x2_4 (by omega))
  by_cases h : ∀ f ∈ L, FewR f.1 f.2
  · rw [if_pos (fun i hi => tv_t (all_idx.2 h i hi))] at hG
    rw [tv_t h]
    exact frm_f2 hG
  · rw [if_neg (fun h2 => h (all_idx.1 fun i hi => tv_true (h2 i hi)))] at hG
    rw [tv_f h]
    exact frm_f1 hG
structure FewG (g : TGraphR) : Prop where
  lu : g.Units.length ≤ 6
  lo : g.Outputs.length ≤ 6
  u : ∀ f ∈ g.Units, FewR f.1 f.2
  o : ∀ f ∈ g.Outputs, FewR f.1 f.2
theorem few5_c {n : Nat} {g : TGraphR} : ∃ b, run (n + 2) 30 [graphRV g] = some (.lit (.bool b)) ∧ (b = true → FewG g) := by
  by_cases c1 : ¬ (g.Units.length : Int) ≤ 6
  · exact ⟨_, few5_f4 c1, fun h => by cases h⟩
  replace c1 := Classical.not_not.1 c1
  by_cases c2 : ¬ (g.Outputs.length : Int) ≤ 6
  · exact ⟨_, few5_f3 c1 c2, fun h => by cases h⟩
  replace c2 := Classical.not_not.1 c2
  have K1 := frm_c (n := n) (L := g.Units) (by omega)
  have K2 := frm_c (n := n) (L := g.Outputs) (by omega)
  by_cases h1 : ∀ f ∈ g.Units, FewR f.1 f.2
  · rw [tv_t h1] at K1
    exact ⟨_, few5_f1 c1 c2 K1 rfl K2, fun h => ⟨by omega, by omega, h1, tv_true h⟩⟩
  · rw [tv_f h1] at K1
    exact ⟨_, few5_f2 c1 c2 K1 rfl, fun h => by cases h⟩
end Go.Proofs.YtlpmemelhlnfbaaGreatDoor
