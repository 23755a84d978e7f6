/- what arguments of the types api.Affine, []api.Rat, api.Rat, int, []api.Term hold. -/
import Derived.Test.YthkkmokbjmempaaGreatDoorOq
set_option linter.all false
set_option linter.all false
set_option maxRecDepth 100000
namespace Go.Proofs.YthkkmokbjmempaaGreatDoor
open Go.ChangeShapes Go.WideShapes Go.RowKit Go.Deep
section
variable {w : World}
theorem cO_Rat : Tryz.prog.cellsOf 27 = 3 := by kernel_rfl
theorem cO_Rat_0 : Tryz.prog.cellsOf 4 = 1 := by kernel_rfl
theorem cO_Rat_1 : Tryz.prog.cellsOf 25 = 1 := by kernel_rfl
theorem cO_Rat_2 : Tryz.prog.cellsOf 25 = 1 := by kernel_rfl
set_option maxRecDepth 100000 in
theorem op_Rat : Opens w 27 (fun N us => ∃ x : Raw, us = rawC x ∧ okRaw N x) := fun H enc base spare held fuel cs x hx => by
  obtain ⟨hl, hf⟩ := fldB Tryz.underlying27 hx
  rw [cO_Rat] at hl
  obtain ⟨n0, y0, g0, b0⟩ := hf 0 _ 4 0 rfl rfl rfl
  obtain ⟨a0, ⟨x0, e0, p0⟩, r0⟩ := (op_boolO Tryz.underlying4) _ _ _ _ _ _ _ _ g0
  rw [cO_Rat_0] at r0
  subst e0
  obtain ⟨n1, y1, g1, b1⟩ := hf 1 _ 25 1 rfl rfl rfl
  obtain ⟨a1, ⟨x1, e1, p1⟩, r1⟩ := op_natO _ _ _ _ _ _ _ _ g1
  rw [cO_Rat_1] at r1
  subst e1
  obtain ⟨n2, y2, g2, b2⟩ := hf 2 _ 25 2 rfl rfl rfl
  obtain ⟨a2, ⟨x2, e2, p2⟩, r2⟩ := op_natO _ _ _ _ _ _ _ _ g2
  rw [cO_Rat_2] at r2
  subst e2
  exact ⟨_, ⟨(⟨x0, x1, x2⟩ : Raw), rfl, ⟨okNat.up b1 p1, okNat.up b2 p2⟩⟩, rv_fld (o := 0) (n := 1) r0 (rv_fld (o := 1) (n := 1) r1 (rv_fld (o := 2) (n := 1) r2 (rv_end hl) (by omega)) (by omega)) (by omega)⟩
def okO_Term (N : Nat) (x : Int × Raw) : Prop := okInt .i64 N x.1 ∧ okRaw N x.2
theorem okO_Term.up {N M : Nat} {x : Int × Raw} (hN : N ≤ M) (h : okO_Term N x) : okO_Term M x := ⟨okInt.up hN h.1, okRaw.up hN h.2⟩
theorem cO_Term : Tryz.prog.cellsOf 76 = 4 := by kernel_rfl
theorem cO_Term_0 : Tryz.prog.cellsOf 3 = 1 := by kernel_rfl
theorem cO_Term_1 : Tryz.prog.cellsOf 27 = 3 := by kernel_rfl
set_option maxRecDepth 100000 in
theorem op_Term : Opens w 76 (fun N us => ∃ x : Int × Raw, us = termRC x ∧ okO_Term N x) := fun H enc base spare held fuel cs x hx => by
  obtain ⟨hl, hf⟩ := fldB Tryz.underlying76 hx
  rw [cO_Term] at hl
  obtain ⟨n0, y0, g0, b0⟩ := hf 0 _ 3 0 rfl rfl rfl
  obtain ⟨a0, ⟨x0, e0, p0⟩, r0⟩ := (op_intO Tryz.underlying3) _ _ _ _ _ _ _ _ g0
  rw [cO_Term_0] at r0
  subst e0
  obtain ⟨n1, y1, g1, b1⟩ := hf 1 _ 27 1 rfl rfl rfl
  obtain ⟨a1, ⟨x1, e1, p1⟩, r1⟩ := op_Rat _ _ _ _ _ _ _ _ g1
  rw [cO_Term_1] at r1
  subst e1
  exact ⟨_, ⟨(⟨x0, x1⟩ : Int × Raw), rfl, ⟨okInt.up b0 p0, okRaw.up b1 p1⟩⟩, rv_fld (o := 0) (n := 1) r0 (rv_fld (o := 1) (n := 3) r1 (rv_end hl) (by omega)) (by omega)⟩
def okO_LTerm (N : Nat) (L : List (Int × Raw)) : Prop := L.length ≤ N ∧ ∀ x ∈ L, okO_Term N x
theorem okO_LTerm.up {N M : Nat} {L : List (Int × Raw)} (hN : N ≤ M) (h : okO_LTerm N L) : okO_LTerm M L := ⟨Nat.le_trans h.1 hN, fun x hx => okO_Term.up hN (h.2 x hx)⟩
theorem cO_LTermE : Tryz.prog.cellsOf 76 = 4 := by kernel_rfl
theorem op_LTerm : Opens w 23 (fun N us => ∃ L : List (Int × Raw), us = [.sl 4 (L.map termRC)] ∧ okO_LTerm N L) :=
  (op_list (α := Int × Raw) (enc := termRC) (ok := okO_Term) Tryz.underlying23 cO_LTermE (by omega) op_Term (fun N M x h g => okO_Term.up h g)).mono fun N us ⟨L, h1, h2, h3⟩ => ⟨L, h1, h2, h3⟩
def okO_Affine (N : Nat) (x : FormR) : Prop := okO_LTerm N x.1 ∧ okRaw N x.2
theorem okO_Affine.up {N M : Nat} {x : FormR} (hN : N ≤ M) (h : okO_Affine N x) : okO_Affine M x := ⟨okO_LTerm.up hN h.1, okRaw.up hN h.2⟩
theorem cO_Affine : Tryz.prog.cellsOf 29 = 4 := by kernel_rfl
theorem cO_Affine_0 : Tryz.prog.cellsOf 23 = 1 := by kernel_rfl
theorem cO_Affine_1 : Tryz.prog.cellsOf 27 = 3 := by kernel_rfl
set_option maxRecDepth 100000 in
theorem op_Affine : Opens w 29 (fun N us => ∃ x : FormR, us = formRC x ∧ okO_Affine N x) := fun H enc base spare held fuel cs x hx => by
  obtain ⟨hl, hf⟩ := fldB Tryz.underlying29 hx
  rw [cO_Affine] at hl
  obtain ⟨n0, y0, g0, b0⟩ := hf 0 _ 23 0 rfl rfl rfl
  obtain ⟨a0, ⟨x0, e0, p0⟩, r0⟩ := op_LTerm _ _ _ _ _ _ _ _ g0
  rw [cO_Affine_0] at r0
  subst e0
  obtain ⟨n1, y1, g1, b1⟩ := hf 1 _ 27 1 rfl rfl rfl
  obtain ⟨a1, ⟨x1, e1, p1⟩, r1⟩ := op_Rat _ _ _ _ _ _ _ _ g1
  rw [cO_Affine_1] at r1
  subst e1
  exact ⟨_, ⟨(⟨x0, x1⟩ : FormR), rfl, ⟨okO_LTerm.up b0 p0, okRaw.up b1 p1⟩⟩, rv_fld (o := 0) (n := 1) r0 (rv_fld (o := 1) (n := 3) r1 (rv_end hl) (by omega)) (by omega)⟩
def okO_LRat (N : Nat) (L : List (Raw)) : Prop := L.length ≤ N ∧ ∀ x ∈ L, okRaw N x
theorem okO_LRat.up {N M : Nat} {L : List (Raw)} (hN : N ≤ M) (h : okO_LRat N L) : okO_LRat M L := ⟨Nat.le_trans h.1 hN, fun x hx => okRaw.up hN (h.2 x hx)⟩
theorem cO_LRatE : Tryz.prog.cellsOf 27 = 3 := by kernel_rfl
theorem op_LRat : Opens w 43 (fun N us => ∃ L : List (Raw), us = [.sl 3 (L.map rawC)] ∧ okO_LRat N L) :=
  (op_list (α := Raw) (enc := rawC) (ok := okRaw) Tryz.underlying43 cO_LRatE (by omega) op_Rat (fun N M x h g => okRaw.up h g)).mono fun N us ⟨L, h1, h2, h3⟩ => ⟨L, h1, h2, h3⟩
end
end Go.Proofs.YthkkmokbjmempaaGreatDoor
