import Derived.Test.YtjpoanaoaeaneaaGreatDoorGB14
import Derived.Lib.LaidTab
import Derived.Stop.LaidErr
set_option linter.all false
set_option maxRecDepth 100000
namespace Go.Proofs.YtjpoanaoaeaneaaGreatDoor
open Go.ChangeShapes Go.WideShapes Go.RowKit Go.Deep
section
variable {w : World}
theorem cO_Rat : Tryz.prog.cellsOf 26 = 3 := by kernel_rfl
theorem cO_Rat_0 : Tryz.prog.cellsOf 4 = 1 := by kernel_rfl
theorem cO_Rat_1 : Tryz.prog.cellsOf 24 = 1 := by kernel_rfl
theorem cO_Rat_2 : Tryz.prog.cellsOf 24 = 1 := by kernel_rfl
set_option maxRecDepth 100000 in
theorem op_Rat : Opens w 26 (fun N us => ∃ x : Raw, us = rawC x ∧ okRaw N x) := fun H enc base spare held fuel cs x hx => by
  obtain ⟨hl, hf⟩ := fldB Tryz.underlying26 hx
  rw [cO_Rat] at hl
  obtain ⟨n0, y0, g0, b0⟩ := hf 0 _ 4 0 rfl rfl rfl
  obtain ⟨a0, ⟨x0, e0, p0⟩, r0⟩ := (op_boolO Tryz.underlying4) _ _ _ _ _ _ _ _ g0
  rw [cO_Rat_0] at r0
  subst e0
  obtain ⟨n1, y1, g1, b1⟩ := hf 1 _ 24 1 rfl rfl rfl
  obtain ⟨a1, ⟨x1, e1, p1⟩, r1⟩ := op_natO _ _ _ _ _ _ _ _ g1
  rw [cO_Rat_1] at r1
  subst e1
  obtain ⟨n2, y2, g2, b2⟩ := hf 2 _ 24 2 rfl rfl rfl
  obtain ⟨a2, ⟨x2, e2, p2⟩, r2⟩ := op_natO _ _ _ _ _ _ _ _ g2
  rw [cO_Rat_2] at r2
  subst e2
  exact ⟨_, ⟨(⟨x0, x1, x2⟩ : Raw), rfl, ⟨okNat.up b1 p1, okNat.up b2 p2⟩⟩, rv_fld (o := 0) (n := 1) r0 (rv_fld (o := 1) (n := 1) r1 (rv_fld (o := 2) (n := 1) r2 (rv_end hl) (by omega)) (by omega)) (by omega)⟩
def okO_Term (N : Nat) (x : Int × Raw) : Prop := okInt .i64 N x.1 ∧ okRaw N x.2
theorem okO_Term.up {N M : Nat} {x : Int × Raw} (hN : N ≤ M) (h : okO_Term N x) : okO_Term M x := ⟨okInt.up hN h.1, okRaw.up hN h.2⟩
theorem cO_Term : Tryz.prog.cellsOf 82 = 4 := by kernel_rfl
theorem cO_Term_0 : Tryz.prog.cellsOf 3 = 1 := by kernel_rfl
theorem cO_Term_1 : Tryz.prog.cellsOf 26 = 3 := by kernel_rfl
set_option maxRecDepth 100000 in
theorem op_Term : Opens w 82 (fun N us => ∃ x : Int × Raw, us = termRC x ∧ okO_Term N x) := fun H enc base spare held fuel cs x hx => by
  obtain ⟨hl, hf⟩ := fldB Tryz.underlying82 hx
  rw [cO_Term] at hl
  obtain ⟨n0, y0, g0, b0⟩ := hf 0 _ 3 0 rfl rfl rfl
  obtain ⟨a0, ⟨x0, e0, p0⟩, r0⟩ := (op_intO Tryz.underlying3) _ _ _ _ _ _ _ _ g0
  rw [cO_Term_0] at r0
  subst e0
  obtain ⟨n1, y1, g1, b1⟩ := hf 1 _ 26 1 rfl rfl rfl
  obtain ⟨a1, ⟨x1, e1, p1⟩, r1⟩ := op_Rat _ _ _ _ _ _ _ _ g1
  rw [cO_Term_1] at r1
  subst e1
  exact ⟨_, ⟨(⟨x0, x1⟩ : Int × Raw), rfl, ⟨okInt.up b0 p0, okRaw.up b1 p1⟩⟩, rv_fld (o := 0) (n := 1) r0 (rv_fld (o := 1) (n := 3) r1 (rv_end hl) (by omega)) (by omega)⟩
def okO_LTerm (N : Nat) (L : List (Int × Raw)) : Prop := L.length ≤ N ∧ ∀ x ∈ L, okO_Term N x
theorem okO_LTerm.up {N M : Nat} {L : List (Int × Raw)} (hN : N ≤ M) (h : okO_LTerm N L) : okO_LTerm M L := ⟨Nat.le_trans h.1 hN, fun x hx => okO_Term.up hN (h.2 x hx)⟩
theorem cO_LTermE : Tryz.prog.cellsOf 82 = 4 := by kernel_rfl
theorem op_LTerm : Opens w 22 (fun N us => ∃ L : List (Int × Raw), us = [.sl 4 (L.map termRC)] ∧ okO_LTerm N L) :=
  (op_list (α := Int × Raw) (enc := termRC) (ok := okO_Term) Tryz.underlying22 cO_LTermE (by omega) op_Term (fun N M x h g => okO_Term.up h g)).mono fun N us ⟨L, h1, h2, h3⟩ => ⟨L, h1, h2, h3⟩
def okO_Affine (N : Nat) (x : FormR) : Prop := okO_LTerm N x.1 ∧ okRaw N x.2
theorem okO_Affine.up {N M : Nat} {x : FormR} (hN : N ≤ M) (h : okO_Affine N x) : okO_Affine M x := ⟨okO_LTerm.up hN h.1, okRaw.up hN h.2⟩
theorem cO_Affine : Tryz.prog.cellsOf 28 = 4 := by kernel_rfl
theorem cO_Affine_0 : Tryz.prog.cellsOf 22 = 1 := by kernel_rfl
theorem cO_Affine_1 : Tryz.prog.cellsOf 26 = 3 := by kernel_rfl
set_option maxRecDepth 100000 in
theorem op_Affine : Opens w 28 (fun N us => ∃ x : FormR, us = formRC x ∧ okO_Affine N x) := fun H enc base spare held fuel cs x hx => by
  obtain ⟨hl, hf⟩ := fldB Tryz.underlying28 hx
  rw [cO_Affine] at hl
  obtain ⟨n0, y0, g0, b0⟩ := hf 0 _ 22 0 rfl rfl rfl
  obtain ⟨a0, ⟨x0, e0, p0⟩, r0⟩ := op_LTerm _ _ _ _ _ _ _ _ g0
  rw [cO_Affine_0] at r0
  subst e0
  obtain ⟨n1, y1, g1, b1⟩ := hf 1 _ 26 1 rfl rfl rfl
  obtain ⟨a1, ⟨x1, e1, p1⟩, r1⟩ := op_Rat _ _ _ _ _ _ _ _ g1
  rw [cO_Affine_1] at r1
  subst e1
  exact ⟨_, ⟨(⟨x0, x1⟩ : FormR), rfl, ⟨okO_LTerm.up b0 p0, okRaw.up b1 p1⟩⟩, rv_fld (o := 0) (n := 1) r0 (rv_fld (o := 1) (n := 3) r1 (rv_end hl) (by omega)) (by omega)⟩
def okO_LRat (N : Nat) (L : List (Raw)) : Prop := L.length ≤ N ∧ ∀ x ∈ L, okRaw N x
theorem okO_LRat.up {N M : Nat} {L : List (Raw)} (hN : N ≤ M) (h : okO_LRat N L) : okO_LRat M L := ⟨Nat.le_trans h.1 hN, fun x hx => okRaw.up hN (h.2 x hx)⟩
def okO_LAffine (N : Nat) (L : List (FormR)) : Prop := L.length ≤ N ∧ ∀ x ∈ L, okO_Affine N x
theorem okO_LAffine.up {N M : Nat} {L : List (FormR)} (hN : N ≤ M) (h : okO_LAffine N L) : okO_LAffine M L := ⟨Nat.le_trans h.1 hN, fun x hx => okO_Affine.up hN (h.2 x hx)⟩
def okO_Claim (N : Nat) (x : TClaimR) : Prop := okInt .i64 N x.Kind ∧ okInt .i64 N x.Target ∧ okRaw N x.Margin ∧ okO_LAffine N x.Rows
theorem okO_Claim.up {N M : Nat} {x : TClaimR} (hN : N ≤ M) (h : okO_Claim N x) : okO_Claim M x := ⟨okInt.up hN h.1, okInt.up hN h.2.1, okRaw.up hN h.2.2.1, okO_LAffine.up hN h.2.2.2⟩
end
end Go.Proofs.YtjpoanaoaeaneaaGreatDoor
set_option linter.all false
set_option maxRecDepth 100000
namespace Go.Proofs.YtjpoanaoaeaneaaGreatDoor
open Go.ChangeShapes Go.WideShapes Go.RowKit Go.Deep
theorem gT : Tryz.prog.globalNamed "internal/strconv.uint64pow10" = some 4 := by kernel_rfl
theorem tT : (Tryz.prog.globals[4]?).map (·.type) = some 264 := by kernel_rfl
theorem gE : Tryz.prog.globalNamed "strconv.ErrSyntax" = some 2 := by kernel_rfl
theorem tE : (Tryz.prog.globals[2]?).map (·.type) = some 89 := by kernel_rfl
theorem starE : "*" ++ "errors.errorString" = "*errors.errorString" := by decide
theorem rowE (u : TypeId) (h : Tryz.prog.typeName? 3 u = some "*errors.errorString") : u = 272 :=
  typeName_ptr_named (nm := "errors.errorString") (by rw [starE]; kernel_rfl) (by kernel_rfl) (by decide) u (by rw [starE]; exact h)
theorem gtab_pow {g : Nat} {cs : List AV} (h : gtab g = some cs) : g = 4 ∧ cs = Lib.pow10Tab.map fun z => AV.lit (.int .u64 z) := by
  unfold gtab at h
  split at h
  · rename_i e
    subst e
    cases h
    exact ⟨rfl, rfl⟩
  · cases h
theorem glob_laid {w : World} (hT : Lib.TabIs Tryz.prog w "internal/strconv.uint64pow10" .u64 Lib.pow10Tab) (hE : ∃ te pe, w.cell? ⟨2, 0, none⟩ = some (.iface te pe)) : Glob w okT := by
  refine ⟨fun g cs hg => ?_, fun g hg => ?_⟩
  · obtain ⟨rfl, rfl⟩ := gtab_pow hg
    unfold Lib.TabIs World.var? at hT
    rw [gT] at hT
    simp only [Option.bind_some] at hT
    split at hT
    · rename_i c t fr hc
      cases hT
      have key : ∀ (j : Nat) (d : AV), (Lib.pow10Tab.map fun z => AV.lit (.int .u64 z))[j]? = some d → ∃ v, w.cell? ⟨4, 0 + j, none⟩ = some v ∧ d = .lit v := fun j d hj => by
        rw [List.getElem?_map] at hj
        obtain ⟨z, hz, rfl⟩ := Option.map_eq_some_iff.1 hj
        refine ⟨.int .u64 z, ?_, rfl⟩
        rw [Nat.zero_add]
        simp only [World.cell?, hc]
        simp [hz]
      refine ⟨.mem (fun j d hj => ?_) (fun j d hj => ?_), t, ?_⟩
      · obtain ⟨v, h1, _⟩ := key j d hj
        exact ⟨trivial, by rw [h1]; rfl⟩
      · obtain ⟨v, h1, rfl⟩ := key j d hj
        rw [h1]
        exact .lit _
      · simp [World.shape?, hc]
    · cases hT
  · have e : g = 2 := by simpa [gerr] using hg
    subst e
    exact ⟨trivial, hE⟩
theorem laid_glob {W : World} (h : laidMet Tryz.prog [("math/bits.deBruijn32tab", Rows.laid_math_bits_deBruijn32tab), ("math/bits.deBruijn64tab", Rows.laid_math_bits_deBruijn64tab), ("internal/strconv.uint64pow10", Rows.laid_internal_strconv_uint64pow10), ("strconv.ErrRange", Rows.laid_strconv_ErrRange), ("strconv.ErrSyntax", Rows.laid_strconv_ErrSyntax)] W) : Glob W okT := by
  have h3 := laidMet.tail (laidMet.tail h)
  have hT : Lib.TabIs Tryz.prog W "internal/strconv.uint64pow10" .u64 Lib.pow10Tab := Lib.tabIs_of_head gT tT Tryz.underlying264 Tryz.underlying104 (by kernel_rfl) (by kernel_rfl) h3
  have h5 := laidMet.tail (laidMet.tail h3)
  obtain ⟨a0, s0, hv0, _⟩ := laid_sentinel h5 gE tE Tryz.underlying89 rowE Tryz.underlying272 Tryz.underlying274 rfl rfl Tryz.underlying9 (by kernel_rfl) (by kernel_rfl)
  exact glob_laid hT ⟨_, _, World.var?_cell gE hv0 0⟩
theorem okF_lim {N : Nat} {f : FormR} (h : okO_Affine N f) : LimF f := ⟨fun t ht => ⟨(h.1.2 t ht).2.1.1, (h.1.2 t ht).2.2.1⟩, h.2.1.1, h.2.2.1⟩
theorem true_end {w : World} {ok : Nat → Nat → Prop} {e : Ending} {w' : World} (h : ∃ v, e = .returned v ∧ RepT w' (okN ok w w') (.lit (.bool true)) v ∧ Below w.heap.size w w') : RetB true w e w' := by
  obtain ⟨v, rfl, h2, h3⟩ := h
  cases h2
  exact ⟨rfl, h3⟩
end Go.Proofs.YtjpoanaoaeaneaaGreatDoor
set_option linter.all false
namespace Go.Proofs.YtjpoanaoaeaneaaGreatDoor
open Go.ChangeShapes Go.WideShapes Go.RowKit Go.Deep
theorem lt_use (w : World) {v0 : Value} {f : FormR} {N : Nat} (r0 : RepT w okT (.agg (formRC f)) v0) (k0 : okO_Affine N f) (hG : Glob w okT) :
    Calls Tryz.prog 3 #[v0] w (RetB true w) :=
  (lt_law (okF_lim k0) w okT _ hG (rvs_cons r0 rvs_nil)).mono fun _ _ h => true_end h
end Go.Proofs.YtjpoanaoaeaneaaGreatDoor
