/- What the laid package variables give the abstract runs of layer 7; arguments that came in. -/
import Derived.Test.YthkkmokbjmempaaGreatDoorGs
import Derived.Test.YthkkmokbjmempaaGreatDoorOX
import Derived.Lib.LaidTab
import Derived.Stop.LaidErr
set_option linter.all false
set_option linter.all false
set_option maxRecDepth 100000
namespace Go.Proofs.YthkkmokbjmempaaGreatDoor
open Go.ChangeShapes Go.WideShapes Go.RowKit Go.Deep

theorem gT : Tryz.prog.globalNamed "internal/strconv.uint64pow10" = some 0 := by kernel_rfl
theorem tT : (Tryz.prog.globals[0]?).map (·.type) = some 183 := by kernel_rfl
theorem gE : Tryz.prog.globalNamed "strconv.ErrSyntax" = some 2 := by kernel_rfl
theorem tE : (Tryz.prog.globals[2]?).map (·.type) = some 83 := by kernel_rfl
theorem starE : "*" ++ "errors.errorString" = "*errors.errorString" := by decide
theorem rowE (u : TypeId) (h : Tryz.prog.typeName? 3 u = some "*errors.errorString") : u = 207 :=
  typeName_ptr_named (nm := "errors.errorString") (by rw [starE]; kernel_rfl) (by kernel_rfl) (by decide) u (by rw [starE]; exact h)
theorem gtab_pow {g : Nat} {cs : List AV} (h : gtab g = some cs) : g = 0 ∧ cs = Lib.pow10Tab.map fun z => AV.lit (.int .u64 z) := by
  unfold gtab at h
  split at h
  · rename_i e
    subst e
    cases h
    exact ⟨rfl, rfl⟩
  · cases h
theorem glob_laid {w : World} (hT : Lib.TabIs Tryz.prog w "internal/strconv.uint64pow10" .u64 Lib.pow10Tab) (hE : ∃ te pe, w.cell? ⟨2, 0, none⟩ = some (.iface te pe)) : Glob w okT := by
  refine ⟨fun g cs hg => ?_, fun g hg => ?_⟩
  · obtain ⟨rfl, rfl⟩ := gtab_pow hg
    unfold Lib.TabIs World.var? at hT
    rw [gT] at hT
    simp only [Option.bind_some] at hT
    split at hT
    · rename_i c t fr hc
      cases hT
      have key : ∀ (j : Nat) (d : AV), (Lib.pow10Tab.map fun z => AV.lit (.int .u64 z))[j]? = some d → ∃ v, w.cell? ⟨0, 0 + j, none⟩ = some v ∧ d = .lit v := fun j d hj => by
        rw [List.getElem?_map] at hj
        obtain ⟨z, hz, rfl⟩ := Option.map_eq_some_iff.1 hj
        refine ⟨.int .u64 z, ?_, rfl⟩
        rw [Nat.zero_add]
        simp only [World.cell?, hc]
        simp [hz]
      refine ⟨.mem (fun j d hj => ?_) (fun j d hj => ?_), t, ?_⟩
      · obtain ⟨v, h1, _⟩ := key j d hj
        exact ⟨trivial, by rw [h1]; rfl⟩
      · obtain ⟨v, h1, rfl⟩ := key j d hj
        rw [h1]
        exact .lit _
      · simp [World.shape?, hc]
    · cases hT
  · have e : g = 2 := by simpa [gerr] using hg
    subst e
    exact ⟨trivial, hE⟩
theorem laid_glob {W : World} (h : laidMet Tryz.prog [("math/bits.deBruijn32tab", Rows.laid_math_bits_deBruijn32tab), ("math/bits.deBruijn64tab", Rows.laid_math_bits_deBruijn64tab), ("internal/strconv.uint64pow10", Rows.laid_internal_strconv_uint64pow10), ("strconv.ErrRange", Rows.laid_strconv_ErrRange), ("strconv.ErrSyntax", Rows.laid_strconv_ErrSyntax)] W) : Glob W okT := by
  have h3 := laidMet.tail (laidMet.tail h)
  have hT : Lib.TabIs Tryz.prog W "internal/strconv.uint64pow10" .u64 Lib.pow10Tab := Lib.tabIs_of_head gT tT Tryz.underlying183 Tryz.underlying101 (by kernel_rfl) (by kernel_rfl) h3
  have h5 := laidMet.tail (laidMet.tail h3)
  obtain ⟨a0, s0, hv0, _⟩ := laid_sentinel h5 gE tE Tryz.underlying83 rowE Tryz.underlying207 Tryz.underlying209 rfl rfl Tryz.underlying9 (by kernel_rfl) (by kernel_rfl)
  exact glob_laid hT ⟨_, _, World.var?_cell gE hv0 0⟩
theorem okF_lim {N : Nat} {f : FormR} (h : okO_Affine N f) : LimF f := ⟨fun t ht => ⟨(h.1.2 t ht).2.1.1, (h.1.2 t ht).2.2.1⟩, h.2.1.1, h.2.2.1⟩
theorem okL_lim {N : Nat} {l : List Raw} (h : okO_LRat N l) : ∀ r ∈ l, LimR2 r := fun r hr => ⟨(h.2 r hr).1.1, (h.2 r hr).2.1⟩
theorem okR_lim {N : Nat} {r : Raw} (h : okRaw N r) : LimR2 r := ⟨h.1.1, h.2.1⟩
theorem true_end {w : World} {ok : Nat → Nat → Prop} {e : Ending} {w' : World} (h : ∃ v, e = .returned v ∧ RepT w' (okN ok w w') (.lit (.bool true)) v ∧ Below w.heap.size w w') : RetB true w e w' := by
  obtain ⟨v, rfl, h2, h3⟩ := h
  cases h2
  exact ⟨rfl, h3⟩
end Go.Proofs.YthkkmokbjmempaaGreatDoor
