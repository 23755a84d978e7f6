import Derived.Test.YtlpmemelhlnfbaaGreatDoorGA29
import Derived.Lib.LaidTab
import Derived.Stop.LaidErr
set_option linter.all false
set_option maxRecDepth 100000
namespace Go.Proofs.YtlpmemelhlnfbaaGreatDoor
open Go.ChangeShapes Go.WideShapes Go.RowKit Go.Deep
theorem gT : Tryz.prog.globalNamed "internal/strconv.uint64pow10" = some 0 := by kernel_rfl
theorem tT : (Tryz.prog.globals[0]?).map (·.type) = some 224 := by kernel_rfl
theorem gtab_pow {g : Nat} {cs : List AV} (h : gtab g = some cs) : g = 0 ∧ cs = Lib.pow10Tab.map fun z => AV.lit (.int .u64 z) := by
  unfold gtab at h
  split at h
  · rename_i e
    subst e
    cases h
    exact ⟨rfl, rfl⟩
  · cases h
theorem glob_laid {w : World} (hT : Lib.TabIs Tryz.prog w "internal/strconv.uint64pow10" .u64 Lib.pow10Tab) : Glob w okT := by
  refine ⟨fun g cs hg => ?_, fun g hg => ?_⟩
  · obtain ⟨rfl, rfl⟩ := gtab_pow hg
    unfold Lib.TabIs World.var? at hT
    rw [gT] at hT
    simp only [Option.bind_some] at hT
    split at hT
    · rename_i c t fr hc
      cases hT
      have key : ∀ (j : Nat) (d : AV), (Lib.pow10Tab.map fun z => AV.lit (.int .u64 z))[j]? = some d → ∃ v, w.cell? ⟨0, 0 + j, none⟩ = some v ∧ d = .lit v := fun j d hj => by
        rw [List.getElem?_map] at hj
        obtain ⟨z, hz, rfl⟩ := Option.map_eq_some_iff.1 hj
        refine ⟨.int .u64 z, ?_, rfl⟩
        rw [Nat.zero_add]
        simp only [World.cell?, hc]
        simp [hz]
      refine ⟨.mem (fun j d hj => ?_) (fun j d hj => ?_), t, ?_⟩
      · obtain ⟨v, h1, _⟩ := key j d hj
        exact ⟨trivial, by rw [h1]; rfl⟩
      · obtain ⟨v, h1, rfl⟩ := key j d hj
        rw [h1]
        exact .lit _
      · simp [World.shape?, hc]
    · cases hT
  · exact absurd hg (by simp [gerr])
theorem laid_glob {W : World} (h : laidMet Tryz.prog [("math/bits.deBruijn32tab", Rows.laid_math_bits_deBruijn32tab), ("math/bits.deBruijn64tab", Rows.laid_math_bits_deBruijn64tab), ("internal/strconv.uint64pow10", Rows.laid_internal_strconv_uint64pow10)] W) : Glob W okT := by
  have h3 := laidMet.tail (laidMet.tail h)
  have hT : Lib.TabIs Tryz.prog W "internal/strconv.uint64pow10" .u64 Lib.pow10Tab := Lib.tabIs_of_head gT tT Tryz.underlying224 Tryz.underlying139 (by kernel_rfl) (by kernel_rfl) h3
  exact glob_laid hT
theorem true_end {w : World} {ok : Nat → Nat → Prop} {e : Ending} {w' : World} (h : ∃ v, e = .returned v ∧ RepT w' (okN ok w w') (.lit (.bool true)) v ∧ Below w.heap.size w w') : RetB true w e w' := by
  obtain ⟨v, rfl, h2, h3⟩ := h
  cases h2
  exact ⟨rfl, h3⟩
theorem byt_of {N : Nat} {bs : List Int} (h : bs.length ≤ N ∧ ∀ x ∈ bs, okInt .u8 N x) : ∀ x ∈ bs, 0 ≤ x ∧ x < 256 := fun x hx => by
  have h2 := h.2 x hx
  have h4 : 0 ≤ x ∧ x ≤ 255 := by simpa [okInt, Lit.wf, IntKind.min, IntKind.max, IntKind.signed, IntKind.bits] using h2
  omega
end Go.Proofs.YtlpmemelhlnfbaaGreatDoor
set_option linter.all false
namespace Go.Proofs.YtlpmemelhlnfbaaGreatDoor
open Go.ChangeShapes Go.WideShapes Go.RowKit Go.Deep
theorem gh_use (w : World) {v0 v2 : Value} {bs at_ : List Int} {z : Int} {N M : Nat} (r0 : RepT w okT (.sl 1 (bs.map intU8C)) v0) (r2 : RepT w okT (.sl 1 (at_.map intU8C)) v2) (k0 : okO_Luint8 N bs) (k2 : okO_Luint8 M at_) (hG : Glob w okT) :
    Calls Tryz.prog 10 #[v0, .int .i64 z, v2] w (RetB true w) :=
  (ghl_con (halve_true (n := 0) (a := z) (byt_of k0) (byt_of k2)) w okT _ hG (rvs_cons r0 (rvs_cons (.lit _) (rvs_cons r2 rvs_nil)))).mono fun _ _ h => true_end h
end Go.Proofs.YtlpmemelhlnfbaaGreatDoor
