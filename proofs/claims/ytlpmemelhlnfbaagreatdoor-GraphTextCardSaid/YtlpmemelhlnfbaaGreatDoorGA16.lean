/- arguments that came in, us abstract values, with a bound on all that they hold. what arguments of the types []uint8, api.Rat, []int hold. What the laid package variables give the abstract runs of the laws of 15; bytes; arguments that came in. relucertlaw15.GraphText at arguments that came in. -/
import Derived.Test.YtlpmemelhlnfbaaGreatDoorRows
import Derived.Test.YtlpmemelhlnfbaaGreatDoorGA5
import Derived.Deep.Slices
import Derived.ChangeArms
import Derived.ChangeSlices
import Derived.DataReads
import Derived.OpenShut
import Derived.Lib.LaidTab
import Derived.Stop.LaidErr
import Derived.Test.YtlpmemelhlnfbaaGreatDoorGA15
set_option linter.all false
set_option linter.all false
namespace Go.Proofs.YtlpmemelhlnfbaaGreatDoor
open Go.ChangeShapes Go.WideShapes Go.RowKit Go.Deep

def okT : Nat → Nat → Prop := fun _ _ => True
theorem bulk_one_le {H : Type} (d : DataW H) : 1 ≤ Rows.uptoBulk d := by
  cases d with
  | lit l => cases l <;> simp [Rows.uptoBulk]
  | nil => simp [Rows.uptoBulk]
  | ptr d => simp [Rows.uptoBulk]
  | slice elems spare => simp [Rows.uptoBulk]
  | agg parts => simp [Rows.uptoBulk]
  | iface t d => simp [Rows.uptoBulk]
  | map entries => simp [Rows.uptoBulk]
  | held h => simp [Rows.uptoBulk]
theorem bulk_part_le {H : Type} {d : DataW H} {l : List (DataW H)} (h : d ∈ l) : Rows.uptoBulk d ≤ Rows.uptoBulkAll l := by
  induction l with
  | nil => cases h
  | cons x r ih =>
    simp only [Rows.uptoBulkAll]
    cases List.mem_cons.1 h with
    | inl e => subst e; omega
    | inr e => have := ih e; omega
theorem bulk_length_le {H : Type} (l : List (DataW H)) : l.length ≤ Rows.uptoBulkAll l := by
  induction l with
  | nil => simp [Rows.uptoBulkAll]
  | cons x r ih => have := bulk_one_le x; simp only [Rows.uptoBulkAll, List.length_cons]; omega
theorem bulk_slice {H : Type} {d : DataW H} {l r : List (DataW H)} (h : d ∈ l) : Rows.uptoBulk d ≤ Rows.uptoBulk (.slice l r) := by
  have := bulk_part_le h
  simp only [Rows.uptoBulk]
  omega
theorem bulk_slice_len {H : Type} (l r : List (DataW H)) : l.length ≤ Rows.uptoBulk (.slice l r) := by
  have := bulk_length_le l
  simp only [Rows.uptoBulk]
  omega
def Opens (w : World) (t : TypeId) (A : Nat → List AV → Prop) : Prop :=
  ∀ (H : Type) (enc : TypeId × Value → H) (base : Nat) (spare : Nat → Bool) (held : Bool) (fuel : Nat) (cs : List Value) (x : DataW H × List MemPlace), DataW.trod enc Tryz.prog w base spare held fuel t cs = some x → ∃ us, A (Rows.uptoBulk x.1) us ∧ RV (RepT w okT) us cs
def Up1 (A : Nat → List AV → Prop) : Prop := ∀ N M us, N ≤ M → A N us → A M us
theorem Opens.mono {w : World} {t : TypeId} {A B : Nat → List AV → Prop} (h : Opens w t A) (hA : ∀ N us, A N us → B N us) : Opens w t B := fun H enc base spare held fuel cs x hx => by
  obtain ⟨us, h1, h2⟩ := h H enc base spare held fuel cs x hx
  exact ⟨us, hA _ _ h1, h2⟩
theorem rvq1 {R : AV → Value → Prop} {a : AV} {v : Value} (h : R a v) : RV R [a] [v] := ⟨rfl, fun i d hi => by
  match i, hi with
  | 0, hi => cases hi; exact ⟨v, rfl, h⟩
  | i + 1, hi => simp at hi⟩
section
variable {w : World}
theorem op_int {t : TypeId} {k : IntKind} (ht : Tryz.prog.underlying t = some (.int k)) : Opens w t (fun _ us => ∃ z, us = [.lit (.int k z)] ∧ (Lit.int k z).wf = true) := fun H enc base spare held fuel cs x hx => by
  obtain ⟨n, rfl, rfl, hw⟩ := DataW.trod_int ht hx
  exact ⟨_, ⟨n, rfl, hw⟩, rvq1 (.lit _)⟩
theorem addr_at {b o i : Nat} : (⟨b, o, none⟩ : Addr).add i = ⟨b, o + i, none⟩ := by
  unfold Addr.add
  split
  · rename_i h; subst h; rfl
  · rfl
theorem op_sl {t e : TypeId} {k : Nat} {A : Nat → List AV → Prop} (ht : Tryz.prog.underlying t = some (.slice e)) (hk : Tryz.prog.cellsOf e = k) (h0k : 0 < k) (he : Opens w e A) (hA : Up1 A) :
    Opens w t (fun N us => ∃ es : List (List AV), us = [.sl k es] ∧ es.length ≤ N ∧ ∀ e ∈ es, A N e) := fun H enc base spare held fuel cs x hx => by
  rcases open_slice ht hx with ⟨rfl, _⟩ | ⟨a, len, cap, m, n, D, Pl, rfl, _, hl, hm, hmm, hxe, hi⟩
  · exact ⟨_, ⟨[], rfl, by simp, fun e he => by cases he⟩, rvq1 (.nil none 0)⟩
  · have hlm : len ≤ m := by rw [hmm]; split <;> omega
    have hb : ∀ i, i < len → Rows.uptoBulk (D i) ≤ Rows.uptoBulk x.1 := fun i hil => by
      subst hxe
      exact bulk_slice (List.mem_map.2 ⟨i, List.mem_range.2 hil, rfl⟩)
    have hbl : len ≤ Rows.uptoBulk x.1 := by
      subst hxe
      have := bulk_slice_len ((List.range len).map D) ((List.range (m - len)).map fun j => D (len + j))
      rw [List.length_map, List.length_range] at this
      exact this
    obtain ⟨U, hU⟩ := choose_lt (n := len) (p := fun i (u : List AV) => A (Rows.uptoBulk x.1) u ∧ ∃ cs', RV (RepT w okT) u cs' ∧ w.cells? base (a.add (i * k)) k = some cs') (fun i hil => by
      obtain ⟨cs', h1, h2⟩ := hi i (by omega)
      rw [hk] at h1
      obtain ⟨u, hu, hr⟩ := he H enc base spare held _ _ _ h2
      exact ⟨u, hA _ _ _ (hb i hil) hu, cs', hr, h1⟩)
    refine ⟨[.sl k ((List.range len).map U)], ⟨_, rfl, by rw [List.length_map, List.length_range]; exact hbl, fun e he => ?_⟩, ?_⟩
    · obtain ⟨i, hir, rfl⟩ := List.mem_map.1 he
      exact (hU i (List.mem_range.1 hir)).1
    · by_cases h0 : len = 0
      · subst h0; exact rvq1 (.nil (some a) cap)
      · have hz := (hU 0 (by omega)).2.choose_spec.2
        obtain ⟨_, hz1, hz2⟩ := World.cells?_some hz
        have hz3 := hz2 0 h0k
        rw [List.getElem?_eq_getElem (by omega)] at hz3
        have hs0 := World.cell?_spot hz3
        obtain ⟨b, o, sp⟩ := a
        have hsp : sp = none := by
          simp [Addr.add] at hs0
          exact hs0
        subst hsp
        have key : ∀ (i j : Nat) (e : List AV) (d : AV), ((List.range len).map U)[i]? = some e → e[j]? = some d → ∃ u, w.cell? ⟨b, o + i * k + j, none⟩ = some u ∧ RepT w okT d u := fun i j e d hie hjd => by
          have hil : i < len := by have := (List.getElem?_eq_some_iff.1 hie).1; rw [List.length_map, List.length_range] at this; exact this
          rw [List.getElem?_map, List.getElem?_range hil] at hie
          cases hie
          obtain ⟨_, cs', hr, hc⟩ := hU i hil
          obtain ⟨_, q1, q2⟩ := World.cells?_some hc
          obtain ⟨u, g1, g2⟩ := hr.2 j d hjd
          have hj : j < k := by
            have := (List.getElem?_eq_some_iff.1 g1).1
            omega
          have := q2 j hj
          rw [addr_at, addr_at] at this
          exact ⟨u, this.trans g1, g2⟩
        have R := RepT.sl (w := w) (ok := okT) (k := k) (b := b) (o := o) (c := cap) (es := (List.range len).map U) (fun e he => by
            obtain ⟨i, hir, rfl⟩ := List.mem_map.1 he
            obtain ⟨_, cs', hr, hc⟩ := hU i (List.mem_range.1 hir)
            obtain ⟨_, q1, _⟩ := World.cells?_some hc
            have := hr.1
            omega) (by rw [List.length_map, List.length_range]; exact hl) (fun i j e d he hd => by
            obtain ⟨u, h1, _⟩ := key i j e d he hd
            exact ⟨trivial, by rw [h1]; rfl⟩) (fun i j e d he hd => by
            obtain ⟨u, h1, h2⟩ := key i j e d he hd
            rw [h1]
            exact h2)
        rw [List.length_map, List.length_range] at R
        exact rvq1 R
theorem list_of {α : Type} {enc : α → List AV} {ok : α → Prop} : ∀ {es : List (List AV)}, (∀ e ∈ es, ∃ x, e = enc x ∧ ok x) → ∃ L : List α, es = L.map enc ∧ ∀ x ∈ L, ok x
  | [], _ => ⟨[], rfl, fun x hx => by cases hx⟩
  | e :: es, h => by
    obtain ⟨x, rfl, hx⟩ := h e (List.mem_cons_self ..)
    obtain ⟨L, rfl, hL⟩ := list_of fun e he => h e (List.mem_cons_of_mem _ he)
    exact ⟨x :: L, rfl, fun y hy => by
      rcases List.mem_cons.1 hy with rfl | hy
      · exact hx
      · exact hL y hy⟩
theorem op_list {α : Type} {t e : TypeId} {k : Nat} {enc : α → List AV} {ok : Nat → α → Prop} (ht : Tryz.prog.underlying t = some (.slice e)) (hk : Tryz.prog.cellsOf e = k) (h0k : 0 < k) (he : Opens w e (fun N us => ∃ x, us = enc x ∧ ok N x)) (hm : ∀ N M x, N ≤ M → ok N x → ok M x) :
    Opens w t (fun N us => ∃ L : List α, us = [.sl k (L.map enc)] ∧ L.length ≤ N ∧ ∀ x ∈ L, ok N x) :=
  (op_sl ht hk h0k he (fun N M us hN ⟨x, h1, h2⟩ => ⟨x, h1, hm N M x hN h2⟩)).mono fun N us ⟨es, h1, h2, h3⟩ => by
    obtain ⟨L, rfl, hL⟩ := list_of h3
    exact ⟨L, h1, by simpa using h2, hL⟩
def okInt (k : IntKind) (_ : Nat) (z : Int) : Prop := (Lit.int k z).wf = true
theorem okInt.up {k : IntKind} {N M : Nat} {z : Int} (hN : N ≤ M) (h : okInt k N z) : okInt k M z := h
def okBool (_ : Nat) (_ : Bool) : Prop := True
theorem okBool.up {N M : Nat} {b : Bool} (hN : N ≤ M) (h : okBool N b) : okBool M b := h
theorem op_intO {t : TypeId} {k : IntKind} (ht : Tryz.prog.underlying t = some (.int k)) : Opens w t (fun N us => ∃ z, us = [.lit (.int k z)] ∧ okInt k N z) := op_int ht
def okNat (N : Nat) (l : List Nat) : Prop := Lim l ∧ l.length ≤ N
theorem okNat.up {N M : Nat} {l : List Nat} (hN : N ≤ M) (h : okNat N l) : okNat M l := ⟨h.1, Nat.le_trans h.2 hN⟩
def okRaw (N : Nat) (r : Raw) : Prop := okNat N r.l1 ∧ okNat N r.l2
theorem okRaw.up {N M : Nat} {r : Raw} (hN : N ≤ M) (h : okRaw N r) : okRaw M r := ⟨h.1.up hN, h.2.up hN⟩
theorem arg_one {d : AV} {v : Value} (hv : v.cells = #[v]) (h : RV (RepT w okT) [d] v.cells.toList) : RepT w okT d v := by
  rw [hv] at h
  obtain ⟨u, h1, h2⟩ := h.2 0 d rfl
  cases h1
  exact h2
theorem rvs_nil {R : AV → Value → Prop} : RV R [] [] := ⟨rfl, fun i d hi => by simp at hi⟩
theorem rvs_cons {R : AV → Value → Prop} {a : AV} {v : Value} {l : List AV} {vs : List Value} (h : R a v) (hl : RV R l vs) : RV R (a :: l) (v :: vs) := ⟨by simp [hl.1], fun i d hi => by
  match i, hi with
  | 0, hi => cases hi; exact ⟨v, rfl, h⟩
  | i + 1, hi => exact hl.2 i d (by simpa using hi)⟩
end
end Go.Proofs.YtlpmemelhlnfbaaGreatDoor
set_option linter.all false
set_option maxRecDepth 100000
namespace Go.Proofs.YtlpmemelhlnfbaaGreatDoor
open Go.ChangeShapes Go.WideShapes Go.RowKit Go.Deep
section
variable {w : World}
def okO_Luint8 (N : Nat) (L : List (Int)) : Prop := L.length ≤ N ∧ ∀ x ∈ L, okInt .u8 N x
theorem okO_Luint8.up {N M : Nat} {L : List (Int)} (hN : N ≤ M) (h : okO_Luint8 N L) : okO_Luint8 M L := ⟨Nat.le_trans h.1 hN, fun x hx => okInt.up hN (h.2 x hx)⟩
theorem cO_Luint8E : Tryz.prog.cellsOf 5 = 1 := by kernel_rfl
theorem op_Luint8 : Opens w 35 (fun N us => ∃ L : List (Int), us = [.sl 1 (L.map intU8C)] ∧ okO_Luint8 N L) :=
  (op_list (α := Int) (enc := intU8C) (ok := okInt .u8) Tryz.underlying35 cO_Luint8E (by omega) (op_intO Tryz.underlying5) (fun N M x h g => okInt.up h g)).mono fun N us ⟨L, h1, h2, h3⟩ => ⟨L, h1, h2, h3⟩
def okO_Lint (N : Nat) (L : List (Int)) : Prop := L.length ≤ N ∧ ∀ x ∈ L, okInt .i64 N x
theorem okO_Lint.up {N M : Nat} {L : List (Int)} (hN : N ≤ M) (h : okO_Lint N L) : okO_Lint M L := ⟨Nat.le_trans h.1 hN, fun x hx => okInt.up hN (h.2 x hx)⟩
end
end Go.Proofs.YtlpmemelhlnfbaaGreatDoor
set_option linter.all false
set_option maxRecDepth 100000
namespace Go.Proofs.YtlpmemelhlnfbaaGreatDoor
open Go.ChangeShapes Go.WideShapes Go.RowKit Go.Deep

theorem gT : Tryz.prog.globalNamed "internal/strconv.uint64pow10" = some 0 := by kernel_rfl
theorem tT : (Tryz.prog.globals[0]?).map (·.type) = some 224 := by kernel_rfl
theorem gtab_pow {g : Nat} {cs : List AV} (h : gtab g = some cs) : g = 0 ∧ cs = Lib.pow10Tab.map fun z => AV.lit (.int .u64 z) := by
  unfold gtab at h
  split at h
  · rename_i e
    subst e
    cases h
    exact ⟨rfl, rfl⟩
  · cases h
theorem glob_laid {w : World} (hT : Lib.TabIs Tryz.prog w "internal/strconv.uint64pow10" .u64 Lib.pow10Tab) : Glob w okT := by
  refine ⟨fun g cs hg => ?_, fun g hg => ?_⟩
  · obtain ⟨rfl, rfl⟩ := gtab_pow hg
    unfold Lib.TabIs World.var? at hT
    rw [gT] at hT
    simp only [Option.bind_some] at hT
    split at hT
    · rename_i c t fr hc
      cases hT
      have key : ∀ (j : Nat) (d : AV), (Lib.pow10Tab.map fun z => AV.lit (.int .u64 z))[j]? = some d → ∃ v, w.cell? ⟨0, 0 + j, none⟩ = some v ∧ d = .lit v := fun j d hj => by
        rw [List.getElem?_map] at hj
        obtain ⟨z, hz, rfl⟩ := Option.map_eq_some_iff.1 hj
        refine ⟨.int .u64 z, ?_, rfl⟩
        rw [Nat.zero_add]
        simp only [World.cell?, hc]
        simp [hz]
      refine ⟨.mem (fun j d hj => ?_) (fun j d hj => ?_), t, ?_⟩
      · obtain ⟨v, h1, _⟩ := key j d hj
        exact ⟨trivial, by rw [h1]; rfl⟩
      · obtain ⟨v, h1, rfl⟩ := key j d hj
        rw [h1]
        exact .lit _
      · simp [World.shape?, hc]
    · cases hT
  · exact absurd hg (by simp [gerr])
theorem laid_glob {W : World} (h : laidMet Tryz.prog [("math/bits.deBruijn32tab", Rows.laid_math_bits_deBruijn32tab), ("math/bits.deBruijn64tab", Rows.laid_math_bits_deBruijn64tab), ("internal/strconv.uint64pow10", Rows.laid_internal_strconv_uint64pow10)] W) : Glob W okT := by
  have h3 := laidMet.tail (laidMet.tail h)
  have hT : Lib.TabIs Tryz.prog W "internal/strconv.uint64pow10" .u64 Lib.pow10Tab := Lib.tabIs_of_head gT tT Tryz.underlying224 Tryz.underlying139 (by kernel_rfl) (by kernel_rfl) h3
  exact glob_laid hT
theorem true_end {w : World} {ok : Nat → Nat → Prop} {e : Ending} {w' : World} (h : ∃ v, e = .returned v ∧ RepT w' (okN ok w w') (.lit (.bool true)) v ∧ Below w.heap.size w w') : RetB true w e w' := by
  obtain ⟨v, rfl, h2, h3⟩ := h
  cases h2
  exact ⟨rfl, h3⟩
theorem byt_of {N : Nat} {bs : List Int} (h : bs.length ≤ N ∧ ∀ x ∈ bs, okInt .u8 N x) : ∀ x ∈ bs, 0 ≤ x ∧ x < 256 := fun x hx => by
  have h2 := h.2 x hx
  have h4 : 0 ≤ x ∧ x ≤ 255 := by simpa [okInt, Lit.wf, IntKind.min, IntKind.max, IntKind.signed, IntKind.bits] using h2
  omega
end Go.Proofs.YtlpmemelhlnfbaaGreatDoor
set_option linter.all false
namespace Go.Proofs.YtlpmemelhlnfbaaGreatDoor
open Go.ChangeShapes Go.WideShapes Go.RowKit Go.Deep
theorem gt_use (w : World) {v0 v1 : Value} {xa bs_ : List Int} {N M : Nat} (r0 : RepT w okT (.sl 1 (xa.map intU8C)) v0) (r1 : RepT w okT (.sl 1 (bs_.map intU8C)) v1) (k0 : okO_Luint8 N xa) (k1 : okO_Luint8 M bs_) (hG : Glob w okT) :
    Calls Tryz.prog 5 #[v0, v1] w (RetB true w) :=
  (gxl_con (gtext_true (n := 0) (byt_of k0) (byt_of k1)) w okT _ hG (rvs_cons r0 (rvs_cons r1 rvs_nil))).mono fun _ _ h => true_end h
end Go.Proofs.YtlpmemelhlnfbaaGreatDoor
