import Derived.Test.YtjpoanaoaeaneaaGreatDoorRows
import Derived.Test.YtjpoanaoaeaneaaGreatDoorGC5
import Derived.Deep.Slices
import Derived.ChangeArms
import Derived.ChangeSlices
import Derived.DataReads
import Derived.OpenShut
import Derived.Test.YtjpoanaoaeaneaaGreatDoorGC10
import Derived.Lib.LaidTab
import Derived.Stop.LaidErr
set_option linter.all false
namespace Go.Proofs.YtjpoanaoaeaneaaGreatDoor
open Go.ChangeShapes Go.WideShapes Go.RowKit Go.Deep
def okT : Nat → Nat → Prop := fun _ _ => True
theorem bulk_one_le {H : Type} (d : DataW H) : 1 ≤ Rows.uptoBulk d := by
  cases d with
  | lit l => cases l <;> simp [Rows.uptoBulk]
  | nil => simp [Rows.uptoBulk]
  | ptr d => simp [Rows.uptoBulk]
  | slice elems spare => simp [Rows.uptoBulk]
  | agg parts => simp [Rows.uptoBulk]
  | iface t d => simp [Rows.uptoBulk]
  | map entries => simp [Rows.uptoBulk]
  | held h => simp [Rows.uptoBulk]
theorem bulk_part_le {H : Type} {d : DataW H} {l : List (DataW H)} (h : d ∈ l) : Rows.uptoBulk d ≤ Rows.uptoBulkAll l := by
  induction l with
  | nil => cases h
  | cons x r ih =>
    simp only [Rows.uptoBulkAll]
    cases List.mem_cons.1 h with
    | inl e => subst e; omega
    | inr e => have := ih e; omega
theorem bulk_length_le {H : Type} (l : List (DataW H)) : l.length ≤ Rows.uptoBulkAll l := by
  induction l with
  | nil => simp [Rows.uptoBulkAll]
  | cons x r ih => have := bulk_one_le x; simp only [Rows.uptoBulkAll, List.length_cons]; omega
theorem bulk_agg {H : Type} {d : DataW H} {l : List (DataW H)} (h : d ∈ l) : Rows.uptoBulk d ≤ Rows.uptoBulk (.agg l) := by
  have := bulk_part_le h
  simp only [Rows.uptoBulk]
  omega
theorem bulk_slice {H : Type} {d : DataW H} {l r : List (DataW H)} (h : d ∈ l) : Rows.uptoBulk d ≤ Rows.uptoBulk (.slice l r) := by
  have := bulk_part_le h
  simp only [Rows.uptoBulk]
  omega
theorem bulk_slice_len {H : Type} (l r : List (DataW H)) : l.length ≤ Rows.uptoBulk (.slice l r) := by
  have := bulk_length_le l
  simp only [Rows.uptoBulk]
  omega
def Opens (w : World) (t : TypeId) (A : Nat → List AV → Prop) : Prop :=
  ∀ (H : Type) (enc : TypeId × Value → H) (base : Nat) (spare : Nat → Bool) (held : Bool) (fuel : Nat) (cs : List Value) (x : DataW H × List MemPlace), DataW.trod enc Tryz.prog w base spare held fuel t cs = some x → ∃ us, A (Rows.uptoBulk x.1) us ∧ RV (RepT w okT) us cs
def Up1 (A : Nat → List AV → Prop) : Prop := ∀ N M us, N ≤ M → A N us → A M us
theorem Opens.mono {w : World} {t : TypeId} {A B : Nat → List AV → Prop} (h : Opens w t A) (hA : ∀ N us, A N us → B N us) : Opens w t B := fun H enc base spare held fuel cs x hx => by
  obtain ⟨us, h1, h2⟩ := h H enc base spare held fuel cs x hx
  exact ⟨us, hA _ _ h1, h2⟩
theorem rvq1 {R : AV → Value → Prop} {a : AV} {v : Value} (h : R a v) : RV R [a] [v] := ⟨rfl, fun i d hi => by
  match i, hi with
  | 0, hi => cases hi; exact ⟨v, rfl, h⟩
  | i + 1, hi => simp at hi⟩
theorem rv_fld {R : AV → Value → Prop} {us bs : List AV} {cs : List Value} {o n : Nat} (h1 : RV R us ((cs.drop o).take n)) (h2 : RV R bs (cs.drop (o + n))) (hn : o + n ≤ cs.length) : RV R (us ++ bs) (cs.drop o) := by
  have l1 := h1.1
  have l2 := h2.1
  rw [List.length_take, List.length_drop] at l1
  rw [List.length_drop] at l2
  refine ⟨by rw [List.length_append, List.length_drop]; omega, fun i d hi => ?_⟩
  by_cases hl : i < us.length
  · rw [List.getElem?_append_left hl] at hi
    obtain ⟨u, h3, h4⟩ := h1.2 i d hi
    rw [List.getElem?_take, if_pos (by omega)] at h3
    exact ⟨u, h3, h4⟩
  · rw [List.getElem?_append_right (by omega)] at hi
    obtain ⟨u, h3, h4⟩ := h2.2 _ d hi
    refine ⟨u, ?_, h4⟩
    rw [List.getElem?_drop] at h3 ⊢
    rw [← h3]
    congr 1
    omega
theorem rv_end {R : AV → Value → Prop} {cs : List Value} {N : Nat} (h : cs.length = N) : RV R [] (cs.drop N) := by
  rw [List.drop_of_length_le (by omega)]
  exact ⟨rfl, fun i d hi => by simp at hi⟩
section
variable {w : World}
theorem op_int {t : TypeId} {k : IntKind} (ht : Tryz.prog.underlying t = some (.int k)) : Opens w t (fun _ us => ∃ z, us = [.lit (.int k z)] ∧ (Lit.int k z).wf = true) := fun H enc base spare held fuel cs x hx => by
  obtain ⟨n, rfl, rfl, hw⟩ := DataW.trod_int ht hx
  exact ⟨_, ⟨n, rfl, hw⟩, rvq1 (.lit _)⟩
theorem op_bool {t : TypeId} (ht : Tryz.prog.underlying t = some .bool) : Opens w t (fun _ us => ∃ b, us = [.lit (.bool b)]) := fun H enc base spare held fuel cs x hx => by
  obtain ⟨b, rfl, _⟩ := DataW.trod_bool ht hx
  exact ⟨_, ⟨b, rfl⟩, rvq1 (.lit _)⟩
theorem fldB {H : Type} {enc : TypeId × Value → H} {base : Nat} {spare : Nat → Bool} {held : Bool} {t : TypeId} {fs : Array Field} {fuel : Nat} {cs : List Value} {x : DataW H × List MemPlace} (hs : Tryz.prog.underlying t = some (.struct fs)) (h : DataW.trod enc Tryz.prog w base spare held fuel t cs = some x) :
    cs.length = Tryz.prog.cellsOf t ∧ ∀ (i : Nat) (f : Field) (T : TypeId) (o : Nat), fs[i]? = some f → f.type = T → f.offset = o → ∃ n y, DataW.trod enc Tryz.prog w base spare held n T ((cs.drop o).take (Tryz.prog.cellsOf T)) = some y ∧ Rows.uptoBulk y.1 ≤ Rows.uptoBulk x.1 := by
  obtain ⟨xs, n, _, hx, hl, hlen, hg⟩ := DataW.trod_struct hs h
  refine ⟨hl, fun i f T o hf hT ho => ⟨n, xs[i]'(by rw [hlen]; exact (Array.getElem?_eq_some_iff.1 hf).1), ?_, ?_⟩⟩
  · subst hT ho
    rw [hg i f hf]
    exact List.getElem?_eq_getElem _
  · subst hx
    exact bulk_agg (List.mem_map_of_mem (List.getElem_mem _))
theorem addr_at {b o i : Nat} : (⟨b, o, none⟩ : Addr).add i = ⟨b, o + i, none⟩ := by
  unfold Addr.add
  split
  · rename_i h; subst h; rfl
  · rfl
theorem op_sl {t e : TypeId} {k : Nat} {A : Nat → List AV → Prop} (ht : Tryz.prog.underlying t = some (.slice e)) (hk : Tryz.prog.cellsOf e = k) (h0k : 0 < k) (he : Opens w e A) (hA : Up1 A) :
    Opens w t (fun N us => ∃ es : List (List AV), us = [.sl k es] ∧ es.length ≤ N ∧ ∀ e ∈ es, A N e) := fun H enc base spare held fuel cs x hx => by
  rcases open_slice ht hx with ⟨rfl, _⟩ | ⟨a, len, cap, m, n, D, Pl, rfl, _, hl, hm, hmm, hxe, hi⟩
  · exact ⟨_, ⟨[], rfl, by simp, fun e he => by cases he⟩, rvq1 (.nil none 0)⟩
  · have hlm : len ≤ m := by rw [hmm]; split <;> omega
    have hb : ∀ i, i < len → Rows.uptoBulk (D i) ≤ Rows.uptoBulk x.1 := fun i hil => by
      subst hxe
      exact bulk_slice (List.mem_map.2 ⟨i, List.mem_range.2 hil, rfl⟩)
    have hbl : len ≤ Rows.uptoBulk x.1 := by
      subst hxe
      have := bulk_slice_len ((List.range len).map D) ((List.range (m - len)).map fun j => D (len + j))
      rw [List.length_map, List.length_range] at this
      exact this
    obtain ⟨U, hU⟩ := choose_lt (n := len) (p := fun i (u : List AV) => A (Rows.uptoBulk x.1) u ∧ ∃ cs', RV (RepT w okT) u cs' ∧ w.cells? base (a.add (i * k)) k = some cs') (fun i hil => by
      obtain ⟨cs', h1, h2⟩ := hi i (by omega)
      rw [hk] at h1
      obtain ⟨u, hu, hr⟩ := he H enc base spare held _ _ _ h2
      exact ⟨u, hA _ _ _ (hb i hil) hu, cs', hr, h1⟩)
    refine ⟨[.sl k ((List.range len).map U)], ⟨_, rfl, by rw [List.length_map, List.length_range]; exact hbl, fun e he => ?_⟩, ?_⟩
    · obtain ⟨i, hir, rfl⟩ := List.mem_map.1 he
      exact (hU i (List.mem_range.1 hir)).1
    · by_cases h0 : len = 0
      · subst h0; exact rvq1 (.nil (some a) cap)
      · have hz := (hU 0 (by omega)).2.choose_spec.2
        obtain ⟨_, hz1, hz2⟩ := World.cells?_some hz
        have hz3 := hz2 0 h0k
        rw [List.getElem?_eq_getElem (by omega)] at hz3
        have hs0 := World.cell?_spot hz3
        obtain ⟨b, o, sp⟩ := a
        have hsp : sp = none := by
          simp [Addr.add] at hs0
          exact hs0
        subst hsp
        have key : ∀ (i j : Nat) (e : List AV) (d : AV), ((List.range len).map U)[i]? = some e → e[j]? = some d → ∃ u, w.cell? ⟨b, o + i * k + j, none⟩ = some u ∧ RepT w okT d u := fun i j e d hie hjd => by
          have hil : i < len := by have := (List.getElem?_eq_some_iff.1 hie).1; rw [List.length_map, List.length_range] at this; exact this
          rw [List.getElem?_map, List.getElem?_range hil] at hie
          cases hie
          obtain ⟨_, cs', hr, hc⟩ := hU i hil
          obtain ⟨_, q1, q2⟩ := World.cells?_some hc
          obtain ⟨u, g1, g2⟩ := hr.2 j d hjd
          have hj : j < k := by
            have := (List.getElem?_eq_some_iff.1 g1).1
            omega
          have := q2 j hj
          rw [addr_at, addr_at] at this
          exact ⟨u, this.trans g1, g2⟩
        have R := RepT.sl (w := w) (ok := okT) (k := k) (b := b) (o := o) (c := cap) (es := (List.range len).map U) (fun e he => by
            obtain ⟨i, hir, rfl⟩ := List.mem_map.1 he
            obtain ⟨_, cs', hr, hc⟩ := hU i (List.mem_range.1 hir)
            obtain ⟨_, q1, _⟩ := World.cells?_some hc
            have := hr.1
            omega) (by rw [List.length_map, List.length_range]; exact hl) (fun i j e d he hd => by
            obtain ⟨u, h1, _⟩ := key i j e d he hd
            exact ⟨trivial, by rw [h1]; rfl⟩) (fun i j e d he hd => by
            obtain ⟨u, h1, h2⟩ := key i j e d he hd
            rw [h1]
            exact h2)
        rw [List.length_map, List.length_range] at R
        exact rvq1 R
theorem list_of {α : Type} {enc : α → List AV} {ok : α → Prop} : ∀ {es : List (List AV)}, (∀ e ∈ es, ∃ x, e = enc x ∧ ok x) → ∃ L : List α, es = L.map enc ∧ ∀ x ∈ L, ok x
  | [], _ => ⟨[], rfl, fun x hx => by cases hx⟩
  | e :: es, h => by
    obtain ⟨x, rfl, hx⟩ := h e (List.mem_cons_self ..)
    obtain ⟨L, rfl, hL⟩ := list_of fun e he => h e (List.mem_cons_of_mem _ he)
    exact ⟨x :: L, rfl, fun y hy => by
      rcases List.mem_cons.1 hy with rfl | hy
      · exact hx
      · exact hL y hy⟩
theorem op_list {α : Type} {t e : TypeId} {k : Nat} {enc : α → List AV} {ok : Nat → α → Prop} (ht : Tryz.prog.underlying t = some (.slice e)) (hk : Tryz.prog.cellsOf e = k) (h0k : 0 < k) (he : Opens w e (fun N us => ∃ x, us = enc x ∧ ok N x)) (hm : ∀ N M x, N ≤ M → ok N x → ok M x) :
    Opens w t (fun N us => ∃ L : List α, us = [.sl k (L.map enc)] ∧ L.length ≤ N ∧ ∀ x ∈ L, ok N x) :=
  (op_sl ht hk h0k he (fun N M us hN ⟨x, h1, h2⟩ => ⟨x, h1, hm N M x hN h2⟩)).mono fun N us ⟨es, h1, h2, h3⟩ => by
    obtain ⟨L, rfl, hL⟩ := list_of h3
    exact ⟨L, h1, by simpa using h2, hL⟩
def okInt (k : IntKind) (_ : Nat) (z : Int) : Prop := (Lit.int k z).wf = true
theorem okInt.up {k : IntKind} {N M : Nat} {z : Int} (hN : N ≤ M) (h : okInt k N z) : okInt k M z := h
def okBool (_ : Nat) (_ : Bool) : Prop := True
theorem okBool.up {N M : Nat} {b : Bool} (hN : N ≤ M) (h : okBool N b) : okBool M b := h
theorem op_intO {t : TypeId} {k : IntKind} (ht : Tryz.prog.underlying t = some (.int k)) : Opens w t (fun N us => ∃ z, us = [.lit (.int k z)] ∧ okInt k N z) := op_int ht
theorem op_boolO {t : TypeId} (ht : Tryz.prog.underlying t = some .bool) : Opens w t (fun N us => ∃ b, us = [.lit (.bool b)] ∧ okBool N b) := (op_bool ht).mono fun N us ⟨b, h⟩ => ⟨b, h, trivial⟩
def okNat (N : Nat) (l : List Nat) : Prop := Lim l ∧ l.length ≤ N
theorem okNat.up {N M : Nat} {l : List Nat} (hN : N ≤ M) (h : okNat N l) : okNat M l := ⟨h.1, Nat.le_trans h.2 hN⟩
theorem cU32 : Tryz.prog.cellsOf 165 = 1 := by kernel_rfl
theorem op_natO : Opens w 24 (fun N us => ∃ l, us = [natA l] ∧ okNat N l) :=
  (op_list (α := Nat) (enc := fun x => [.lit (.int .u32 (x : Int))]) (ok := fun _ x => x < 4294967296) Tryz.underlying24 cU32 (by omega) ((op_int Tryz.underlying165).mono fun N us ⟨z, h1, h2⟩ => by
    have h3 : 0 ≤ z ∧ z ≤ 4294967295 := by simpa [Lit.wf, IntKind.min, IntKind.max, IntKind.signed, IntKind.bits] using h2
    exact ⟨z.toNat, by rw [h1, Int.toNat_of_nonneg h3.1], by omega⟩) (fun N M x _ h => h)).mono fun N us ⟨L, h1, h2, h3⟩ => ⟨L, h1, fun x hx => h3 x hx, h2⟩
def okRaw (N : Nat) (r : Raw) : Prop := okNat N r.l1 ∧ okNat N r.l2
theorem okRaw.up {N M : Nat} {r : Raw} (hN : N ≤ M) (h : okRaw N r) : okRaw M r := ⟨h.1.up hN, h.2.up hN⟩
theorem arg_one {d : AV} {v : Value} (hv : v.cells = #[v]) (h : RV (RepT w okT) [d] v.cells.toList) : RepT w okT d v := by
  rw [hv] at h
  obtain ⟨u, h1, h2⟩ := h.2 0 d rfl
  cases h1
  exact h2
theorem arg_agg {us : List AV} {cs : Array Value} (h : RV (RepT w okT) us (Value.agg cs).cells.toList) : RepT w okT (.agg us) (.agg cs) := by
  have h1 : (Value.agg cs).cells = cs := rfl
  rw [h1] at h
  refine .agg (by have := h.1; simpa using this) fun i d hi => ?_
  obtain ⟨u, h2, h3⟩ := h.2 i d hi
  have h4 : cs[i]? = some u := by simpa using h2
  rw [Array.getD_eq_getD_getElem?, h4]
  exact h3
theorem rvs_nil {R : AV → Value → Prop} : RV R [] [] := ⟨rfl, fun i d hi => by simp at hi⟩
theorem rvs_cons {R : AV → Value → Prop} {a : AV} {v : Value} {l : List AV} {vs : List Value} (h : R a v) (hl : RV R l vs) : RV R (a :: l) (v :: vs) := ⟨by simp [hl.1], fun i d hi => by
  match i, hi with
  | 0, hi => cases hi; exact ⟨v, rfl, h⟩
  | i + 1, hi => exact hl.2 i d (by simpa using hi)⟩
end
end Go.Proofs.YtjpoanaoaeaneaaGreatDoor
set_option linter.all false
set_option maxRecDepth 100000
namespace Go.Proofs.YtjpoanaoaeaneaaGreatDoor
open Go.ChangeShapes Go.WideShapes Go.RowKit Go.Deep
section
variable {w : World}
theorem cO_Rat : Tryz.prog.cellsOf 26 = 3 := by kernel_rfl
theorem cO_Rat_0 : Tryz.prog.cellsOf 4 = 1 := by kernel_rfl
theorem cO_Rat_1 : Tryz.prog.cellsOf 24 = 1 := by kernel_rfl
theorem cO_Rat_2 : Tryz.prog.cellsOf 24 = 1 := by kernel_rfl
set_option maxRecDepth 100000 in
theorem op_Rat : Opens w 26 (fun N us => ∃ x : Raw, us = rawC x ∧ okRaw N x) := fun H enc base spare held fuel cs x hx => by
  obtain ⟨hl, hf⟩ := fldB Tryz.underlying26 hx
  rw [cO_Rat] at hl
  obtain ⟨n0, y0, g0, b0⟩ := hf 0 _ 4 0 rfl rfl rfl
  obtain ⟨a0, ⟨x0, e0, p0⟩, r0⟩ := (op_boolO Tryz.underlying4) _ _ _ _ _ _ _ _ g0
  rw [cO_Rat_0] at r0
  subst e0
  obtain ⟨n1, y1, g1, b1⟩ := hf 1 _ 24 1 rfl rfl rfl
  obtain ⟨a1, ⟨x1, e1, p1⟩, r1⟩ := op_natO _ _ _ _ _ _ _ _ g1
  rw [cO_Rat_1] at r1
  subst e1
  obtain ⟨n2, y2, g2, b2⟩ := hf 2 _ 24 2 rfl rfl rfl
  obtain ⟨a2, ⟨x2, e2, p2⟩, r2⟩ := op_natO _ _ _ _ _ _ _ _ g2
  rw [cO_Rat_2] at r2
  subst e2
  exact ⟨_, ⟨(⟨x0, x1, x2⟩ : Raw), rfl, ⟨okNat.up b1 p1, okNat.up b2 p2⟩⟩, rv_fld (o := 0) (n := 1) r0 (rv_fld (o := 1) (n := 1) r1 (rv_fld (o := 2) (n := 1) r2 (rv_end hl) (by omega)) (by omega)) (by omega)⟩
def okO_Term (N : Nat) (x : Int × Raw) : Prop := okInt .i64 N x.1 ∧ okRaw N x.2
theorem okO_Term.up {N M : Nat} {x : Int × Raw} (hN : N ≤ M) (h : okO_Term N x) : okO_Term M x := ⟨okInt.up hN h.1, okRaw.up hN h.2⟩
theorem cO_Term : Tryz.prog.cellsOf 82 = 4 := by kernel_rfl
theorem cO_Term_0 : Tryz.prog.cellsOf 3 = 1 := by kernel_rfl
theorem cO_Term_1 : Tryz.prog.cellsOf 26 = 3 := by kernel_rfl
set_option maxRecDepth 100000 in
theorem op_Term : Opens w 82 (fun N us => ∃ x : Int × Raw, us = termRC x ∧ okO_Term N x) := fun H enc base spare held fuel cs x hx => by
  obtain ⟨hl, hf⟩ := fldB Tryz.underlying82 hx
  rw [cO_Term] at hl
  obtain ⟨n0, y0, g0, b0⟩ := hf 0 _ 3 0 rfl rfl rfl
  obtain ⟨a0, ⟨x0, e0, p0⟩, r0⟩ := (op_intO Tryz.underlying3) _ _ _ _ _ _ _ _ g0
  rw [cO_Term_0] at r0
  subst e0
  obtain ⟨n1, y1, g1, b1⟩ := hf 1 _ 26 1 rfl rfl rfl
  obtain ⟨a1, ⟨x1, e1, p1⟩, r1⟩ := op_Rat _ _ _ _ _ _ _ _ g1
  rw [cO_Term_1] at r1
  subst e1
  exact ⟨_, ⟨(⟨x0, x1⟩ : Int × Raw), rfl, ⟨okInt.up b0 p0, okRaw.up b1 p1⟩⟩, rv_fld (o := 0) (n := 1) r0 (rv_fld (o := 1) (n := 3) r1 (rv_end hl) (by omega)) (by omega)⟩
def okO_LTerm (N : Nat) (L : List (Int × Raw)) : Prop := L.length ≤ N ∧ ∀ x ∈ L, okO_Term N x
theorem okO_LTerm.up {N M : Nat} {L : List (Int × Raw)} (hN : N ≤ M) (h : okO_LTerm N L) : okO_LTerm M L := ⟨Nat.le_trans h.1 hN, fun x hx => okO_Term.up hN (h.2 x hx)⟩
theorem cO_LTermE : Tryz.prog.cellsOf 82 = 4 := by kernel_rfl
theorem op_LTerm : Opens w 22 (fun N us => ∃ L : List (Int × Raw), us = [.sl 4 (L.map termRC)] ∧ okO_LTerm N L) :=
  (op_list (α := Int × Raw) (enc := termRC) (ok := okO_Term) Tryz.underlying22 cO_LTermE (by omega) op_Term (fun N M x h g => okO_Term.up h g)).mono fun N us ⟨L, h1, h2, h3⟩ => ⟨L, h1, h2, h3⟩
def okO_Affine (N : Nat) (x : FormR) : Prop := okO_LTerm N x.1 ∧ okRaw N x.2
theorem okO_Affine.up {N M : Nat} {x : FormR} (hN : N ≤ M) (h : okO_Affine N x) : okO_Affine M x := ⟨okO_LTerm.up hN h.1, okRaw.up hN h.2⟩
def okO_LRat (N : Nat) (L : List (Raw)) : Prop := L.length ≤ N ∧ ∀ x ∈ L, okRaw N x
theorem okO_LRat.up {N M : Nat} {L : List (Raw)} (hN : N ≤ M) (h : okO_LRat N L) : okO_LRat M L := ⟨Nat.le_trans h.1 hN, fun x hx => okRaw.up hN (h.2 x hx)⟩
def okO_LAffine (N : Nat) (L : List (FormR)) : Prop := L.length ≤ N ∧ ∀ x ∈ L, okO_Affine N x
theorem okO_LAffine.up {N M : Nat} {L : List (FormR)} (hN : N ≤ M) (h : okO_LAffine N L) : okO_LAffine M L := ⟨Nat.le_trans h.1 hN, fun x hx => okO_Affine.up hN (h.2 x hx)⟩
def okO_Claim (N : Nat) (x : TClaimR) : Prop := okInt .i64 N x.Kind ∧ okInt .i64 N x.Target ∧ okRaw N x.Margin ∧ okO_LAffine N x.Rows
theorem okO_Claim.up {N M : Nat} {x : TClaimR} (hN : N ≤ M) (h : okO_Claim N x) : okO_Claim M x := ⟨okInt.up hN h.1, okInt.up hN h.2.1, okRaw.up hN h.2.2.1, okO_LAffine.up hN h.2.2.2⟩
end
end Go.Proofs.YtjpoanaoaeaneaaGreatDoor
set_option linter.all false
set_option maxRecDepth 100000
namespace Go.Proofs.YtjpoanaoaeaneaaGreatDoor
open Go.ChangeShapes Go.WideShapes Go.RowKit Go.Deep
theorem gT : Tryz.prog.globalNamed "internal/strconv.uint64pow10" = some 4 := by kernel_rfl
theorem tT : (Tryz.prog.globals[4]?).map (·.type) = some 264 := by kernel_rfl
theorem gE : Tryz.prog.globalNamed "strconv.ErrSyntax" = some 2 := by kernel_rfl
theorem tE : (Tryz.prog.globals[2]?).map (·.type) = some 89 := by kernel_rfl
theorem starE : "*" ++ "errors.errorString" = "*errors.errorString" := by decide
theorem rowE (u : TypeId) (h : Tryz.prog.typeName? 3 u = some "*errors.errorString") : u = 272 :=
  typeName_ptr_named (nm := "errors.errorString") (by rw [starE]; kernel_rfl) (by kernel_rfl) (by decide) u (by rw [starE]; exact h)
theorem gtab_pow {g : Nat} {cs : List AV} (h : gtab g = some cs) : g = 4 ∧ cs = Lib.pow10Tab.map fun z => AV.lit (.int .u64 z) := by
  unfold gtab at h
  split at h
  · rename_i e
    subst e
    cases h
    exact ⟨rfl, rfl⟩
  · cases h
theorem glob_laid {w : World} (hT : Lib.TabIs Tryz.prog w "internal/strconv.uint64pow10" .u64 Lib.pow10Tab) (hE : ∃ te pe, w.cell? ⟨2, 0, none⟩ = some (.iface te pe)) : Glob w okT := by
  refine ⟨fun g cs hg => ?_, fun g hg => ?_⟩
  · obtain ⟨rfl, rfl⟩ := gtab_pow hg
    unfold Lib.TabIs World.var? at hT
    rw [gT] at hT
    simp only [Option.bind_some] at hT
    split at hT
    · rename_i c t fr hc
      cases hT
      have key : ∀ (j : Nat) (d : AV), (Lib.pow10Tab.map fun z => AV.lit (.int .u64 z))[j]? = some d → ∃ v, w.cell? ⟨4, 0 + j, none⟩ = some v ∧ d = .lit v := fun j d hj => by
        rw [List.getElem?_map] at hj
        obtain ⟨z, hz, rfl⟩ := Option.map_eq_some_iff.1 hj
        refine ⟨.int .u64 z, ?_, rfl⟩
        rw [Nat.zero_add]
        simp only [World.cell?, hc]
        simp [hz]
      refine ⟨.mem (fun j d hj => ?_) (fun j d hj => ?_), t, ?_⟩
      · obtain ⟨v, h1, _⟩ := key j d hj
        exact ⟨trivial, by rw [h1]; rfl⟩
      · obtain ⟨v, h1, rfl⟩ := key j d hj
        rw [h1]
        exact .lit _
      · simp [World.shape?, hc]
    · cases hT
  · have e : g = 2 := by simpa [gerr] using hg
    subst e
    exact ⟨trivial, hE⟩
theorem laid_glob {W : World} (h : laidMet Tryz.prog [("math/bits.deBruijn32tab", Rows.laid_math_bits_deBruijn32tab), ("math/bits.deBruijn64tab", Rows.laid_math_bits_deBruijn64tab), ("internal/strconv.uint64pow10", Rows.laid_internal_strconv_uint64pow10), ("strconv.ErrRange", Rows.laid_strconv_ErrRange), ("strconv.ErrSyntax", Rows.laid_strconv_ErrSyntax)] W) : Glob W okT := by
  have h3 := laidMet.tail (laidMet.tail h)
  have hT : Lib.TabIs Tryz.prog W "internal/strconv.uint64pow10" .u64 Lib.pow10Tab := Lib.tabIs_of_head gT tT Tryz.underlying264 Tryz.underlying104 (by kernel_rfl) (by kernel_rfl) h3
  have h5 := laidMet.tail (laidMet.tail h3)
  obtain ⟨a0, s0, hv0, _⟩ := laid_sentinel h5 gE tE Tryz.underlying89 rowE Tryz.underlying272 Tryz.underlying274 rfl rfl Tryz.underlying9 (by kernel_rfl) (by kernel_rfl)
  exact glob_laid hT ⟨_, _, World.var?_cell gE hv0 0⟩
theorem okR_lim {N : Nat} {r : Raw} (h : okRaw N r) : LimR2 r := ⟨h.1.1, h.2.1⟩
theorem true_end {w : World} {ok : Nat → Nat → Prop} {e : Ending} {w' : World} (h : ∃ v, e = .returned v ∧ RepT w' (okN ok w w') (.lit (.bool true)) v ∧ Below w.heap.size w w') : RetB true w e w' := by
  obtain ⟨v, rfl, h2, h3⟩ := h
  cases h2
  exact ⟨rfl, h3⟩
end Go.Proofs.YtjpoanaoaeaneaaGreatDoor
set_option linter.all false
namespace Go.Proofs.YtjpoanaoaeaneaaGreatDoor
open Go.ChangeShapes Go.WideShapes Go.RowKit Go.Deep
theorem lml_use (w : World) {v0 v1 : Value} {l : List (Int × Raw)} {c : Raw} {z : Int} {N M : Nat} (r0 : RepT w okT (.sl 4 (l.map termRC)) v0) (r1 : RepT w okT (.agg (rawC c)) v1) (k0 : okO_LTerm N l) (k1 : okRaw M c) (hG : Glob w okT) :
    Calls Tryz.prog 7 #[v0, v1, .int .i64 z] w (RetB true w) :=
  (lml_law (z := z) (fun t ht => ⟨(k0.2 t ht).2.1.1, (k0.2 t ht).2.2.1⟩) (okR_lim k1) w okT _ hG (rvs_cons r0 (rvs_cons r1 (rvs_cons (.lit _) rvs_nil)))).mono fun _ _ h => true_end h
end Go.Proofs.YtjpoanaoaeaneaaGreatDoor
