/- relucertlaw27.forms: what the call returns. relucertlaw27.ProgramValid: the call returns true. arguments that came in: what their readings hold. -/
import Derived.Test.YtledagemcknlcaaGreatK8
import Derived.Test.YtledagemcknlcaaGreatK9
import Derived.Deep.Slices
import Derived.ChangeArms
import Derived.ChangeSlices
import Derived.DataReads
import Derived.OpenShut
set_option linter.all false
namespace Go.Proofs.YtledagemcknlcaaGreat
open Go.RowKit

/-- a form has few terms with few limbs -/
structure FormsF (f : FD) : Prop where
  n : f.n ≤ 10
  k1 : f.k.n1 ≤ 4
  k2 : f.k.n2 ≤ 4
  ts : ∀ (i : Nat) (t : TD), f.ts[i]? = some t → t.c.n1 ≤ 4 ∧ t.c.n2 ≤ 4
structure FormsS (p : PD) : Prop where
  rn : p.rn ≤ 10
  obj : FormsF p.obj
  rows : ∀ (i : Nat) (f : FD), p.rows[i]? = some f → FormsF f
noncomputable instance (p : PD) : Decidable (FormsS p) := Classical.propDecidable _
theorem FormsF.lim {f : FD} (h : FormsF f) : LimF 4 f := ⟨by have := h.n; omega, h.ts, ⟨h.k1, h.k2⟩⟩
theorem FormsS.lim {p : PD} (h : FormsS p) : LimP 4 p := ⟨h.obj.lim, fun i f hf => (h.rows i f hf).lim⟩

end Go.Proofs.YtledagemcknlcaaGreat
namespace Go.Proofs.YtledagemcknlcaaGreat
open Go.RowKit

end Go.Proofs.YtledagemcknlcaaGreat
namespace Go.Proofs.YtledagemcknlcaaGreat
open Go.ChangeShapes Go.WideShapes Go.RowKit Go.Deep

section
variable {H : Type} {enc : TypeId × Value → H} {w : World} {base : Nat} {spare : Nat → Bool} {held : Bool}
theorem fld {t : TypeId} {fs : Array Field} {fuel : Nat} {cs : List Value} {x : DataW H × List MemPlace} (hs : Tryz.prog.underlying t = some (.struct fs)) (h : DataW.trod enc Tryz.prog w base spare held fuel t cs = some x) :
    cs.length = Tryz.prog.cellsOf t ∧ ∀ (i : Nat) (f : Field) (T : TypeId) (o : Nat), fs[i]? = some f → f.type = T → f.offset = o → ∃ n y, DataW.trod enc Tryz.prog w base spare held n T ((cs.drop o).take (Tryz.prog.cellsOf T)) = some y := by
  obtain ⟨xs, n, _, _, hl, hlen, hg⟩ := DataW.trod_struct hs h
  refine ⟨hl, fun i f T o hf hT ho => ⟨n, xs[i]'(by rw [hlen]; exact (Array.getElem?_eq_some_iff.1 hf).1), ?_⟩⟩
  subst hT ho
  rw [hg i f hf]
  exact List.getElem?_eq_getElem _
theorem addr_at {b o i : Nat} : (⟨b, o, none⟩ : Addr).add i = ⟨b, o + i, none⟩ := by
  unfold Addr.add
  split
  · rename_i h; subst h; rfl
  · rfl
theorem c4 : Tryz.prog.cellsOf 4 = 1 := by kernel_rfl
theorem c3 : Tryz.prog.cellsOf 3 = 1 := by kernel_rfl
theorem c25 : Tryz.prog.cellsOf 25 = 1 := by kernel_rfl
theorem c75 : Tryz.prog.cellsOf 99 = 1 := by kernel_rfl
theorem c27 : Tryz.prog.cellsOf 27 = 3 := by kernel_rfl
theorem c50 : Tryz.prog.cellsOf 52 = 4 := by kernel_rfl
theorem c23 : Tryz.prog.cellsOf 23 = 1 := by kernel_rfl
theorem c29 : Tryz.prog.cellsOf 29 = 4 := by kernel_rfl
theorem c22 : Tryz.prog.cellsOf 22 = 1 := by kernel_rfl
theorem c31 : Tryz.prog.cellsOf 31 = 6 := by kernel_rfl
theorem op_nat {fuel : Nat} {cs : List Value} {x : DataW H × List MemPlace} (h : DataW.trod enc Tryz.prog w base spare held fuel 25 cs = some x) :
    ∃ ad n c l, cs = [.slice ad n c] ∧ LimR w ad n c l ∧ n ≤ maxLen := by
  rcases open_ints Tryz.underlying25 Tryz.underlying99 c75 h with ⟨rfl, _⟩ | ⟨a, len, cap, zs, rfl, _, hl, hm, hlen, _, hc, hwf⟩
  · exact ⟨none, 0, 0, [], rfl, LimR.nil _ _ _, by simp [maxLen]⟩
  · have hzl : len ≤ zs.length := by rw [hlen]; split <;> omega
    have hget : ∀ i, i < len → ((zs.take len).map Int.toNat).getD i 0 = (zs.getD i 0).toNat := fun i hi => by
      have h1 : i < zs.length := by omega
      simp [List.getD_eq_getElem?_getD, hi, List.getElem?_eq_getElem h1]
    have hw : ∀ i, i < len → 0 ≤ zs.getD i 0 ∧ zs.getD i 0 < 4294967296 := fun i hi => by
      have h1 : i < zs.length := by omega
      have h2 := hwf (zs[i]'h1) (List.getElem_mem _)
      have h3 : zs.getD i 0 = zs[i]'h1 := by simp [List.getD_eq_getElem?_getD, List.getElem?_eq_getElem h1]
      rw [h3]
      have h4 : 0 ≤ zs[i]'h1 ∧ zs[i]'h1 ≤ 4294967295 := by simpa [Lit.wf, IntKind.min, IntKind.max, IntKind.signed, IntKind.bits] using h2
      omega
    refine ⟨some a, len, cap, (zs.take len).map Int.toNat, rfl, ⟨by simp; omega, hl, ?_, fun h0 => ?_⟩, by omega⟩
    · intro y hy
      obtain ⟨i, hi, rfl⟩ := List.getElem_of_mem hy
      have hi' : i < len := by simp at hi; omega
      have h1 := hget i hi'
      rw [List.getD_eq_getElem?_getD, List.getElem?_eq_getElem hi] at h1
      simp only [Option.getD_some] at h1
      rw [h1]
      have := hw i hi'
      omega
    · have hs0 := World.cell?_spot (hc 0 (by omega))
      have hb0 := World.block_lt_of_cell? w _ (hc 0 (by omega))
      obtain ⟨b, o, sp⟩ := a
      have hsp : sp = none := by
        unfold Addr.add at hs0
        simpa using hs0
      subst hsp
      refine ⟨b, o, rfl, by rw [addr_at] at hb0; exact hb0, fun i hi => ?_⟩
      have h1 := hc i (by omega)
      rw [addr_at] at h1
      rw [h1, hget i hi, Int.toNat_of_nonneg (hw i hi).1]
set_option maxRecDepth 100000 in
theorem op_rat {fuel : Nat} {cs : List Value} {x : DataW H × List MemPlace} (h : DataW.trod enc Tryz.prog w base spare held fuel 27 cs = some x) :
    ∃ r : RD, cs = [.bool r.neg, .slice r.a1 r.n1 r.c1, .slice r.a2 r.n2 r.c2] ∧ r.In w ∧ r.n1 ≤ maxLen ∧ r.n2 ≤ maxLen := by
  obtain ⟨hl, hf⟩ := fld Tryz.underlying27 h
  rw [c27] at hl
  match cs, hl with
  | [x0, x1, x2], _ =>
    obtain ⟨n0, y0, h0⟩ := hf 0 _ 4 0 rfl rfl rfl
    obtain ⟨n1, y1, h1⟩ := hf 1 _ 25 1 rfl rfl rfl
    obtain ⟨n2, y2, h2⟩ := hf 2 _ 25 2 rfl rfl rfl
    simp only [c4, c25, List.drop_zero, List.drop_succ_cons, List.take_succ_cons, List.take_zero] at h0 h1 h2
    obtain ⟨b, e0, _⟩ := DataW.trod_bool Tryz.underlying4 h0
    obtain ⟨a1, m1, d1, l1, e1, g1, k1⟩ := op_nat h1
    obtain ⟨a2, m2, d2, l2, e2, g2, k2⟩ := op_nat h2
    cases e0; cases e1; cases e2
    exact ⟨⟨b, a1, m1, d1, l1, a2, m2, d2, l2⟩, rfl, ⟨g1, g2⟩, k1, k2⟩
set_option maxRecDepth 100000 in
theorem op_term {fuel : Nat} {cs : List Value} {x : DataW H × List MemPlace} (h : DataW.trod enc Tryz.prog w base spare held fuel 52 cs = some x) :
    ∃ t : TD, cs = [.int .i64 t.v, .bool t.c.neg, .slice t.c.a1 t.c.n1 t.c.c1, .slice t.c.a2 t.c.n2 t.c.c2] ∧ t.c.In w := by
  obtain ⟨hl, hf⟩ := fld Tryz.underlying52 h
  rw [c50] at hl
  match cs, hl with
  | [x0, x1, x2, x3], _ =>
    obtain ⟨n0, y0, h0⟩ := hf 0 _ 3 0 rfl rfl rfl
    obtain ⟨n1, y1, h1⟩ := hf 1 _ 27 1 rfl rfl rfl
    simp only [c3, c27, List.drop_zero, List.drop_succ_cons, List.take_succ_cons, List.take_zero] at h0 h1
    obtain ⟨v, e0, _⟩ := DataW.trod_int Tryz.underlying3 h0
    obtain ⟨r, e1, g1, _⟩ := op_rat h1
    cases e0; cases e1
    exact ⟨⟨v, r⟩, rfl, g1⟩
/-- a slice of structs of k cells, element by element -/
theorem op_slice {T : Type} [Inhabited T] {t e : TypeId} {k fuel : Nat} {cs : List Value} {x : DataW H × List MemPlace} (ht : Tryz.prog.underlying t = some (.slice e)) (hk : Tryz.prog.cellsOf e = k) (h0k : 0 < k) (P : T → List Value → Prop)
    (hel : ∀ n cs y, DataW.trod enc Tryz.prog w base spare held n e cs = some y → ∃ u, P u cs) (h : DataW.trod enc Tryz.prog w base spare held fuel t cs = some x) :
    ∃ ad n c, ∃ us : List T, cs = [.slice ad n c] ∧ us.length = n ∧ n ≤ c ∧ n ≤ maxLen ∧ (0 < n → ∃ b o, ad = some ⟨b, o, none⟩ ∧ b < w.heap.size ∧ ∀ (i : Nat) (u : T), us[i]? = some u → ∃ cs', P u cs' ∧ cs'.length = k ∧ ∀ j, j < k → w.cell? ⟨b, o + i * k + j, none⟩ = cs'[j]?) := by
  rcases open_slice ht h with ⟨rfl, _⟩ | ⟨a, len, cap, m, n, D, Pl, rfl, _, hl, hm, hmm, _, hi⟩
  · exact ⟨none, 0, 0, [], rfl, rfl, by omega, by simp [maxLen], fun h => by omega⟩
  · have hlm : len ≤ m := by rw [hmm]; split <;> omega
    obtain ⟨U, hU⟩ := choose_lt (n := len) (p := fun i (u : T) => ∃ cs', P u cs' ∧ w.cells? base (a.add (i * k)) k = some cs') (fun i hil => by
      obtain ⟨cs', h1, h2⟩ := hi i (by omega)
      rw [hk] at h1
      obtain ⟨u, hu⟩ := hel _ _ _ h2
      exact ⟨u, cs', hu, h1⟩)
    refine ⟨some a, len, cap, (List.range len).map U, rfl, by simp, hl, by omega, fun h0 => ?_⟩
    have hz := (hU 0 h0).choose_spec.2
    obtain ⟨_, hz1, hz2⟩ := World.cells?_some hz
    have hz3 := hz2 0 h0k
    rw [List.getElem?_eq_getElem (by omega)] at hz3
    have hs0 := World.cell?_spot hz3
    have hb0 := World.block_lt_of_cell? w _ hz3
    obtain ⟨b, o, sp⟩ := a
    have hsp : sp = none := by
      simp [Addr.add] at hs0
      exact hs0
    subst hsp
    refine ⟨b, o, rfl, by rw [addr_at, addr_at] at hb0; exact hb0, fun i u hu => ?_⟩
    have hil : i < len := by have := (List.getElem?_eq_some_iff.1 hu).1; simpa using this
    simp [hil] at hu
    subst hu
    obtain ⟨cs', hp, hc⟩ := hU i hil
    obtain ⟨_, q1, q2⟩ := World.cells?_some hc
    refine ⟨cs', hp, q1, fun j hj => ?_⟩
    have := q2 j hj
    rw [addr_at, addr_at] at this
    exact this
instance : Inhabited RD := ⟨⟨false, none, 0, 0, [], none, 0, 0, []⟩⟩
instance : Inhabited TD := ⟨⟨0, default⟩⟩
instance : Inhabited FD := ⟨⟨none, 0, 0, [], default⟩⟩
theorem op_terms {fuel : Nat} {cs : List Value} {x : DataW H × List MemPlace} (h : DataW.trod enc Tryz.prog w base spare held fuel 23 cs = some x) :
    ∃ ad n c ts, cs = [.slice ad n c] ∧ TermsR w ad n c ts := by
  obtain ⟨ad, n, c, us, rfl, h1, h2, h3, h4⟩ := op_slice Tryz.underlying23 c50 (by omega) (fun (t : TD) cs => cs = [.int .i64 t.v, .bool t.c.neg, .slice t.c.a1 t.c.n1 t.c.c1, .slice t.c.a2 t.c.n2 t.c.c2] ∧ t.c.In w) (fun n cs y h => op_term h) h
  refine ⟨ad, n, c, us, rfl, h1, h2, fun i t ht => ?_, fun h0 => ?_⟩
  · obtain ⟨b, o, _, _, hc⟩ := h4 (by have := (List.getElem?_eq_some_iff.1 ht).1; omega)
    obtain ⟨_, ⟨_, hp⟩, _⟩ := hc i t ht
    exact hp
  · obtain ⟨b, o, e, hb, hc⟩ := h4 h0
    refine ⟨b, o, e, hb, fun i t ht => ?_⟩
    obtain ⟨cs', ⟨rfl, _⟩, _, hj⟩ := hc i t ht
    exact ⟨hj 0 (by omega), hj 1 (by omega), hj 2 (by omega), hj 3 (by omega)⟩
theorem op_pt {fuel : Nat} {cs : List Value} {x : DataW H × List MemPlace} (h : DataW.trod enc Tryz.prog w base spare held fuel 42 cs = some x) :
    ∃ ad n c, ∃ us : List RD, cs = [.slice ad n c] ∧ us.length = n ∧ n ≤ c ∧ n ≤ maxLen ∧ (0 < n → ∃ b o, ad = some ⟨b, o, none⟩ ∧ b < w.heap.size ∧ ∀ (i : Nat) (r : RD), us[i]? = some r → (r.In w ∧ r.n1 ≤ maxLen ∧ r.n2 ≤ maxLen) ∧ w.cell? ⟨b, o + i * 3, none⟩ = some (.bool r.neg) ∧ w.cell? ⟨b, o + i * 3 + 1, none⟩ = some (.slice r.a1 r.n1 r.c1) ∧ w.cell? ⟨b, o + i * 3 + 2, none⟩ = some (.slice r.a2 r.n2 r.c2)) := by
  obtain ⟨ad, n, c, us, rfl, h1, h2, h3, h4⟩ := op_slice Tryz.underlying42 c27 (by omega) (fun (r : RD) cs => cs = [.bool r.neg, .slice r.a1 r.n1 r.c1, .slice r.a2 r.n2 r.c2] ∧ r.In w ∧ r.n1 ≤ maxLen ∧ r.n2 ≤ maxLen) (fun n cs y h => op_rat h) h
  refine ⟨ad, n, c, us, rfl, h1, h2, h3, fun h0 => ?_⟩
  obtain ⟨b, o, e, hb, hc⟩ := h4 h0
  refine ⟨b, o, e, hb, fun i t ht => ?_⟩
  obtain ⟨cs', ⟨rfl, hp⟩, _, hj⟩ := hc i t ht
  exact ⟨hp, hj 0 (by omega), hj 1 (by omega), hj 2 (by omega)⟩
set_option maxRecDepth 100000 in
theorem op_form {fuel : Nat} {cs : List Value} {x : DataW H × List MemPlace} (h : DataW.trod enc Tryz.prog w base spare held fuel 29 cs = some x) :
    ∃ f : FD, cs = [.slice f.ad f.n f.c, .bool f.k.neg, .slice f.k.a1 f.k.n1 f.k.c1, .slice f.k.a2 f.k.n2 f.k.c2] ∧ f.In w := by
  obtain ⟨hl, hf⟩ := fld Tryz.underlying29 h
  rw [c29] at hl
  match cs, hl with
  | [x0, x1, x2, x3], _ =>
    obtain ⟨n0, y0, h0⟩ := hf 0 _ 23 0 rfl rfl rfl
    obtain ⟨n1, y1, h1⟩ := hf 1 _ 27 1 rfl rfl rfl
    simp only [c23, c27, List.drop_zero, List.drop_succ_cons, List.take_succ_cons, List.take_zero] at h0 h1
    obtain ⟨ad, n, c, ts, e0, g0⟩ := op_terms h0
    obtain ⟨r, e1, g1, _⟩ := op_rat h1
    cases e0; cases e1
    exact ⟨⟨ad, n, c, ts, r⟩, rfl, ⟨g0, g1⟩⟩
theorem op_rows {fuel : Nat} {cs : List Value} {x : DataW H × List MemPlace} (h : DataW.trod enc Tryz.prog w base spare held fuel 22 cs = some x) :
    ∃ ad n c fs, cs = [.slice ad n c] ∧ RowsR w ad n c fs := by
  obtain ⟨ad, n, c, us, rfl, h1, h2, h3, h4⟩ := op_slice Tryz.underlying22 c29 (by omega) (fun (f : FD) cs => cs = [.slice f.ad f.n f.c, .bool f.k.neg, .slice f.k.a1 f.k.n1 f.k.c1, .slice f.k.a2 f.k.n2 f.k.c2] ∧ f.In w) (fun n cs y h => op_form h) h
  refine ⟨ad, n, c, us, rfl, h1, h2, fun i t ht => ?_, fun h0 => ?_⟩
  · obtain ⟨b, o, _, _, hc⟩ := h4 (by have := (List.getElem?_eq_some_iff.1 ht).1; omega)
    obtain ⟨_, ⟨_, hp⟩, _⟩ := hc i t ht
    exact hp
  · obtain ⟨b, o, e, hb, hc⟩ := h4 h0
    refine ⟨b, o, e, hb, fun i t ht => ?_⟩
    obtain ⟨cs', ⟨rfl, _⟩, _, hj⟩ := hc i t ht
    exact ⟨hj 0 (by omega), hj 1 (by omega), hj 2 (by omega), hj 3 (by omega)⟩
set_option maxRecDepth 100000 in
theorem op_prog {fuel : Nat} {cs : List Value} {x : DataW H × List MemPlace} (h : DataW.trod enc Tryz.prog w base spare held fuel 31 cs = some x) :
    ∃ p : PD, cs = [.int .i64 p.vars, .slice p.ra p.rn p.rc, .slice p.obj.ad p.obj.n p.obj.c, .bool p.obj.k.neg, .slice p.obj.k.a1 p.obj.k.n1 p.obj.k.c1, .slice p.obj.k.a2 p.obj.k.n2 p.obj.k.c2] ∧ p.In w := by
  obtain ⟨hl, hf⟩ := fld Tryz.underlying31 h
  rw [c31] at hl
  match cs, hl with
  | [x0, x1, x2, x3, x4, x5], _ =>
    obtain ⟨n0, y0, h0⟩ := hf 0 _ 3 0 rfl rfl rfl
    obtain ⟨n1, y1, h1⟩ := hf 1 _ 22 1 rfl rfl rfl
    obtain ⟨n2, y2, h2⟩ := hf 2 _ 29 2 rfl rfl rfl
    simp only [c3, c22, c29, List.drop_zero, List.drop_succ_cons, List.take_succ_cons, List.take_zero] at h0 h1 h2
    obtain ⟨v, e0, _⟩ := DataW.trod_int Tryz.underlying3 h0
    obtain ⟨ad, n, c, fs, e1, g1⟩ := op_rows h1
    obtain ⟨f, e2, g2⟩ := op_form h2
    cases e0; cases e1; cases e2
    exact ⟨⟨v, ad, n, c, fs, f⟩, rfl, ⟨g1, g2⟩⟩
end
end Go.Proofs.YtledagemcknlcaaGreat
