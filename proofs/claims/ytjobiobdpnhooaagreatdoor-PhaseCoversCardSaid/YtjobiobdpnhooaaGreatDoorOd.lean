/- numbers and decisions that came in (cut out of XO1 and XO4): what their readings hold. -/
import Derived.Test.YtjobiobdpnhooaaGreatDoorK6
import Derived.Deep.Slices
import Derived.ChangeArms
import Derived.ChangeSlices
import Derived.DataReads
import Derived.OpenShut
set_option linter.all false
namespace Go.Proofs.YtjobiobdpnhooaaGreatDoor
open Go.ChangeShapes Go.WideShapes Go.RowKit Go.Deep

section
variable {H : Type} {enc : TypeId × Value → H} {w : World} {base : Nat} {spare : Nat → Bool} {held : Bool}
theorem fld {t : TypeId} {fs : Array Field} {fuel : Nat} {cs : List Value} {x : DataW H × List MemPlace} (hs : Tryz.prog.underlying t = some (.struct fs)) (h : DataW.trod enc Tryz.prog w base spare held fuel t cs = some x) :
    cs.length = Tryz.prog.cellsOf t ∧ ∀ (i : Nat) (f : Field) (T : TypeId) (o : Nat), fs[i]? = some f → f.type = T → f.offset = o → ∃ n y, DataW.trod enc Tryz.prog w base spare held n T ((cs.drop o).take (Tryz.prog.cellsOf T)) = some y := by
  obtain ⟨xs, n, _, _, hl, hlen, hg⟩ := DataW.trod_struct hs h
  refine ⟨hl, fun i f T o hf hT ho => ⟨n, xs[i]'(by rw [hlen]; exact (Array.getElem?_eq_some_iff.1 hf).1), ?_⟩⟩
  subst hT ho
  rw [hg i f hf]
  exact List.getElem?_eq_getElem _
theorem addr_at {b o i : Nat} : (⟨b, o, none⟩ : Addr).add i = ⟨b, o + i, none⟩ := by
  unfold Addr.add
  split
  · rename_i h; subst h; rfl
  · rfl
theorem c4 : Tryz.prog.cellsOf 4 = 1 := by kernel_rfl
theorem c3 : Tryz.prog.cellsOf 3 = 1 := by kernel_rfl
theorem c25 : Tryz.prog.cellsOf 24 = 1 := by kernel_rfl
theorem c75 : Tryz.prog.cellsOf 128 = 1 := by kernel_rfl
theorem c27 : Tryz.prog.cellsOf 26 = 3 := by kernel_rfl
theorem op_nat {fuel : Nat} {cs : List Value} {x : DataW H × List MemPlace} (h : DataW.trod enc Tryz.prog w base spare held fuel 24 cs = some x) :
    ∃ ad n c l, cs = [.slice ad n c] ∧ LimR w ad n c l ∧ n ≤ maxLen := by
  rcases open_ints Tryz.underlying24 Tryz.underlying128 c75 h with ⟨rfl, _⟩ | ⟨a, len, cap, zs, rfl, _, hl, hm, hlen, _, hc, hwf⟩
  · exact ⟨none, 0, 0, [], rfl, LimR.nil _ _ _, by simp [maxLen]⟩
  · have hzl : len ≤ zs.length := by rw [hlen]; split <;> omega
    have hget : ∀ i, i < len → ((zs.take len).map Int.toNat).getD i 0 = (zs.getD i 0).toNat := fun i hi => by
      have h1 : i < zs.length := by omega
      simp [List.getD_eq_getElem?_getD, hi, List.getElem?_eq_getElem h1]
    have hw : ∀ i, i < len → 0 ≤ zs.getD i 0 ∧ zs.getD i 0 < 4294967296 := fun i hi => by
      have h1 : i < zs.length := by omega
      have h2 := hwf (zs[i]'h1) (List.getElem_mem _)
      have h3 : zs.getD i 0 = zs[i]'h1 := by simp [List.getD_eq_getElem?_getD, List.getElem?_eq_getElem h1]
      rw [h3]
      have h4 : 0 ≤ zs[i]'h1 ∧ zs[i]'h1 ≤ 4294967295 := by simpa [Lit.wf, IntKind.min, IntKind.max, IntKind.signed, IntKind.bits] using h2
      omega
    refine ⟨some a, len, cap, (zs.take len).map Int.toNat, rfl, ⟨by simp; omega, hl, ?_, fun h0 => ?_⟩, by omega⟩
    · intro y hy
      obtain ⟨i, hi, rfl⟩ := List.getElem_of_mem hy
      have hi' : i < len := by simp at hi; omega
      have h1 := hget i hi'
      rw [List.getD_eq_getElem?_getD, List.getElem?_eq_getElem hi] at h1
      simp only [Option.getD_some] at h1
      rw [h1]
      have := hw i hi'
      omega
    · have hs0 := World.cell?_spot (hc 0 (by omega))
      have hb0 := World.block_lt_of_cell? w _ (hc 0 (by omega))
      obtain ⟨b, o, sp⟩ := a
      have hsp : sp = none := by
        unfold Addr.add at hs0
        simpa using hs0
      subst hsp
      refine ⟨b, o, rfl, by rw [addr_at] at hb0; exact hb0, fun i hi => ?_⟩
      have h1 := hc i (by omega)
      rw [addr_at] at h1
      rw [h1, hget i hi, Int.toNat_of_nonneg (hw i hi).1]
set_option maxRecDepth 100000 in
theorem op_rat {fuel : Nat} {cs : List Value} {x : DataW H × List MemPlace} (h : DataW.trod enc Tryz.prog w base spare held fuel 26 cs = some x) :
    ∃ r : RD, cs = [.bool r.neg, .slice r.a1 r.n1 r.c1, .slice r.a2 r.n2 r.c2] ∧ r.In w ∧ r.n1 ≤ maxLen ∧ r.n2 ≤ maxLen := by
  obtain ⟨hl, hf⟩ := fld Tryz.underlying26 h
  rw [c27] at hl
  match cs, hl with
  | [x0, x1, x2], _ =>
    obtain ⟨n0, y0, h0⟩ := hf 0 _ 4 0 rfl rfl rfl
    obtain ⟨n1, y1, h1⟩ := hf 1 _ 24 1 rfl rfl rfl
    obtain ⟨n2, y2, h2⟩ := hf 2 _ 24 2 rfl rfl rfl
    simp only [c4, c25, List.drop_zero, List.drop_succ_cons, List.take_succ_cons, List.take_zero] at h0 h1 h2
    obtain ⟨b, e0, _⟩ := DataW.trod_bool Tryz.underlying4 h0
    obtain ⟨a1, m1, d1, l1, e1, g1, k1⟩ := op_nat h1
    obtain ⟨a2, m2, d2, l2, e2, g2, k2⟩ := op_nat h2
    cases e0; cases e1; cases e2
    exact ⟨⟨b, a1, m1, d1, l1, a2, m2, d2, l2⟩, rfl, ⟨g1, g2⟩, k1, k2⟩
set_option maxRecDepth 100000 in
theorem cED : Tryz.prog.cellsOf 28 = 5 := by kernel_rfl
set_option maxRecDepth 100000 in
theorem op_ed {fuel : Nat} {cs : List Value} {x : DataW H × List MemPlace} (h : DataW.trod enc Tryz.prog w base spare held fuel 28 cs = some x) :
    ∃ e : ED, cs = [.int .i64 e.k, .int .i64 e.i, .bool e.c.neg, .slice e.c.a1 e.c.n1 e.c.c1, .slice e.c.a2 e.c.n2 e.c.c2] ∧ e.In w := by
  obtain ⟨hl, hf⟩ := fld Tryz.underlying28 h
  rw [cED] at hl
  match cs, hl with
  | [x0, x1, x2, x3, x4], _ =>
    obtain ⟨n0, y0, h0⟩ := hf 0 _ 3 0 rfl rfl rfl
    obtain ⟨n1, y1, h1⟩ := hf 1 _ 3 1 rfl rfl rfl
    obtain ⟨n2, y2, h2⟩ := hf 2 _ 26 2 rfl rfl rfl
    simp only [c3, c27, List.drop_zero, List.drop_succ_cons, List.take_succ_cons, List.take_zero] at h0 h1 h2
    obtain ⟨k, e0, _⟩ := DataW.trod_int Tryz.underlying3 h0
    obtain ⟨i, e1, _⟩ := DataW.trod_int Tryz.underlying3 h1
    obtain ⟨r, e2, g2, _⟩ := op_rat h2
    cases e0; cases e1; cases e2
    exact ⟨⟨k, i, r⟩, rfl, g2⟩
end
end Go.Proofs.YtjobiobdpnhooaaGreatDoor
