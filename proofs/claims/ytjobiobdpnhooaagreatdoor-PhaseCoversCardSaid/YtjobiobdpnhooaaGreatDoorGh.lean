/- relucertlaw34.PhaseCovers: the arguments that came in. -/
import Derived.Test.YtjobiobdpnhooaaGreatDoorGg
import Derived.Test.YtjobiobdpnhooaaGreatDoorOd
set_option linter.all false
set_option linter.all false
namespace Go.Proofs.YtjobiobdpnhooaaGreatDoor
open Go.ChangeShapes Go.WideShapes Go.RowKit Go.Deep

def okT : Nat → Nat → Prop := fun _ _ => True
theorem glob_of {w : World} (h : ∀ (i : Nat) (v : Value), [Value.int .i64 0, .int .i64 2, .int .i64 1, .int .i64 4, .int .i64 3][i]? = some v → w.cell? ⟨0, i, none⟩ = some v) : Glob w okT := by
  intro g cs hg
  unfold gtab at hg
  split at hg
  · rename_i e
    subst e
    cases hg
    have key : ∀ (j : Nat) (d : AV), [AV.lit (.int .i64 0), .lit (.int .i64 2), .lit (.int .i64 1), .lit (.int .i64 4), .lit (.int .i64 3)][j]? = some d → ∃ v, w.cell? ⟨0, 0 + j, none⟩ = some v ∧ d = .lit v := fun j d hj => by
      rw [Nat.zero_add]
      match j, hj with
      | 0, hj => cases hj; exact ⟨_, h 0 _ rfl, rfl⟩
      | 1, hj => cases hj; exact ⟨_, h 1 _ rfl, rfl⟩
      | 2, hj => cases hj; exact ⟨_, h 2 _ rfl, rfl⟩
      | 3, hj => cases hj; exact ⟨_, h 3 _ rfl, rfl⟩
      | 4, hj => cases hj; exact ⟨_, h 4 _ rfl, rfl⟩
      | j + 5, hj => simp at hj
    refine .mem (fun j d hj => ?_) (fun j d hj => ?_)
    · obtain ⟨v, h1, _⟩ := key j d hj
      exact ⟨trivial, by rw [h1]; rfl⟩
    · obtain ⟨v, h1, rfl⟩ := key j d hj
      rw [h1]
      exact .lit _
  · cases hg
theorem natA_T {w : World} {a : Option Addr} {n c : Nat} {l : List Nat} (h : LimR w a n c l) : RepT w okT (natA l) (.slice a n c) := (natA_rep h).mono (fun _ _ _ _ h => h) fun _ _ _ _ _ => trivial
theorem dec_T {w : World} {e : ED} (h : e.In w) : RepT w okT (decisionRV ⟨e.k, e.i, ⟨e.c.neg, e.c.l1, e.c.l2⟩⟩) (.agg #[.int .i64 e.k, .int .i64 e.i, .bool e.c.neg, .slice e.c.a1 e.c.n1 e.c.c1, .slice e.c.a2 e.c.n2 e.c.c2]) := by
  refine .agg rfl fun i d hi => ?_
  match i, hi with
  | 0, hi => cases hi; exact .lit _
  | 1, hi => cases hi; exact .lit _
  | 2, hi => cases hi; exact .lit _
  | 3, hi => cases hi; exact natA_T h.1
  | 4, hi => cases hi; exact natA_T h.2
  | i + 5, hi => simp at hi
section
variable {H : Type} {enc : TypeId × Value → H} {w : World} {base : Nat} {spare : Nat → Bool} {held : Bool}
theorem cU8 : Tryz.prog.cellsOf 5 = 1 := by kernel_rfl
theorem op_bytes {fuel : Nat} {cs : List Value} {x : DataW H × List MemPlace} (h : DataW.trod enc Tryz.prog w base spare held fuel 22 cs = some x) :
    ∃ ad n c, ∃ bs : List Int, cs = [.slice ad n c] ∧ (∀ x ∈ bs, 0 ≤ x ∧ x < 256) ∧ RepT w okT (.sl 1 (bs.map intU8C)) (.slice ad n c) := by
  rcases open_ints Tryz.underlying22 Tryz.underlying5 cU8 h with ⟨rfl, _⟩ | ⟨a, len, cap, zs, rfl, _, hl, hm, hlen, _, hc, hwf⟩
  · exact ⟨none, 0, 0, [], rfl, fun x hx => (by cases hx), .nil _ _⟩
  · have hzl : len ≤ zs.length := by rw [hlen]; split <;> omega
    have hv : ∀ x ∈ zs.take len, 0 ≤ x ∧ x < 256 := fun x hx => by
      have h2 := hwf x (List.mem_of_mem_take hx)
      have h4 : 0 ≤ x ∧ x ≤ 255 := by simpa [Lit.wf, IntKind.min, IntKind.max, IntKind.signed, IntKind.bits] using h2
      omega
    by_cases h0 : len = 0
    · subst h0
      exact ⟨_, _, _, [], rfl, fun x hx => (by cases hx), .nil _ _⟩
    · have hs0 := World.cell?_spot (hc 0 (by omega))
      obtain ⟨b, o, sp⟩ := a
      have hsp : sp = none := by
        unfold Addr.add at hs0
        simpa using hs0
      subst hsp
      have key : ∀ (i j : Nat) (e : List AV) (d : AV), ((zs.take len).map intU8C)[i]? = some e → e[j]? = some d → ∃ v, w.cell? ⟨b, o + i * 1 + j, none⟩ = some v ∧ d = .lit v := fun i j e d he hd => by
        rw [List.getElem?_map] at he
        obtain ⟨z, hz, rfl⟩ := Option.map_eq_some_iff.1 he
        have hj : j = 0 := by
          rcases Nat.eq_zero_or_pos j with h1 | h1
          · exact h1
          · exfalso
            rw [List.getElem?_eq_none (by simp; omega)] at hd
            cases hd
        subst hj
        cases hd
        have hi : i < len := by have := (List.getElem?_eq_some_iff.1 hz).1; rw [List.length_take] at this; omega
        have h1 := hc i (by omega)
        rw [addr_at] at h1
        have e1 : zs.getD i 0 = z := by
          rw [List.getElem?_take, if_pos hi] at hz
          rw [List.getD_eq_getElem?_getD, hz]
          rfl
        rw [e1] at h1
        exact ⟨_, by rw [Nat.mul_one, Nat.add_zero]; exact h1, rfl⟩
      have hn : len = ((zs.take len).map intU8C).length := by rw [List.length_map, List.length_take]; omega
      refine ⟨_, len, cap, zs.take len, rfl, hv, ?_⟩
      have R := RepT.sl (w := w) (ok := okT) (k := 1) (b := b) (o := o) (c := cap) (es := (zs.take len).map intU8C) (fun e he => by
          obtain ⟨z, _, rfl⟩ := List.mem_map.1 he
          rfl) (by omega) (fun i j e d he hd => by
          obtain ⟨v, h1, _⟩ := key i j e d he hd
          exact ⟨trivial, by rw [h1]; rfl⟩) (fun i j e d he hd => by
          obtain ⟨v, h1, rfl⟩ := key i j e d he hd
          rw [h1]
          exact .lit _)
      rw [← hn] at R
      exact R
end
theorem cov_law (w : World) {v0 v1 : Value} {bs ps : List Int} {e : ED} (h0 : RepT w okT (.sl 1 (bs.map intU8C)) v0) (h1 : RepT w okT (.sl 1 (ps.map intU8C)) v1) (hbs : ∀ x ∈ bs, 0 ≤ x ∧ x < 256) (hps : ∀ x ∈ ps, 0 ≤ x ∧ x < 256) (he : e.In w)
    (hG : ∀ (i : Nat) (v : Value), [Value.int .i64 0, .int .i64 2, .int .i64 1, .int .i64 4, .int .i64 3][i]? = some v → w.cell? ⟨0, i, none⟩ = some v) :
    Calls Tryz.prog 3 #[v0, v1, .agg #[.int .i64 e.k, .int .i64 e.i, .bool e.c.neg, .slice e.c.a1 e.c.n1 e.c.c1, .slice e.c.a2 e.c.n2 e.c.c2]] w (RetB true w) := by
  have hl := law_true (n := 20) (d := ⟨e.k, e.i, ⟨e.c.neg, e.c.l1, e.c.l2⟩⟩) hbs hps he.1.lim he.2.lim
  refine (law_con hl w okT _ (glob_of hG) ⟨rfl, fun i d hi => ?_⟩).mono ?_
  · match i, hi with
    | 0, hi => cases hi; exact ⟨_, rfl, h0⟩
    | 1, hi => cases hi; exact ⟨_, rfl, h1⟩
    | 2, hi => cases hi; exact ⟨_, rfl, dec_T he⟩
    | i + 3, hi => simp at hi
  · rintro e w' ⟨v, rfl, h2, h3⟩
    cases h2
    exact ⟨rfl, h3⟩
end Go.Proofs.YtjobiobdpnhooaaGreatDoor
