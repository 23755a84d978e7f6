/- rows and relucertref21: fits, decided, Best, phases, Phase; phase.Of and relucertref34.Of: what the calls return. -/
import Derived.Test.YtkakmdadnhjphaaGreatDoorGA
import Derived.Test.YtkakmdadnhjphaaGreatDoorWB
import Derived.Test.YtkakmdadnhjphaaGreatDoorXB
import Derived.Test.YtkakmdadnhjphaaGreatDoorXC
set_option linter.all false
set_option linter.all false
set_option maxRecDepth 100000
set_option maxHeartbeats 6400000
namespace Go.Proofs.YtkakmdadnhjphaaGreatDoor
open Go.RowKit
attribute [local irreducible] run runL loopG exec

theorem rzero_c {n : Nat} {q : Rat} : run n 301 [ratV q] = some (.lit (.bool (decide (q = 0)))) := by
  by_cases h : q = 0
  · subst h
    have e1 : (rawQ 0).s = false := by decide +kernel
    have e2 : (rawQ 0).l1 = [] := by decide +kernel
    have e3 : (rawQ 0).l2 = [] := by decide +kernel
    have K := rz_f1 (n := n) (a0 := 0) e1 (by rw [e2]; rfl)
    rw [K, e3]
    rfl
  · rw [decide_eq_false h]
    cases hs : (rawQ q).s with
    | true => exact rz_f3 hs
    | false =>
      refine rz_f2 hs (fun h2 => h ?_)
      have e : (lmb q.num.natAbs).length = 0 := by simpa [rawQ] using h2
      have e2 : lmb q.num.natAbs = [] := List.eq_nil_of_length_eq_zero e
      have e3 : val (lmb q.num.natAbs) = 0 := by rw [e2]; rfl
      rw [val_lmb] at e3
      exact Rat.num_eq_zero.1 (by omega)
/-- a decision of canonical numbers fits -/
def FitC (q : TQuery) (d : TDecision) : Prop := ((d.Kind = 1 ∨ d.Kind = 2) ∧ 0 ≤ d.Index ∧ d.Index < (q.Graph.Units.length : Int) ∧ d.At = 0) ∨ ((d.Kind = 3 ∨ d.Kind = 4) ∧ 0 ≤ d.Index ∧ d.Index < q.Graph.Inputs)
theorem pfit_c {n : Nat} {q : TQuery} {d : TDecision} (hB : H d.At ≤ 17179869184) : run (n + 1) 272 [queryV q, decisionV d] = some (.lit (.bool (tv (FitC q d)))) := by
  have Z := rzero_c (n := n) (q := d.At)
  have dec : (FitC q d ↔ d.At = 0) → tv (FitC q d) = decide (d.At = 0) := fun h => by
    by_cases hp : d.At = 0
    · rw [tv_t (h.2 hp), decide_eq_true hp]
    · rw [tv_f (fun h2 => hp (h.1 h2)), decide_eq_false hp]
  by_cases c1 : d.Kind = 1
  · by_cases c2 : 0 ≤ d.Index
    · by_cases c3 : d.Index < (q.Graph.Units.length : Int)
      · rw [dec ⟨fun h => by rcases h with h | h; exact h.2.2.2; omega, fun h => .inl ⟨.inl c1, c2, c3, h⟩⟩]
        exact rfi_f1 c1 c2 c3 Z
      · rw [tv_f (fun h => by rcases h with h | h <;> omega)]; exact rfi_f2 c1 c2 c3
    · rw [tv_f (fun h => by rcases h with h | h <;> omega)]; exact rfi_f3 c1 c2
  by_cases c2 : d.Kind = 2
  · by_cases c3 : 0 ≤ d.Index
    · by_cases c4 : d.Index < (q.Graph.Units.length : Int)
      · rw [dec ⟨fun h => by rcases h with h | h; exact h.2.2.2; omega, fun h => .inl ⟨.inr c2, c3, c4, h⟩⟩]
        exact rfi_f4 c1 c2 c3 c4 Z
      · rw [tv_f (fun h => by rcases h with h | h <;> omega)]; exact rfi_f5 c1 c2 c3 c4
    · rw [tv_f (fun h => by rcases h with h | h <;> omega)]; exact rfi_f6 c1 c2 c3
  by_cases c3 : d.Kind = 3
  · by_cases c4 : 0 ≤ d.Index
    · by_cases c5 : d.Index < q.Graph.Inputs
      · rw [tv_t (.inr ⟨.inl c3, c4, c5⟩)]; exact rfi_f7 c1 c2 c3 c4 c5 hB
      · rw [tv_f (fun h => by rcases h with h | h <;> omega)]; exact rfi_f8 c1 c2 c3 c4 c5
    · rw [tv_f (fun h => by rcases h with h | h <;> omega)]; exact rfi_f9 c1 c2 c3 c4
  by_cases c4 : d.Kind = 4
  · by_cases c5 : 0 ≤ d.Index
    · by_cases c6 : d.Index < q.Graph.Inputs
      · rw [tv_t (.inr ⟨.inr c4, c5, c6⟩)]; exact rfi_f10 c1 c2 c3 c4 c5 c6 hB
      · rw [tv_f (fun h => by rcases h with h | h <;> omega)]; exact rfi_f11 c1 c2 c3 c4 c5 c6
    · rw [tv_f (fun h => by rcases h with h | h <;> omega)]; exact rfi_f12 c1 c2 c3 c4 c5
  rw [tv_f (fun h => by rcases h with h | h <;> omega)]
  exact rfi_f13 c1 c2 c3 c4
theorem ffit_c {n : Nat} {q : TQuery} {d : TDecision} (hB : H d.At ≤ 17179869184) : run n 147 [queryV q, decisionV d] = some (.lit (.bool (tv (FitC q d)))) := by
  have dec : (FitC q d ↔ d.At = 0) → tv (FitC q d) = decide (d.At = 0) := fun h => by
    by_cases hp : d.At = 0
    · rw [tv_t (h.2 hp), decide_eq_true hp]
    · rw [tv_f (fun h2 => hp (h.1 h2)), decide_eq_false hp]
  by_cases c1 : d.Kind = 1
  · by_cases c2 : 0 ≤ d.Index
    · by_cases c3 : d.Index < (q.Graph.Units.length : Int)
      · rw [dec ⟨fun h => by rcases h with h | h; exact h.2.2.2; omega, fun h => .inl ⟨.inl c1, c2, c3, h⟩⟩]
        exact fi_f1 c1 c2 c3 hB
      · rw [tv_f (fun h => by rcases h with h | h <;> omega)]; exact fi_f2 c1 c2 c3
    · rw [tv_f (fun h => by rcases h with h | h <;> omega)]; exact fi_f3 c1 c2
  by_cases c2 : d.Kind = 2
  · by_cases c3 : 0 ≤ d.Index
    · by_cases c4 : d.Index < (q.Graph.Units.length : Int)
      · rw [dec ⟨fun h => by rcases h with h | h; exact h.2.2.2; omega, fun h => .inl ⟨.inr c2, c3, c4, h⟩⟩]
        exact fi_f4 c1 c2 c3 c4 hB
      · rw [tv_f (fun h => by rcases h with h | h <;> omega)]; exact fi_f5 c1 c2 c3 c4
    · rw [tv_f (fun h => by rcases h with h | h <;> omega)]; exact fi_f6 c1 c2 c3
  by_cases c3 : d.Kind = 3
  · by_cases c4 : 0 ≤ d.Index
    · by_cases c5 : d.Index < q.Graph.Inputs
      · rw [tv_t (.inr ⟨.inl c3, c4, c5⟩)]; exact fi_f7 c1 c2 c3 c4 c5 hB
      · rw [tv_f (fun h => by rcases h with h | h <;> omega)]; exact fi_f8 c1 c2 c3 c4 c5
    · rw [tv_f (fun h => by rcases h with h | h <;> omega)]; exact fi_f9 c1 c2 c3 c4
  by_cases c4 : d.Kind = 4
  · by_cases c5 : 0 ≤ d.Index
    · by_cases c6 : d.Index < q.Graph.Inputs
      · rw [tv_t (.inr ⟨.inr c4, c5, c6⟩)]; exact fi_f10 c1 c2 c3 c4 c5 c6 hB
      · rw [tv_f (fun h => by rcases h with h | h <;> omega)]; exact fi_f11 c1 c2 c3 c4 c5 c6
    · rw [tv_f (fun h => by rcases h with h | h <;> omega)]; exact fi_f12 c1 c2 c3 c4 c5
  rw [tv_f (fun h => by rcases h with h | h <;> omega)]
  exact fi_f13 c1 c2 c3 c4
/-- a path of canonical numbers -/
structure PathB (P : List TDecision) : Prop where
  l : P.length ≤ 100000000
  b : ∀ d ∈ P, H d.At ≤ 17179869184
def DecI (s : TScope) (k u : Int) (d : TDecision) : Prop := d.Kind = k ∧ d.Index = u ∧ FitC s.Query d
def DecP (s : TScope) (k u : Int) : Prop := ∃ d ∈ s.Path, DecI s k u d
theorem rdc_c {n : Nat} {s : TScope} {k u : Int} {d : TDecision} (hB : H d.At ≤ 17179869184) : run (n + 2) 271 [decisionV d, .mem [.lit (.int .i64 k)], .mem [.lit (.int .i64 u)], .mem (scopeC s)] = some (.lit (.bool (tv (DecI s k u d)))) := by
  by_cases c1 : d.Kind = k
  · by_cases c2 : d.Index = u
    · have e : tv (DecI s k u d) = tv (FitC s.Query d) := tv_iff ⟨fun h => h.2.2, fun h => ⟨c1, c2, h⟩⟩
      rw [e]
      exact rdc_f1 c1 c2 (pfit_c (n := n) hB)
    · rw [tv_f (fun h => c2 h.2.1)]; exact rdc_f2 c1 c2
  · rw [tv_f (fun h => c1 h.1)]; exact rdc_f3 c1
theorem pdec_c {n : Nat} {s : TScope} {k u : Int} (hP : PathB s.Path) : run (n + 5) 224 [scopeV s, .lit (.int .i64 k), .lit (.int .i64 u)] = some (.lit (.bool (tv (DecP s k u)))) := by
  have hl := hP.l
  obtain ⟨ex, t, h1, h2⟩ := loopG_Q (β := Unit) (P := Tryz.prog) (O := tab (n + 3)) (m := 0) (N := 19) (lives := livesOf 220) (r := 2) (C := ifd_C2) (M := s.Path.length) (enc := fun i _ => ifd_h2 s.Path k u s i)
    (fun i _ => ∀ j d, j < i → s.Path[j]? = some d → ¬ DecI s k u d) (fun ex t => (ex = .exit 0 ∧ t = ifd_o2b ∧ ¬ DecP s k u) ∨ (ex = .ret ∧ ∃ i : Nat, t = ifd_o2a i ∧ DecP s k u)) () (fun j f hj => by omega) (by omega)
    (fun i b hi hI => by
      have hx : s.Path[i]? = some s.Path[i] := List.getElem?_eq_getElem hi
      generalize s.Path[i] = d at hx
      have hm := List.mem_of_getElem? hx
      have K := rdc_c (n := n) (s := s) (k := k) (u := u) (hP.b d hm)
      by_cases h : DecI s k u d
      · rw [tv_t h] at K
        exact .inr ⟨_, _, by simp, ifd_x2_1 (by omega) hx K rfl, .inr ⟨rfl, i, rfl, d, hm, h⟩⟩
      · rw [tv_f h] at K
        refine .inl ⟨(), ifd_r2_1 (by omega) hx K rfl ⟨by omega, by omega⟩, fun j g hj hg => ?_⟩
        rcases Nat.lt_succ_iff_lt_or_eq.1 hj with h2 | rfl
        · exact hI j g h2 hg
        · rw [hx] at hg; cases hg; exact h)
    (fun b hI => ⟨_, _, by simp, ifd_x2_2 (by omega), .inl ⟨rfl, rfl, fun ⟨d, hd, h⟩ => by
      obtain ⟨j, hj⟩ := List.mem_iff_getElem?.1 hd
      exact hI j d (List.getElem?_eq_some_iff.1 hj).1 hj h⟩⟩)
  rcases h2 with ⟨rfl, rfl, h3⟩ | ⟨rfl, i, rfl, h3⟩
  · rw [tv_f h3]
    exact rde_f1 (n := n) (cfd_f1 (n := n) (ifd_f2 (n := n) h1))
  · rw [tv_t h3]
    have K := rde_f1 (n := n) (cfd_f1 (n := n) (ifd_f1 (n := n) h1))
    rw [K, decide_eq_true (by omega)]
theorem fdec_c {n : Nat} {s : TScope} {k u : Int} (hP : PathB s.Path) : run (n + 1) 63 [scopeV s, .lit (.int .i64 k), .lit (.int .i64 u)] = some (.lit (.bool (tv (DecP s k u)))) := by
  have hl := hP.l
  obtain ⟨ex, t, h1, h2⟩ := loopG_Q (β := Unit) (P := Tryz.prog) (O := tab (n + 1)) (m := 0) (N := 43) (lives := livesOf 63) (r := 2) (C := fde_C2) (M := s.Path.length) (enc := fun i _ => fde_h2 s k u i)
    (fun i _ => ∀ j d, j < i → s.Path[j]? = some d → ¬ DecI s k u d) (fun ex t => (ex = .exit 0 ∧ t = fde_o2b ∧ ¬ DecP s k u) ∨ (ex = .ret ∧ t = fde_o2a ∧ DecP s k u)) () (fun j f hj => by omega) (by omega)
    (fun i b hi hI => by
      have hx : s.Path[i]? = some s.Path[i] := List.getElem?_eq_getElem hi
      generalize s.Path[i] = d at hx
      have hm := List.mem_of_getElem? hx
      have K := ffit_c (n := n) (q := s.Query) (hP.b d hm)
      have nx : ¬ DecI s k u d → ∀ (j : Nat) (g : TDecision), j < i + 1 → s.Path[j]? = some g → ¬ DecI s k u g := fun h j g hj hg => by
        rcases Nat.lt_succ_iff_lt_or_eq.1 hj with h2 | rfl
        · exact hI j g h2 hg
        · rw [hx] at hg; cases hg; exact h
      have W : InI ((i : Int) + 1) := ⟨by omega, by omega⟩
      by_cases c1 : d.Kind = k
      · by_cases c2 : d.Index = u
        · by_cases h : FitC s.Query d
          · rw [tv_t h] at K
            exact .inr ⟨_, _, by simp, fde_x2_1 (by omega) hx c1 c2 K rfl, .inr ⟨rfl, rfl, d, hm, c1, c2, h⟩⟩
          · rw [tv_f h] at K
            exact .inl ⟨(), fde_r2_1 (by omega) hx c1 c2 K rfl W, nx fun h2 => h h2.2.2⟩
        · exact .inl ⟨(), fde_r2_2 (by omega) hx c1 c2 W, nx fun h2 => c2 h2.2.1⟩
      · exact .inl ⟨(), fde_r2_3 (by omega) hx c1 W, nx fun h2 => c1 h2.1⟩)
    (fun b hI => ⟨_, _, by simp, fde_x2_2 (by omega), .inl ⟨rfl, rfl, fun ⟨d, hd, h⟩ => by
      obtain ⟨j, hj⟩ := List.mem_iff_getElem?.1 hd
      exact hI j d (List.getElem?_eq_some_iff.1 hj).1 hj h⟩⟩)
  rcases h2 with ⟨rfl, rfl, h3⟩ | ⟨rfl, rfl, h3⟩
  · rw [tv_f h3]; exact fde_f2 h1
  · rw [tv_t h3]; exact fde_f1 h1
/-- lemmas that came in -/
structure LemB (L : List TLemma) : Prop where
  l : L.length ≤ 100000000
  b : ∀ m ∈ L, RawB m.Value
def LessL (L : List TLemma) (m : TLemma) (z : Int) : Prop := ∀ x, L[z.toNat - 1]? = some x → sgR (m.Value.q - x.Value.q) < 0
def MoreL (L : List TLemma) (m : TLemma) (z : Int) : Prop := ∀ x, L[z.toNat - 1]? = some x → 0 < sgR (m.Value.q - x.Value.q)
/-- a round of Best -/
noncomputable def bestF (L : List TLemma) (u : Int) (i : Nat) (b : Int × Int) (m : TLemma) : Int × Int :=
  if m.Unit = u then (if m.Upper = true then (if tv (b.2 = 0 ∨ LessL L m b.2) = true then (b.1, (i : Int) + 1) else b) else (if tv (b.1 = 0 ∨ MoreL L m b.1) = true then ((i : Int) + 1, b.2) else b)) else b
def BInv (i : Nat) (b : Int × Int) : Prop := 0 ≤ b.1 ∧ b.1 ≤ (i : Int) ∧ 0 ≤ b.2 ∧ b.2 ≤ (i : Int)
theorem bestF_inv {L : List TLemma} {u : Int} {i : Nat} {b : Int × Int} {m : TLemma} (h : BInv i b) : BInv (i + 1) (bestF L u i b m) := by
  obtain ⟨h1, h2, h3, h4⟩ := h
  unfold bestF BInv
  split
  · split
    · split <;> (try dsimp only) <;> omega
    · split <;> (try dsimp only) <;> omega
  · omega
theorem get_at {L : List TLemma} {i : Nat} {z : Int} (h0 : 0 ≤ z) (h1 : z ≠ 0) (h2 : z ≤ (i : Int)) (hi : i ≤ L.length) : ∃ x, L[z.toNat - 1]? = some x := ⟨_, List.getElem?_eq_getElem (by omega)⟩
theorem pbest_step {n : Nat} {s : TScope} {u : Int} (hL : LemB s.Lemmas) {i : Nat} {m : TLemma} {b : Int × Int} (hi : s.Lemmas[i]? = some m) (hb : BInv i b) :
    Cont 0 (exec Tryz.prog (tab n) 0 61 (livesOf 150) big rB_C3) (livesOf 150 3) (rB_h3 s u b.1 b.2 i) (rB_h3 s u (bestF s.Lemmas u i b m).1 (bestF s.Lemmas u i b m).2 (i + 1)) := by
  have hlt := (List.getElem?_eq_some_iff.1 hi).1
  have hl := hL.l
  have C1 : (i : Int) < (s.Lemmas.length : Int) := by omega
  have W : InI ((i : Int) + 1) := ⟨by omega, by omega⟩
  have hm := hL.b m (List.mem_of_getElem? hi)
  obtain ⟨h1, h2, h3, h4⟩ := hb
  unfold bestF
  by_cases c1 : m.Unit = u
  · rw [if_pos c1]
    cases c2 : m.Upper with
    | true =>
      rw [if_pos rfl]
      by_cases c3 : b.2 = 0
      · rw [if_pos (tv_t (.inl c3))]; exact rB_r3_2 C1 hi c1 c2 c3 W
      · obtain ⟨x, hx⟩ := get_at (L := s.Lemmas) h3 c3 h4 (by omega)
        have hxb := hL.b x (List.mem_of_getElem? hx)
        by_cases c4 : sgR (m.Value.q - x.Value.q) < 0
        · rw [if_pos (tv_t (.inr fun y hy => by rw [hx] at hy; cases hy; exact c4))]
          exact rB_r3_3 C1 hi c1 c2 c3 ⟨by omega, by omega⟩ hx (by omega) hm hxb c4 W
        · rw [if_neg (by rw [tv_f (fun h => by rcases h with h | h; exact c3 h; exact c4 (h x hx))]; simp)]
          exact rB_r3_4 C1 hi c1 c2 c3 ⟨by omega, by omega⟩ hx (by omega) hm hxb c4 W
    | false =>
      rw [if_neg (by simp)]
      by_cases c3 : b.1 = 0
      · rw [if_pos (tv_t (.inl c3))]; exact rB_r3_5 C1 hi c1 c2 c3 W
      · obtain ⟨x, hx⟩ := get_at (L := s.Lemmas) h1 c3 h2 (by omega)
        have hxb := hL.b x (List.mem_of_getElem? hx)
        by_cases c4 : 0 < sgR (m.Value.q - x.Value.q)
        · rw [if_pos (tv_t (.inr fun y hy => by rw [hx] at hy; cases hy; exact c4))]
          exact rB_r3_6 C1 hi c1 c2 c3 ⟨by omega, by omega⟩ hx (by omega) hm hxb c4 W
        · rw [if_neg (by rw [tv_f (fun h => by rcases h with h | h; exact c3 h; exact c4 (h x hx))]; simp)]
          exact rB_r3_7 C1 hi c1 c2 c3 ⟨by omega, by omega⟩ hx (by omega) hm hxb c4 W
  · rw [if_neg c1]; exact rB_r3_1 C1 hi c1 W
theorem fbest_step {n : Nat} {s : TScope} {u : Int} (hL : LemB s.Lemmas) {i : Nat} {m : TLemma} {b : Int × Int} (hi : s.Lemmas[i]? = some m) (hb : BInv i b) :
    Cont 0 (exec Tryz.prog (tab n) 0 70 (livesOf 227) big fB_C3) (livesOf 227 3) (fB_h3 s u b.1 b.2 (i + 1)) (fB_h3 s u (bestF s.Lemmas u i b m).1 (bestF s.Lemmas u i b m).2 (i + 1 + 1)) := by
  have hlt := (List.getElem?_eq_some_iff.1 hi).1
  have hl := hL.l
  have C1 : ((i + 1 : Nat) : Int) ≤ (s.Lemmas.length : Int) := by omega
  have W : InI (((i + 1 : Nat) : Int) + 1) := ⟨by omega, by omega⟩
  have W2 : InI (((i + 1 : Nat) : Int) - 1) := ⟨by omega, by omega⟩
  have hi2 : s.Lemmas[i + 1 - 1]? = some m := hi
  have hm := hL.b m (List.mem_of_getElem? hi)
  obtain ⟨h1, h2, h3, h4⟩ := hb
  have e : (i : Int) + 1 = ((i + 1 : Nat) : Int) := by omega
  unfold bestF
  rw [e]
  by_cases c1 : m.Unit = u
  · rw [if_pos c1]
    cases c2 : m.Upper with
    | true =>
      rw [if_pos rfl]
      by_cases c3 : b.2 = 0
      · rw [if_pos (tv_t (.inl c3))]; exact fB_r3_2 C1 W2 hi2 (by omega) c1 c2 c3 W
      · obtain ⟨x, hx⟩ := get_at (L := s.Lemmas) h3 c3 h4 (by omega)
        have hxb := hL.b x (List.mem_of_getElem? hx)
        by_cases c4 : sgR (m.Value.q - x.Value.q) < 0
        · rw [if_pos (tv_t (.inr fun y hy => by rw [hx] at hy; cases hy; exact c4))]
          exact fB_r3_3 C1 W2 hi2 (by omega) c1 c2 c3 ⟨by omega, by omega⟩ hx (by omega) hm hxb c4 W
        · rw [if_neg (by rw [tv_f (fun h => by rcases h with h | h; exact c3 h; exact c4 (h x hx))]; simp)]
          exact fB_r3_4 C1 W2 hi2 (by omega) c1 c2 c3 ⟨by omega, by omega⟩ hx (by omega) hm hxb c4 W
    | false =>
      rw [if_neg (by simp)]
      by_cases c3 : b.1 = 0
      · rw [if_pos (tv_t (.inl c3))]; exact fB_r3_5 C1 W2 hi2 (by omega) c1 c2 c3 W
      · obtain ⟨x, hx⟩ := get_at (L := s.Lemmas) h1 c3 h2 (by omega)
        have hxb := hL.b x (List.mem_of_getElem? hx)
        by_cases c4 : 0 < sgR (m.Value.q - x.Value.q)
        · rw [if_pos (tv_t (.inr fun y hy => by rw [hx] at hy; cases hy; exact c4))]
          exact fB_r3_6 C1 W2 hi2 (by omega) c1 c2 c3 ⟨by omega, by omega⟩ hx (by omega) hm hxb c4 W
        · rw [if_neg (by rw [tv_f (fun h => by rcases h with h | h; exact c3 h; exact c4 (h x hx))]; simp)]
          exact fB_r3_7 C1 W2 hi2 (by omega) c1 c2 c3 ⟨by omega, by omega⟩ hx (by omega) hm hxb c4 W
  · rw [if_neg c1]; exact fB_r3_1 C1 W2 hi2 (by omega) c1 W
noncomputable def bestV (s : TScope) (u : Int) : Int × Int := foldI (bestF s.Lemmas u) 0 (0, 0) s.Lemmas
theorem pbest_c {n : Nat} {s : TScope} {u : Int} (hL : LemB s.Lemmas) : run n 150 [scopeV s, .lit (.int .i64 u)] = some (.tup [.lit (.int .i64 (bestV s u).1), .lit (.int .i64 (bestV s u).2)]) ∧ BInv s.Lemmas.length (bestV s u) := by
  have hl := hL.l
  have h := loopG_I (O := tab n) (P := Tryz.prog) (m := 0) (N := 61) (lives := livesOf 150) (r := 3) (C := rB_C3) (L := s.Lemmas) (f := bestF s.Lemmas u) (enc := fun i b => rB_h3 s u b.1 b.2 i) (exN := .exit 0) (out := fun b => rB_o3a b.1 b.2) (Inv := BInv) (0, 0) ⟨by simp, by simp, by simp, by simp⟩ (by omega) (by simp)
    (fun i x b hi hI => ⟨pbest_step hL hi hI, bestF_inv hI⟩) (fun b hI => rB_x3_1 (by omega))
  exact ⟨rB_f1 h.1, h.2⟩
theorem fbest_c {n : Nat} {s : TScope} {u : Int} (hL : LemB s.Lemmas) : run n 227 [scopeV s, .lit (.int .i64 u)] = some (.tup [.lit (.int .i64 (bestV s u).1), .lit (.int .i64 (bestV s u).2)]) := by
  have hl := hL.l
  have h := loopG_I (O := tab n) (P := Tryz.prog) (m := 0) (N := 70) (lives := livesOf 227) (r := 3) (C := fB_C3) (L := s.Lemmas) (f := bestF s.Lemmas u) (enc := fun i b => fB_h3 s u b.1 b.2 (i + 1)) (exN := .exit 0) (out := fun b => fB_o3a b.1 b.2) (Inv := BInv) (0, 0) ⟨by simp, by simp, by simp, by simp⟩ (by omega) (by simp)
    (fun i x b hi hI => ⟨fbest_step hL hi hI, bestF_inv hI⟩) (fun b hI => fB_x3_1 (by omega))
  exact fB_f1 h.1
/-- a unit is on, is off -/
def OnP (s : TScope) (u : Int) : Prop := DecP s 1 u ∨ (0 < (bestV s u).1 ∧ ∀ x, s.Lemmas[(bestV s u).1.toNat - 1]? = some x → 0 ≤ sgR x.Value.q)
def OffP (s : TScope) (u : Int) : Prop := DecP s 2 u ∨ (0 < (bestV s u).2 ∧ ∀ x, s.Lemmas[(bestV s u).2.toNat - 1]? = some x → sgR x.Value.q ≤ 0)
theorem tv_dec {p q : Prop} [Decidable q] (h : p ↔ q) : tv p = decide q := by
  by_cases hq : q
  · rw [tv_t (h.2 hq), decide_eq_true hq]
  · rw [tv_f (fun h2 => hq (h.1 h2)), decide_eq_false hq]
theorem phases_both {s : TScope} {u : Int} (hL : LemB s.Lemmas) (hP : PathB s.Path) (n : Nat) :
    run (n + 6) 151 [scopeV s, .lit (.int .i64 u), .lit (.int .i64 (bestV s u).1), .lit (.int .i64 (bestV s u).2)] = some (.tup [.lit (.bool (tv (OnP s u))), .lit (.bool (tv (OffP s u)))]) ∧
    run (n + 2) 155 [scopeV s, .lit (.int .i64 u)] = some (.tup [.lit (.bool (tv (OnP s u))), .lit (.bool (tv (OffP s u)))]) := by
  have hl := hL.l
  have P1 := pdec_c (n := n) (s := s) (k := 1) (u := u) hP
  have P2 := pdec_c (n := n) (s := s) (k := 2) (u := u) hP
  have F1 := fdec_c (n := n) (s := s) (k := 1) (u := u) hP
  have F2 := fdec_c (n := n) (s := s) (k := 2) (u := u) hP
  have FB := fbest_c (n := n + 1) (s := s) (u := u) hL
  obtain ⟨_, hb1, hb2, hb3, hb4⟩ := pbest_c (n := 0) (s := s) (u := u) hL
  unfold OnP OffP
  generalize bestV s u = b at *
  obtain ⟨lo, hi⟩ := b
  dsimp only at *
  have at1 : 0 < lo → ∃ x, s.Lemmas[lo.toNat - 1]? = some x ∧ RawB x.Value := fun h => by
    obtain ⟨x, hx⟩ := get_at (L := s.Lemmas) (i := s.Lemmas.length) hb1 (by omega) hb2 (by omega)
    exact ⟨x, hx, hL.b x (List.mem_of_getElem? hx)⟩
  have at2 : 0 < hi → ∃ x, s.Lemmas[hi.toNat - 1]? = some x ∧ RawB x.Value := fun h => by
    obtain ⟨x, hx⟩ := get_at (L := s.Lemmas) (i := s.Lemmas.length) hb3 (by omega) hb4 (by omega)
    exact ⟨x, hx, hL.b x (List.mem_of_getElem? hx)⟩
  have only1 : ∀ {x : TLemma} {k : Nat} {p : TLemma → Prop}, s.Lemmas[k]? = some x → ((∀ y, s.Lemmas[k]? = some y → p y) ↔ p x) := fun {x k p} hx => ⟨fun h => h x hx, fun h y hy => by rw [hx] at hy; cases hy; exact h⟩
  by_cases d1 : DecP s 1 u
  · rw [tv_t d1] at P1 F1
    rw [tv_t (.inl d1 : DecP s 1 u ∨ _)]
    by_cases d2 : DecP s 2 u
    · rw [tv_t d2] at P2 F2
      rw [tv_t (.inl d2 : DecP s 2 u ∨ _)]
      exact ⟨rph_f1 P1 rfl P2 rfl, fph_f1 FB F1 rfl F2 rfl⟩
    · rw [tv_f d2] at P2 F2
      by_cases c : 0 < hi
      · obtain ⟨x, hx, hxb⟩ := at2 c
        rw [tv_dec (q := sgR x.Value.q ≤ 0) ⟨fun h => by rcases h with h | h; exact absurd h d2; exact h.2 x hx, fun h => .inr ⟨c, (only1 (p := fun y => sgR y.Value.q ≤ 0) hx).2 h⟩⟩]
        exact ⟨rph_f2 P1 rfl P2 rfl c ⟨by omega, by omega⟩ hx (by omega) hxb, fph_f2 FB F1 rfl F2 rfl c ⟨by omega, by omega⟩ hx (by omega) hxb⟩
      · rw [tv_f (fun h => by rcases h with h | h; exact d2 h; exact c h.1)]
        exact ⟨rph_f3 P1 rfl P2 rfl c, fph_f3 FB F1 rfl F2 rfl c⟩
  · rw [tv_f d1] at P1 F1
    by_cases c1 : 0 < lo
    · obtain ⟨y, hy, hyb⟩ := at1 c1
      rw [tv_dec (q := 0 ≤ sgR y.Value.q) ⟨fun h => by rcases h with h | h; exact absurd h d1; exact h.2 y hy, fun h => .inr ⟨c1, (only1 (p := fun z => 0 ≤ sgR z.Value.q) hy).2 h⟩⟩]
      by_cases d2 : DecP s 2 u
      · rw [tv_t d2] at P2 F2
        rw [tv_t (.inl d2 : DecP s 2 u ∨ _)]
        exact ⟨rph_f4 P1 rfl c1 ⟨by omega, by omega⟩ hy (by omega) hyb P2 rfl, fph_f4 FB F1 rfl c1 ⟨by omega, by omega⟩ hy (by omega) hyb F2 rfl⟩
      · rw [tv_f d2] at P2 F2
        by_cases c : 0 < hi
        · obtain ⟨x, hx, hxb⟩ := at2 c
          rw [tv_dec (q := sgR x.Value.q ≤ 0) ⟨fun h => by rcases h with h | h; exact absurd h d2; exact h.2 x hx, fun h => .inr ⟨c, (only1 (p := fun y => sgR y.Value.q ≤ 0) hx).2 h⟩⟩]
          exact ⟨rph_f5 P1 rfl c1 ⟨by omega, by omega⟩ hy (by omega) hyb P2 rfl c ⟨by omega, by omega⟩ hx (by omega) hxb, fph_f5 FB F1 rfl c1 ⟨by omega, by omega⟩ hy (by omega) hyb F2 rfl c ⟨by omega, by omega⟩ hx (by omega) hxb⟩
        · rw [tv_f (fun h => by rcases h with h | h; exact d2 h; exact c h.1)]
          exact ⟨rph_f6 P1 rfl c1 ⟨by omega, by omega⟩ hy (by omega) hyb P2 rfl c, fph_f6 FB F1 rfl c1 ⟨by omega, by omega⟩ hy (by omega) hyb F2 rfl c⟩
    · rw [tv_f (fun h => by rcases h with h | h; exact d1 h; exact c1 h.1)]
      by_cases d2 : DecP s 2 u
      · rw [tv_t d2] at P2 F2
        rw [tv_t (.inl d2 : DecP s 2 u ∨ _)]
        exact ⟨rph_f7 P1 rfl c1 P2 rfl, fph_f7 FB F1 rfl c1 F2 rfl⟩
      · rw [tv_f d2] at P2 F2
        by_cases c : 0 < hi
        · obtain ⟨x, hx, hxb⟩ := at2 c
          rw [tv_dec (q := sgR x.Value.q ≤ 0) ⟨fun h => by rcases h with h | h; exact absurd h d2; exact h.2 x hx, fun h => .inr ⟨c, (only1 (p := fun y => sgR y.Value.q ≤ 0) hx).2 h⟩⟩]
          exact ⟨rph_f8 P1 rfl c1 P2 rfl c ⟨by omega, by omega⟩ hx (by omega) hxb, fph_f8 FB F1 rfl c1 F2 rfl c ⟨by omega, by omega⟩ hx (by omega) hxb⟩
        · rw [tv_f (fun h => by rcases h with h | h; exact d2 h; exact c h.1)]
          exact ⟨rph_f9 P1 rfl c1 P2 rfl c, fph_f9 FB F1 rfl c1 F2 rfl c⟩
/-- a scope of a small query -/
structure ScOk (s : TScope) : Prop where
  q : QuOk s.Query
  p : PathB s.Path
  l : LemB s.Lemmas
noncomputable def phV (s : TScope) (u : Int) : Int := if tv (OnP s u) = true then 1 else if tv (OffP s u) = true then 2 else 0
theorem phase_c {n : Nat} {s : TScope} (h : ScOk s) {u : Int} (h0 : 0 ≤ u) (h1 : u < (s.Query.Graph.Units.length : Int)) :
    run (n + 7) 65 [scopeV s, .lit (.int .i64 u)] = some (.lit (.int .i64 (phV s u))) ∧ run (n + 5) 67 [scopeV s, .lit (.int .i64 u)] = some (.lit (.int .i64 (phV s u))) := by
  obtain ⟨A, _⟩ := phases_both (u := u) h.l h.p n
  obtain ⟨_, B⟩ := phases_both (u := u) h.l h.p (n + 2)
  obtain ⟨C, _⟩ := pbest_c (n := n + 6) (s := s) (u := u) h.l
  have V1 := qvalid_small (n := n) h.q
  have V2 := validQ_small (n := n) h.q
  unfold phV
  cases hp : tv (OnP s u) with
  | true => rw [hp] at A B; exact ⟨rP_f4 V1 rfl (by omega) (by omega) C A rfl, fP_f4 V2 rfl (by omega) (by omega) B rfl⟩
  | false =>
    cases hq : tv (OffP s u) with
    | true => rw [hp, hq] at A B; exact ⟨rP_f5 V1 rfl (by omega) (by omega) C A rfl rfl, fP_f5 V2 rfl (by omega) (by omega) B rfl rfl⟩
    | false => rw [hp, hq] at A B; exact ⟨rP_f6 V1 rfl (by omega) (by omega) C A rfl rfl, fP_f6 V2 rfl (by omega) (by omega) B rfl rfl⟩
noncomputable def phsV (s : TScope) : List Int := (List.range s.Query.Graph.Units.length).map fun (j : Nat) => phV s (j : Int)
theorem pof_c {n : Nat} {s : TScope} (h : ScOk s) : run (n + 8) 17 [scopeV s] = some (.sl 1 ((phsV s).map intI64C)) := by
  have hu := h.q.gr.u
  have V1 := qvalid_small (n := n + 1) h.q
  obtain ⟨out, h1, h2, h3⟩ := loopG_R (O := tab (n + 8)) (P := Tryz.prog) (m := 0) (N := 28) (lives := livesOf 17) (r := 5) (C := pOf_C5) (exN := .exit 0) (M := s.Query.Graph.Units.length) (enc := fun i (o : List Int) => pOf_h5 s o i) (out := fun o => pOf_o5a o)
    (fun i o => o.length = s.Query.Graph.Units.length ∧ ∀ j : Nat, j < i → o[j]? = some (phV s (j : Int))) (List.replicate s.Query.Graph.Units.length 0) ⟨by simp, fun j hj => by omega⟩ (by omega) (by simp)
    (fun i o hi ⟨a1, a2⟩ => by
      obtain ⟨K, _⟩ := phase_c (n := n) h (u := (i : Int)) (by omega) (by omega)
      refine ⟨o.set i (phV s (i : Int)), pOf_r5_1 (by omega) K (by omega) ⟨by omega, by omega⟩, by simpa using a1, fun j hj => ?_⟩
      rw [List.getElem?_set]
      by_cases e : i = j
      · subst e; rw [if_pos rfl, if_pos (by omega)]
      · rw [if_neg e]; exact a2 j (by omega))
    (fun o ⟨a1, a2⟩ => pOf_x5_1 (by omega))
  have e : out = phsV s := by
    apply List.ext_getElem?
    intro j
    unfold phsV
    by_cases hj : j < s.Query.Graph.Units.length
    · rw [h3 j hj, List.getElem?_map, List.getElem?_range hj]; rfl
    · rw [List.getElem?_eq_none (by omega), List.getElem?_eq_none (by rw [List.length_map, List.length_range]; omega)]
  rw [← e]
  exact pOf_f2 V1 rfl (by omega) h1
theorem fof_c {n : Nat} {s : TScope} (h : ScOk s) : run (n + 6) 18 [scopeV s] = some (.sl 1 ((phsV s).map intI64C)) := by
  have hu := h.q.gr.u
  have V1 := validQ_small (n := n + 1) h.q
  obtain ⟨out, h1, h2, h3⟩ := loopG_R (O := tab (n + 6)) (P := Tryz.prog) (m := 0) (N := 25) (lives := livesOf 18) (r := 5) (C := fOf_C5) (exN := .exit 0) (M := s.Query.Graph.Units.length) (enc := fun i (o : List Int) => fOf_h5 s o i) (out := fun o => fOf_o5a o)
    (fun i o => o.length = i ∧ ∀ j : Nat, j < i → o[j]? = some (phV s (j : Int))) [] ⟨rfl, fun j hj => by omega⟩ (by omega) (by simp)
    (fun i o hi ⟨a1, a2⟩ => by
      obtain ⟨_, K⟩ := phase_c (n := n) h (u := (i : Int)) (by omega) (by omega)
      refine ⟨o ++ [phV s (i : Int)], fOf_r5_1 (by omega) K (by omega) ⟨by omega, by omega⟩, by simp [a1], fun j hj => ?_⟩
      by_cases e : j = i
      · subst e; rw [List.getElem?_append_right (by omega), a1]; simp
      · rw [List.getElem?_append_left (by omega)]; exact a2 j (by omega))
    (fun o ⟨a1, a2⟩ => fOf_x5_1 (by omega))
  have e : out = phsV s := by
    apply List.ext_getElem?
    intro j
    unfold phsV
    by_cases hj : j < s.Query.Graph.Units.length
    · rw [h3 j hj, List.getElem?_map, List.getElem?_range hj]; rfl
    · rw [List.getElem?_eq_none (by omega), List.getElem?_eq_none (by rw [List.length_map, List.length_range]; omega)]
  rw [← e]
  exact fOf_f2 V1 rfl h1
theorem same_ints {n : Nat} {l : List Int} (hl : l.length ≤ 100000000) : run n 16 [.sl 1 (l.map intI64C), .sl 1 (l.map intI64C)] = some (.lit (.bool true)) := by
  refine si_f3 rfl (loopG_I (O := tab n) (P := Tryz.prog) (m := 0) (N := 26) (lives := livesOf 16) (r := 4) (C := si_C4) (L := l) (f := fun _ (b : Unit) _ => b) (enc := fun i _ => si_h4 l l i) (exN := .exit 0) (out := fun _ => si_o4b) (Inv := fun _ _ => True) () trivial (by omega) (by simp)
    (fun i x b hi hI => by
      have hlt := (List.getElem?_eq_some_iff.1 hi).1
      exact ⟨si_r4_1 (by omega) hi hi rfl ⟨by omega, by omega⟩, trivial⟩)
    (fun b hI => si_x4_2 (by omega))).1
end Go.Proofs.YtkakmdadnhjphaaGreatDoor
