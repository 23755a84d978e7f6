/- relucertref21.Part; relucertlaw34.large; relucertlaw34.PhaseOf: what the calls return; the law. -/
import Derived.Test.YtkakmdadnhjphaaGreatDoorHA
import Derived.Test.YtkakmdadnhjphaaGreatDoorXC
import Derived.Test.YtkakmdadnhjphaaGreatDoorAW
set_option linter.all false
set_option linter.all false
set_option maxRecDepth 100000
set_option maxHeartbeats 6400000
namespace Go.Proofs.YtkakmdadnhjphaaGreatDoor
open Go.RowKit

theorem newF_c {n : Nat} {bs : List Int} (hl : bs.length ≤ 1000000) : runL n 59 [.sl 1 (bs.map intU8C)] [] = some (.ptr 2 0, [(2, fdB bs 0)]) := by
  unfold runL fnL fdB
  have hr : ∀ b, b ≤ 10000 → roomy bs.length b = true := fun b hb => roomy_s (by omega) hb
  simp +decide [Tryz.f59, hr]
attribute [local irreducible] run runL loopG exec lw
theorem next3 {n : Nat} {bs : List Int} {k : Nat} (hb : Byt bs) (hk : k ≤ bs.length) {m : Int} (hm : 0 < m) : ∃ (z : Int) (k' : Nat), runL n 61 [.ptr 0 0, .lit (.int .i64 m)] [fdB bs k] = some (.lit (.int .i64 z), [(0, fdB bs k')]) ∧ 0 ≤ z ∧ z < m ∧ k' ≤ bs.length :=
  ⟨_, _, next_c hb hk hm, (nextN_lt hm).1, (nextN_lt hm).2, nextN_le hk⟩
/-- the state of the loop of Part -/
structure PaS where
  k : Nat
  out : List TDecision
  fz : Nat
theorem part_c {n : Nat} {bs : List Int} (hb : Byt bs) (hl : bs.length ≤ 1000000) : ∃ s : TScope, run (n + 6) 15 [.sl 1 (bs.map intU8C)] = some (scopeV s) ∧ QuOk s.Query ∧ PathB s.Path := by
  have K1 := newF_c (n := n + 5) hl
  obtain ⟨q, k1, K2, hq, hk1⟩ := query_c (n := n) hb (Nat.zero_le _)
  obtain ⟨z, k2, K3, z0, z1, hk2⟩ := next3 (n := n + 5) hb hk1 (m := 4) (by omega)
  have hg := hq.gr
  have g0 := hg.i0
  have g1 := hg.i1
  have gu := hg.u
  obtain ⟨b', hL, hI⟩ := loopG_R (O := tab (n + 6)) (P := Tryz.prog) (m := 0) (N := 71) (lives := livesOf 15) (r := 4) (C := pa_C4) (exN := .exit 0) (M := z.toNat)
    (enc := fun i (b : PaS) => pa_h4 (z - (i : Int)) ⟨bs, 0⟩ (b.k : Int) q b.out b.fz) (out := fun b => pa_o4a q b.out b.fz)
    (fun i b => b.k ≤ bs.length ∧ b.out.length ≤ i ∧ ∀ d ∈ b.out, H d.At ≤ 17179869184) ⟨k2, [], 0⟩ ⟨hk2, by simp, fun d hd => by cases hd⟩ (by omega) (by simp)
    (fun i b hi hI => by
      obtain ⟨i1, i2, i3⟩ := hI
      obtain ⟨a, k3, N1, a0, a1, hk3⟩ := next3 (n := n + 5) hb i1 (m := 4) (by omega)
      have C1 : 0 < z - (i : Int) := by omega
      have W1 : InI (1 + a) := ⟨by omega, by omega⟩
      have W2 : InI (z - (i : Int) - 1) := ⟨by omega, by omega⟩
      have e : z - ((i + 1 : Nat) : Int) = z - (i : Int) - 1 := by omega
      have put : ∀ (d : TDecision) (k' fz : Nat), k' ≤ bs.length → H d.At ≤ 17179869184 → (⟨k', b.out ++ [d], fz⟩ : PaS).k ≤ bs.length ∧ (⟨k', b.out ++ [d], fz⟩ : PaS).out.length ≤ i + 1 ∧ ∀ d' ∈ (⟨k', b.out ++ [d], fz⟩ : PaS).out, H d'.At ≤ 17179869184 := fun d k' fz h1 h2 => ⟨h1, by simp; omega, fun d' hd => by
        rcases List.mem_append.1 hd with h | h
        · exact i3 d' h
        · rw [List.mem_singleton.1 h]; exact h2⟩
      by_cases c1 : 1 + a = 3
      · obtain ⟨x, k4, N2, x0, x1, hk4⟩ := next3 (n := n + 5) hb hk3 (m := q.Graph.Inputs) (by omega)
        have N3 := num_c (n := n + 4) hb hk4
        have hN := numN_few bs k4
        exact ⟨⟨(numN bs k4).2, b.out ++ [⟨1 + a, x, (numN bs k4).1⟩], b.fz⟩, by rw [e]; exact pa_r4_1 C1 N1 W1 c1 N2 N3 (by omega) W2, put _ _ _ (numN_le hk4) (by dsimp only; omega)⟩
      by_cases c2 : 1 + a = 4
      · obtain ⟨x, k4, N2, x0, x1, hk4⟩ := next3 (n := n + 5) hb hk3 (m := q.Graph.Inputs) (by omega)
        have N3 := num_c (n := n + 4) hb hk4
        have hN := numN_few bs k4
        exact ⟨⟨(numN bs k4).2, b.out ++ [⟨1 + a, x, (numN bs k4).1⟩], b.fz⟩, by rw [e]; exact pa_r4_2 C1 N1 W1 c1 c2 N2 N3 (by omega) W2, put _ _ _ (numN_le hk4) (by dsimp only; omega)⟩
      by_cases c3 : (q.Graph.Units.length : Int) = 0
      · exact ⟨⟨k3, b.out, b.fz⟩, by rw [e]; exact pa_r4_3 C1 N1 W1 c1 c2 c3 W2, hk3, by dsimp only; omega, i3⟩
      · obtain ⟨x, k4, N2, x0, x1, hk4⟩ := next3 (n := n + 5) hb hk3 (m := (q.Graph.Units.length : Int)) (by omega)
        have D1 := fdec_c (n := n + 4) (s := ⟨q, b.out, []⟩) (k := 1) (u := x) ⟨by dsimp only; omega, i3⟩
        have D2 := fdec_c (n := n + 4) (s := ⟨q, b.out, []⟩) (k := 2) (u := x) ⟨by dsimp only; omega, i3⟩
        cases h1 : tv (DecP ⟨q, b.out, []⟩ 1 x) with
        | true => rw [h1] at D1; exact ⟨⟨k4, b.out, b.out.length⟩, by rw [e]; exact pa_r4_4 C1 N1 W1 c1 c2 c3 N2 D1 rfl W2, hk4, by dsimp only; omega, i3⟩
        | false =>
          rw [h1] at D1
          cases h2 : tv (DecP ⟨q, b.out, []⟩ 2 x) with
          | true => rw [h2] at D2; exact ⟨⟨k4, b.out, b.out.length⟩, by rw [e]; exact pa_r4_5 C1 N1 W1 c1 c2 c3 N2 D1 rfl D2 rfl W2, hk4, by dsimp only; omega, i3⟩
          | false => rw [h2] at D2; exact ⟨⟨k4, b.out ++ [⟨1 + a, x, 0⟩], b.out.length⟩, by rw [e]; exact pa_r4_6 C1 N1 W1 c1 c2 c3 N2 D1 rfl D2 rfl (by omega) W2, put _ _ _ hk4 (by dsimp only; decide)⟩)
    (fun b hI => pa_x4_1 (by omega))
  obtain ⟨i1, i2, i3⟩ := hI
  have hL2 := hL
  rw [show z - ((0 : Nat) : Int) = z by omega] at hL2
  exact ⟨⟨q, b'.out, []⟩, pa_f1 (r := ⟨bs, 0⟩) K1 K2 K3 hL2, hq, by dsimp only; omega, i3⟩
def lgP (r : Raw) : Bool := decide (r.l1.length ≤ 8 ∧ r.l2.length ≤ 8)
theorem large1_c {n : Nat} {r : Raw} : run n 14 [.sl 5 [decisionRC ⟨0, 0, r⟩]] = some (.lit (.bool (!lgP r))) := by
  have h := loopG_Q (P := Tryz.prog) (O := tab n) (m := 0) (N := 27) (lives := livesOf 14) (r := 4) (C := lg_C4) (M := 1) (enc := fun i (_ : Unit) => lg_h4 [⟨0, 0, r⟩] i) (fun i _ => i = 1 → lgP r = true) (fun ex t => (ex, t) = if lgP r = true then (.exit 0, lg_o4b) else (.ret, lg_o4a)) ()
    (fun h => by cases h) (by omega) (fun i b hi hI => by
      obtain rfl : i = 0 := by omega
      by_cases h1 : r.l1.length ≤ 8
      · by_cases h2 : r.l2.length ≤ 8
        · exact .inl ⟨(), lg_r4_1 (a0 := [⟨0, 0, r⟩]) (i_4 := 0) (x3 := ⟨0, 0, r⟩) (by simp) rfl (by dsimp only; omega) (by dsimp only; omega) ⟨by omega, by omega⟩, fun _ => decide_eq_true ⟨h1, h2⟩⟩
        · have e : lgP r = false := decide_eq_false (fun h => h2 h.2)
          exact .inr ⟨_, _, by simp, lg_x4_2 (a0 := [⟨0, 0, r⟩]) (i_4 := 0) (x3 := ⟨0, 0, r⟩) (by simp) rfl (by dsimp only; omega) (by dsimp only; omega), by simp [e]⟩
      · have e : lgP r = false := decide_eq_false (fun h => h1 h.1)
        exact .inr ⟨_, _, by simp, lg_x4_1 (a0 := [⟨0, 0, r⟩]) (i_4 := 0) (x3 := ⟨0, 0, r⟩) (by simp) rfl (by dsimp only; omega), by simp [e]⟩) (fun b hI => ⟨_, _, by simp, lg_x4_3 (by simp), by simp [hI rfl]⟩)
  obtain ⟨ex, t, h1, h2⟩ := h
  rw [h2] at h1
  cases hp : lgP r with
  | true => rw [hp, if_pos rfl] at h1; exact lg_f3 (a0 := [⟨0, 0, r⟩]) (by simp) h1
  | false => rw [hp, if_neg (by simp)] at h1; exact lg_f2 (a0 := [⟨0, 0, r⟩]) (by simp) h1
/-- lemmas whose numbers are limbs -/
def LimL (L : List TLemma) : Prop := ∀ m ∈ L, Lim m.Value.l1 ∧ Lim m.Value.l2
theorem zscope {n : Nat} : run (n + 8) 17 [.agg [.lit (.int .i64 0), .sl 4 [], .sl 4 [], .sl 3 [], .sl 3 [], .sl 4 [], .sl 4 [], .lit (.bool false), .sl 1 [], .sl 1 [], .sl 5 [], .sl 6 []]] = some (.sl 1 (([] : List Int).map intI64C)) := by
  have h := pOf_f1 (n := n) (a0 := ⟨⟨⟨0, [], []⟩, ⟨[], [], []⟩, ([], 0)⟩, [], []⟩) (r := false) (qV_f3 (n := n + 1) (gV_f1 (n := n + 1) (by dsimp only; omega)) rfl) rfl
  simpa using h
theorem law_true {n : Nat} {bs : List Int} {L : List TLemma} (hbs : ∀ x ∈ bs, 0 ≤ x ∧ x < 256) (hL : LimL L) : lw n [.sl 1 (bs.map intU8C), .sl 6 (L.map lemmaC)] = some (.lit (.bool true)) := by
  by_cases c1 : 300 < bs.length
  · exact lw_f1 (by omega)
  by_cases c2 : 20 < L.length
  · exact lw_f2 (by omega) (by omega)
  obtain ⟨ex, t, h1, h2⟩ := loopG_Q (β := Unit) (P := Tryz.prog) (O := lwT n) (m := 0) (N := 52) (lives := livesOf 3) (r := 6) (C := lw_C6) (M := L.length) (enc := fun i _ => lw_h6 bs L i)
    (fun i _ => ∀ j m, j < i → L[j]? = some m → RawB m.Value) (fun ex t => (ex = .exit 0 ∧ t = lw_o6b bs L ∧ ∀ m ∈ L, RawB m.Value) ∨ (ex = .ret ∧ t = lw_o6a bs L)) () (fun j f hj => by omega) (by omega)
    (fun i b hi hI => by
      have hx : L[i]? = some L[i] := List.getElem?_eq_getElem hi
      generalize L[i] = m at hx
      have hm := hL m (List.mem_of_getElem? hx)
      have K := large1_c (n := n + 8) (r := m.Value)
      cases h : lgP m.Value with
      | false => rw [h] at K; exact .inr ⟨_, _, by simp, lw_x6_1 (by omega) hx K rfl, .inr ⟨rfl, rfl⟩⟩
      | true =>
        rw [h] at K
        have hs := of_decide_eq_true h
        by_cases c3 : 20 < m.Proof.length
        · exact .inr ⟨_, _, by simp, lw_x6_2 (by omega) hx K rfl (by omega), .inr ⟨rfl, rfl⟩⟩
        · refine .inl ⟨(), lw_r6_1 (by omega) hx K rfl (by omega) ⟨by omega, by omega⟩, fun j g hj hg => ?_⟩
          rcases Nat.lt_succ_iff_lt_or_eq.1 hj with h2 | rfl
          · exact hI j g h2 hg
          · rw [hx] at hg; cases hg; exact ⟨hm.1, hm.2, by have := hs.1; omega, by have := hs.2; omega⟩)
    (fun b hI => ⟨_, _, by simp, lw_x6_3 (by omega), .inl ⟨rfl, rfl, fun m hm => by
      obtain ⟨j, hj⟩ := List.mem_iff_getElem?.1 hm
      exact hI j m (List.getElem?_eq_some_iff.1 hj).1 hj⟩⟩)
  rcases h2 with ⟨rfl, rfl, hR⟩ | ⟨rfl, rfl⟩
  · obtain ⟨s, K1, hq, hp⟩ := part_c (n := n + 2) ⟨by omega, hbs⟩ (by omega)
    have ok : ScOk ⟨s.Query, s.Path, L⟩ := ⟨hq, hp, by dsimp only; omega, hR⟩
    have hu := hq.gr.u
    have hl : (phsV ⟨s.Query, s.Path, L⟩).length ≤ 100000000 := by unfold phsV; rw [List.length_map, List.length_range]; dsimp only; omega
    exact lw_f4 (by omega) (by omega) h1 K1 (pof_c (n := n) ok) (fof_c (n := n + 2) ok) (same_ints hl) rfl (zscope (n := n))
  · exact lw_f3 (by omega) (by omega) h1
end Go.Proofs.YtkakmdadnhjphaaGreatDoor
