/- relucertlaw34.PhaseCovers: the call returns true. -/
import Derived.Test.YtjobiobdpnhooaaGreatDoorGf
import Derived.Test.YtjobiobdpnhooaaGreatDoorKB
set_option linter.all false
set_option linter.all false
set_option maxRecDepth 100000
set_option maxHeartbeats 6400000
namespace Go.Proofs.YtjobiobdpnhooaaGreatDoor
open Go.RowKit

/-- awake, as a row of the table -/
def awG (args : List AV) : Option AV := match args with | [] => some (.lit (.bool true)) | _ => none
theorem con_awake : ∀ args r, awG args = some r → Con Tryz.prog 5 args r := fun args r hr => by
  unfold awG at hr
  split at hr
  · cases hr
    intro w ok vs hg hv
    have hG := hg 0 _ rfl
    have hcell : w.cell? ⟨0, 3, none⟩ = some (.int .i64 4) := by
      cases hG with
      | mem hm hh =>
        have h1 := (hm 3 _ rfl).2
        have h2 := hh 3 _ rfl
        obtain ⟨u, hu⟩ := Option.isSome_iff_exists.1 h1
        rw [Nat.zero_add] at hu h2
        rw [hu] at h2
        cases h2
        exact hu
    have e : vs = #[] := by
      have := hv.1
      simpa using this
    subst e
    refine (awake_c w hcell (Nat.lt_of_le_of_lt (Nat.zero_le _) (cell_lt hcell))).mono ?_
    rintro e w' ⟨rfl, hb⟩
    exact ⟨_, rfl, .lit _, hb⟩
  · cases hr
noncomputable def lawT (n : Nat) : FuncId → Option Orc := ext (tab (n + 1)) 5 (.pure awG)
theorem lawT_ok (n : Nat) : OrcOk Tryz.prog (lawT n) := (tab_ok (n + 1)).extP (by kernel_rfl) con_awake
noncomputable def law (n : Nat) (args : List AV) : Option AV := fnP Tryz.prog (lawT n) (livesOf 3) big (fnOf 3) args
theorem law_con {n : Nat} {args : List AV} {r : AV} (h : law n args = some r) : Con Tryz.prog 3 args r :=
  con_of (lawT_ok n) mixed (plain_fn (by kernel_rfl)) (body_some (by kernel_rfl) (plain_fn (by kernel_rfl))) h
theorem lt_5 (n : Nat) : lawT n 5 = some (.pure awG) := by unfold lawT ext; rw [if_pos rfl]
theorem lt_6 (n : Nat) : lawT n 6 = some (.pure (run n 6)) := by unfold lawT ext; rw [if_neg (by decide)]; exact tb_6 n
theorem lt_7 (n : Nat) : lawT n 7 = some (.pure (run n 7)) := by unfold lawT ext; rw [if_neg (by decide)]; exact tb_7 n
theorem lt_8 (n : Nat) : lawT n 8 = some (.pure (run n 8)) := by unfold lawT ext; rw [if_neg (by decide)]; exact tb_8 n
theorem lt_9 (n : Nat) : lawT n 9 = some (.pure (run n 9)) := by unfold lawT ext; rw [if_neg (by decide)]; exact tb_9 n
theorem lt_10 (n : Nat) : lawT n 10 = some (.pure (run n 10)) := by unfold lawT ext; rw [if_neg (by decide)]; exact tb_10 n
theorem lt_11 (n : Nat) : lawT n 11 = some (.pure (run n 11)) := by unfold lawT ext; rw [if_neg (by decide)]; exact tb_11 n
section
variable {n : Nat} {bs ps : List Int} {d d' : TDecisionR} {q : TQuery} {X : List Rat} {b b1 b2 : Bool}
theorem law_f1 (h : 300 < bs.length) : law n [.sl 1 (bs.map intU8C), .sl 1 (ps.map intU8C), decisionRV d] = some (.lit (.bool true)) := by
  have h' : (300 : Int) < (bs.length : Int) := by omega
  unfold law fnP
  simp +decide [Tryz.f3, decisionRV, lt_5, lt_6, awG, h, h']
theorem law_f2 (h : ¬ 300 < bs.length) (g : 40 < ps.length) : law n [.sl 1 (bs.map intU8C), .sl 1 (ps.map intU8C), decisionRV d] = some (.lit (.bool true)) := by
  have h' : ¬ (300 : Int) < (bs.length : Int) := by omega
  have g' : (40 : Int) < (ps.length : Int) := by omega
  unfold law fnP
  simp +decide [Tryz.f3, decisionRV, lt_5, lt_6, awG, h, h', g, g']
theorem law_f3 (h : ¬ 300 < bs.length) (g : ¬ 40 < ps.length) (K1 : run n 6 [.sl 5 [rdC d]] = some (.lit (.bool b))) (hb : b = true) : law n [.sl 1 (bs.map intU8C), .sl 1 (ps.map intU8C), decisionRV d] = some (.lit (.bool true)) := by
  have h' : ¬ (300 : Int) < (bs.length : Int) := by omega
  have g' : ¬ (40 : Int) < (ps.length : Int) := by omega
  simp only [rdC] at K1
  unfold law fnP
  simp +decide [Tryz.f3, decisionRV, lt_5, lt_6, awG, h, h', g, g', K1, hb]
theorem law_f4 (h : ¬ 300 < bs.length) (g : ¬ 40 < ps.length) (K1 : run n 6 [.sl 5 [rdC d]] = some (.lit (.bool false))) (K2 : run n 7 [.sl 1 (bs.map intU8C)] = some (queryV q)) (K3 : run n 8 [regionV q.Region, .sl 1 (ps.map intU8C)] = some (.sl 3 (X.map ratC)))
    (K4 : run n 9 [queryV q, decisionRV d] = some (.lit (.bool b))) (hb : b = false) : law n [.sl 1 (bs.map intU8C), .sl 1 (ps.map intU8C), decisionRV d] = some (.lit (.bool true)) := by
  have h' : ¬ (300 : Int) < (bs.length : Int) := by omega
  have g' : ¬ (40 : Int) < (ps.length : Int) := by omega
  simp only [rdC, queryV, regionV, decisionRV] at K1 K2 K3 K4
  unfold law fnP
  simp +decide [Tryz.f3, decisionRV, lt_5, lt_6, lt_7, lt_8, lt_9, awG, h, h', g, g', K1, K2, K3, K4, hb]
theorem law_f5 (h : ¬ 300 < bs.length) (g : ¬ 40 < ps.length) (K1 : run n 6 [.sl 5 [rdC d]] = some (.lit (.bool false))) (K2 : run n 7 [.sl 1 (bs.map intU8C)] = some (queryV q)) (K3 : run n 8 [regionV q.Region, .sl 1 (ps.map intU8C)] = some (.sl 3 (X.map ratC)))
    (K4 : run n 9 [queryV q, decisionRV d] = some (.lit (.bool b))) (hb : b = true) (K5 : run n 10 [queryV q, decisionRV d, .sl 3 (X.map ratC)] = some (.lit (.bool b1))) (h1 : b1 = true) : law n [.sl 1 (bs.map intU8C), .sl 1 (ps.map intU8C), decisionRV d] = some (.lit (.bool true)) := by
  have h' : ¬ (300 : Int) < (bs.length : Int) := by omega
  have g' : ¬ (40 : Int) < (ps.length : Int) := by omega
  simp only [rdC, queryV, regionV, decisionRV] at K1 K2 K3 K4 K5
  unfold law fnP
  simp +decide [Tryz.f3, decisionRV, lt_5, lt_6, lt_7, lt_8, lt_9, lt_10, awG, h, h', g, g', K1, K2, K3, K4, hb, K5, h1]
theorem law_f6 (h : ¬ 300 < bs.length) (g : ¬ 40 < ps.length) (K1 : run n 6 [.sl 5 [rdC d]] = some (.lit (.bool false))) (K2 : run n 7 [.sl 1 (bs.map intU8C)] = some (queryV q)) (K3 : run n 8 [regionV q.Region, .sl 1 (ps.map intU8C)] = some (.sl 3 (X.map ratC)))
    (K4 : run n 9 [queryV q, decisionRV d] = some (.lit (.bool b))) (hb : b = true) (K5 : run n 10 [queryV q, decisionRV d, .sl 3 (X.map ratC)] = some (.lit (.bool b1))) (h1 : b1 = false)
    (K6 : run n 11 [decisionRV d] = some (decisionRV d')) (K7 : run n 10 [queryV q, decisionRV d', .sl 3 (X.map ratC)] = some (.lit (.bool b2))) : law n [.sl 1 (bs.map intU8C), .sl 1 (ps.map intU8C), decisionRV d] = some (.lit (.bool b2)) := by
  have h' : ¬ (300 : Int) < (bs.length : Int) := by omega
  have g' : ¬ (40 : Int) < (ps.length : Int) := by omega
  simp only [rdC, queryV, regionV, decisionRV] at K1 K2 K3 K4 K5 K6 K7
  unfold law fnP
  simp +decide [Tryz.f3, decisionRV, lt_5, lt_6, lt_7, lt_8, lt_9, lt_10, lt_11, awG, h, h', g, g', K1, K2, K3, K4, hb, K5, h1, K6, K7]
end
theorem H_of_limbs {r : Raw} (h1 : r.l1.length ≤ 8) (h2 : r.l2.length ≤ 8) (hr : RatV r.s r.l1 r.l2) : H r.q ≤ 17179869184 := by
  obtain ⟨_, e1, e2⟩ := hr
  have g1 : (lmb r.q.num.natAbs).length ≤ 8 := by
    have e : r.l1 = lmb r.q.num.natAbs := e1
    rw [← e]; exact h1
  have g2 : (lmb r.q.den).length ≤ 8 := by
    have e : r.l2 = dlmb r.q.den := e2
    by_cases hd : r.q.den = 1
    · rw [hd, lmb_one]; simp
    · rw [← dlmb_ne hd, ← e]; exact h2
  unfold H
  omega
attribute [local irreducible] run runL loopG exec law
theorem law_true {n : Nat} {bs ps : List Int} {d : TDecisionR} (hbs : ∀ x ∈ bs, 0 ≤ x ∧ x < 256) (hps : ∀ x ∈ ps, 0 ≤ x ∧ x < 256) (hn : Lim d.At.l1) (hd : Lim d.At.l2) : law (n + 6) [.sl 1 (bs.map intU8C), .sl 1 (ps.map intU8C), decisionRV d] = some (.lit (.bool true)) := by
  by_cases h : 300 < bs.length
  · exact law_f1 h
  by_cases g : 40 < ps.length
  · exact law_f2 h g
  have K1 := largeA_c (n := n + 6) (d := d)
  cases hl : lgP d with
  | false => exact law_f3 h g K1 (by rw [hl]; rfl)
  | true =>
    rw [hl] at K1
    have hs := of_decide_eq_true hl
    have hB : RawB d.At := ⟨hn, hd, by have := hs.1; omega, by have := hs.2; omega⟩
    obtain ⟨q, K2, hq⟩ := instance_c (n := n) ⟨by omega, hbs⟩ (by omega)
    obtain ⟨X, K3, hX, hb⟩ := inside_c (n := n + 6) (P := ps) hq.rg (by have := hq.gr.i1; have := hq.gr.i0; omega) (by omega) hps
    have K4 := fitsQ_c (n := n + 1) hq hB
    by_cases hf : FitsD q d
    · rw [tv_t hf] at K4
      have hH : H d.At.q ≤ 17179869184 := by
        rcases hf with h9 | h9
        · have e : d.At = rawQ 0 := h9.2.2.2
          rw [e]
          decide +kernel
        · exact H_of_limbs hs.1 hs.2 h9.2.2.2
      obtain ⟨b1, b2, K5, K7, hor⟩ := holds_either (n := n) (b := 14) (X := X) hq hB (by rw [hX]; have := hq.gr.i0; omega) hb hf hH
      cases b1 with
      | true => exact law_f5 h g K1 K2 K3 K4 rfl K5 rfl
      | false =>
        have := law_f6 h g K1 K2 K3 K4 rfl K5 rfl opp_c K7
        rw [this]
        rcases hor with h9 | h9
        · cases h9
        · rw [h9]
    · rw [tv_f hf] at K4
      exact law_f4 h g K1 K2 K3 K4 rfl
end Go.Proofs.YtjobiobdpnhooaaGreatDoor
