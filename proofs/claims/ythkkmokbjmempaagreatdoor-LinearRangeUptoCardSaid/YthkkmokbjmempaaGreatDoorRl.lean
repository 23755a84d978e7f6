/- relucertlaw07.LinearRange returns true. -/
import Derived.Test.YthkkmokbjmempaaGreatDoorRg
import Derived.Test.YthkkmokbjmempaaGreatDoorZs
set_option linter.all false
set_option linter.all false
set_option maxRecDepth 100000
set_option maxHeartbeats 6400000
namespace Go.Proofs.YthkkmokbjmempaaGreatDoor
open Go.RowKit
theorem lRR_f1 {n : Nat} {a0 : FormR} {a1 : List TIntervalR} {r : Bool} (K1 : run (n + 12) 17 [.agg [.sl 4 (a0.1.map termRC), .lit (.bool a0.2.s), natA a0.2.l1, natA a0.2.l2]] = some (.lit (.bool r))) (C2 : r = false) :
    lRC n [.agg [.sl 4 (a0.1.map termRC), .lit (.bool a0.2.s), natA a0.2.l1, natA a0.2.l2], .sl 6 (a1.map intervalRC)] = some (.lit (.bool true)) := by
  unfold lRC fnP
  simp +decide [Tryz.f9, K1, C2, lRC_aw, awG, lRC_l17]
theorem lRR_f2 {n : Nat} {a0 : FormR} {a1 : List TIntervalR} {r r2 : Bool} (K1 : run (n + 12) 17 [.agg [.sl 4 (a0.1.map termRC), .lit (.bool a0.2.s), natA a0.2.l1, natA a0.2.l2]] = some (.lit (.bool r))) (C2 : r = true) (K3 : run (n + 12) 40 [.sl 6 (a1.map intervalRC)] = some (.lit (.bool r2))) (C4 : r2 = false) :
    lRC n [.agg [.sl 4 (a0.1.map termRC), .lit (.bool a0.2.s), natA a0.2.l1, natA a0.2.l2], .sl 6 (a1.map intervalRC)] = some (.lit (.bool true)) := by
  unfold lRC fnP
  simp +decide [Tryz.f9, K1, C2, K3, C4, lRC_aw, awG, lRC_l17, lRC_l40]
attribute [local irreducible] run runL loopG exec lRC

theorem innerR {n : Nat} {F : Form} {B : List TInterval} {d d2 : Bool} {c : Nat} {r3 : TInterval} (hB : B.length ≤ 5) (hc : c < 32) :
    loopG Tryz.prog (lRCT n) 0 134 (livesOf 9) 17 lRC_C17 (lRC_h17 F B d d2 c [] 0 r3) = some (.exit 2, lRC_o17a F B d d2 c (crn B c B.length) r3) := by
  obtain ⟨b, hL, hI⟩ := loopG_R (O := lRCT n) (P := Tryz.prog) (m := 0) (N := 134) (lives := livesOf 9) (r := 17) (C := lRC_C17) (exN := .exit 2) (M := B.length) (enc := fun i (out : List Rat) => lRC_h17 F B d d2 c out i r3) (out := fun out => lRC_o17a F B d d2 c out r3)
    (fun i out => out = crn B c i) [] rfl (by omega) (fun h => by cases h)
    (fun i out hi hI => by
      subst hI
      obtain ⟨x, hx⟩ : ∃ x, B[i]? = some x := ⟨_, List.getElem?_eq_getElem hi⟩
      have e : crn B c (i + 1) = crn B c i ++ [pk B i (c.testBit i)] := by
        unfold crn
        rw [List.range_succ, List.map_append]
        rfl
      have hb := bit_of c hc i (by omega)
      refine ⟨_, ?_, rfl⟩
      rw [e, pk_at hx]
      cases ht : c.testBit i with
      | true =>
        rw [ht, if_pos rfl] at hb
        rw [if_pos rfl]
        exact lRC_r17_2 (by omega) (by rw [hb]; omega) hx (by rw [crn_len]; omega) ⟨by omega, by omega⟩
      | false =>
        rw [ht, if_neg (by simp)] at hb
        rw [if_neg (by simp)]
        exact lRC_r17_1 (by omega) hb hx (by rw [crn_len]; omega) ⟨by omega, by omega⟩)
    (fun out hI => lRC_x17_1 (by omega))
  subst hI
  exact hL
theorem lr_law {f : FormR} {xs : List TIntervalR} (hf : LimF f) (hN : xs.length ≤ 4000000) (hx : ∀ r ∈ xs, LimR2 r.Lo ∧ LimR2 r.Hi) : Con Tryz.prog 9 [frV f, .sl 6 (xs.map intervalRC)] (.lit (.bool true)) := by
  rcases small_or 11 hf with h | ⟨h, F, e, hF⟩
  · exact lRC_con (n := 0) (lRR_f1 h rfl)
  rcases boxed_or 11 hN hx with p | ⟨p, B, eB, hB⟩
  · exact lRC_con (n := 0) (lRR_f2 h rfl p rfl)
  rw [e] at h ⊢
  rw [eB] at p ⊢
  have lF := hF.l
  have sF := hF.ok.srt.1
  have lB := hB.l
  obtain ⟨A, AB⟩ := lrg_c (n := 12) hF.t hF.l hF.k hB
  have D := frg_c (n := 11) hF.t hF.l hF.k hB
  unfold rgV at A D
  by_cases i1 : InR B.length F.1
  · rw [tv_t i1, if_pos rfl] at A D
    obtain ⟨b1, b2⟩ := AB i1
    by_cases h5 : 5 < B.length
    · exact lRC_con (n := 0) (lRC_f7 (r3 := ⟨F.2 + rgS B true F.1, F.2 + rgS B false F.1⟩) (r5 := ⟨F.2 + rgS B true F.1, F.2 + rgS B false F.1⟩) h rfl p rfl A D rfl (by dsimp only; omega) (by dsimp only; omega) rfl (by dsimp only; omega) (by dsimp only; omega) rfl rfl (by omega))
    have hp : 2 ^ B.length ≤ 32 := by
      have : (2 : Nat) ^ B.length ≤ 2 ^ 5 := Nat.pow_le_pow_right (by omega) (by omega)
      omega
    have hs := shl_one B.length (by omega)
    have val : ∀ c, c < 32 → run (0 + 12) 28 [formV F, .sl 3 ((crn B c B.length).map ratC)] = some (.tup [ratV (F.2 + evS (crn B c B.length) F.1), .lit (.int .i64 0)]) ∧ H (F.2 + evS (crn B c B.length) F.1) ≤ 50 := fun c hc => by
      have hb : ∀ q ∈ crn B c B.length, H q ≤ 2 := fun q hq => by
        unfold crn at hq
        obtain ⟨i, hi, rfl⟩ := List.mem_map.1 hq
        exact pk_H hB i _ (List.mem_range.1 hi)
      have E := eval_c (n := 0 + 12) (f := F) (X := crn B c B.length) (a := 2) (b := 2) (k := 2) hF.t hb hF.k (by rw [crn_len]; omega) (by omega) (by omega) (by omega)
      have i2 : InR (crn B c B.length).length F.1 := by rw [crn_len]; exact i1
      obtain ⟨r1, o1⟩ := evR_in i2
      rw [r1] at E
      have := E.2 _ o1
      exact ⟨E.1, by omega⟩
    obtain ⟨s, hL, hI⟩ := loopG_R (O := lRCT 0) (P := Tryz.prog) (m := 0) (N := 134) (lives := livesOf 9) (r := 13) (C := lRC_C13) (exN := .exit 0) (M := 2 ^ B.length) (enc := fun i (s : Bool × Bool) => lRC_h13 F B s.1 s.2 i ⟨F.2 + rgS B true F.1, F.2 + rgS B false F.1⟩) (out := fun s => lRC_o13b s.1 s.2)
      (fun i s => (s.1 = true ↔ ∃ c, c < i ∧ evS (crn B c B.length) F.1 = rgS B true F.1) ∧ (s.2 = true ↔ ∃ c, c < i ∧ evS (crn B c B.length) F.1 = rgS B false F.1)) (false, false) ⟨⟨fun h9 => (by cases h9), fun ⟨c, hc, _⟩ => (by omega)⟩, ⟨fun h9 => (by cases h9), fun ⟨c, hc, _⟩ => (by omega)⟩⟩ (by omega) (fun h => by cases h)
      (fun i s hi hI => by
        obtain ⟨d, d2⟩ := s
        obtain ⟨j1, j2⟩ := hI
        dsimp only at j1 j2
        obtain ⟨v1, v2⟩ := val i (by omega)
        obtain ⟨c1, c2⟩ := crn_in hB i i1
        have IN := innerR (n := 0) (F := F) (B := B) (d := d) (d2 := d2) (c := i) (r3 := ⟨F.2 + rgS B true F.1, F.2 + rgS B false F.1⟩) (by omega) (by omega)
        have C1 : (i : Int) < shlI 1 (B.length : Int) := by rw [hs]; omega
        have W : InI ((i : Int) + 1) := ⟨by omega, by omega⟩
        have g1 : ¬ sgR (F.2 + evS (crn B i B.length) F.1 - (F.2 + rgS B true F.1)) < 0 := by
          have := (@sgq_nonneg (F.2 + evS (crn B i B.length) F.1 - (F.2 + rgS B true F.1))).2 (by grind)
          omega
        have g2 : ¬ 0 < sgR (F.2 + evS (crn B i B.length) F.1 - (F.2 + rgS B false F.1)) := by
          have := (@sgq_nonpos (F.2 + evS (crn B i B.length) F.1 - (F.2 + rgS B false F.1))).2 (by grind)
          omega
        have step : ∀ {lo : Bool} {b : Bool}, (b = true ↔ ∃ c, c < i ∧ evS (crn B c B.length) F.1 = rgS B lo F.1) → (b = true → (true = true ↔ ∃ c, c < i + 1 ∧ evS (crn B c B.length) F.1 = rgS B lo F.1)) ∧ (b = false → (decide (F.2 + evS (crn B i B.length) F.1 = F.2 + rgS B lo F.1) = true ↔ ∃ c, c < i + 1 ∧ evS (crn B c B.length) F.1 = rgS B lo F.1)) := fun {lo b} hb => by
          refine ⟨fun hb1 => ⟨fun _ => ?_, fun _ => rfl⟩, fun hb1 => ?_⟩
          · obtain ⟨c, h1, h2⟩ := hb.1 hb1
            exact ⟨c, by omega, h2⟩
          · rw [decide_eq_true_iff]
            constructor
            · intro h1
              exact ⟨i, by omega, by grind⟩
            · rintro ⟨c, h1, h2⟩
              rcases Nat.lt_succ_iff_lt_or_eq.1 h1 with h3 | rfl
              · have := hb.2 ⟨c, h3, h2⟩
                rw [hb1] at this; cases this
              · rw [h2]
        cases d with
        | true =>
          cases d2 with
          | true => exact ⟨(true, true), lRC_r13_1 C1 IN v1 (by omega) (by dsimp only; omega) g1 (by dsimp only; omega) g2 rfl rfl W, (step j1).1 rfl, (step j2).1 rfl⟩
          | false => exact ⟨(true, _), lRC_r13_2 C1 IN v1 (by omega) (by dsimp only; omega) g1 (by dsimp only; omega) g2 rfl rfl W, (step j1).1 rfl, (step j2).2 rfl⟩
        | false =>
          cases d2 with
          | true => exact ⟨(_, true), lRC_r13_3 C1 IN v1 (by omega) (by dsimp only; omega) g1 (by dsimp only; omega) g2 rfl rfl W, (step j1).2 rfl, (step j2).1 rfl⟩
          | false => exact ⟨(_, _), lRC_r13_4 C1 IN v1 (by omega) (by dsimp only; omega) g1 (by dsimp only; omega) g2 rfl rfl W, (step j1).2 rfl, (step j2).2 rfl⟩)
      (fun s hI => lRC_x13_3 (by rw [hs]; omega))
    obtain ⟨d, d2⟩ := s
    obtain ⟨j1, j2⟩ := hI
    dsimp only at j1 j2 hL
    have k1 : d = true := j1.2 (crn_at sF i1 true)
    have k2 : d2 = true := j2.2 (crn_at sF i1 false)
    subst k1 k2
    exact lRC_con (n := 0) (lRC_f9 (r3 := ⟨F.2 + rgS B true F.1, F.2 + rgS B false F.1⟩) (r5 := ⟨F.2 + rgS B true F.1, F.2 + rgS B false F.1⟩) h rfl p rfl A D rfl (by dsimp only; omega) (by dsimp only; omega) rfl (by dsimp only; omega) (by dsimp only; omega) rfl rfl (by omega) hL rfl)
  · rw [tv_f i1, if_neg (by simp)] at A D
    have z : AV.tup [.agg [.lit (.bool false), .sl 1 [], .sl 1 [], .lit (.bool false), .sl 1 [], .sl 1 []], .lit (.int .i64 2)] = .tup [.agg [.lit (.bool (rawQ 0).s), natA (rawQ 0).l1, natA (rawQ 0).l2, .lit (.bool (rawQ 0).s), natA (rawQ 0).l1, natA (rawQ 0).l2], .lit (.int .i64 2)] := by simp
    rw [z] at A D
    have h0 := H_zero
    exact lRC_con (n := 0) (lRC_f6 (r3 := ⟨0, 0⟩) (r5 := ⟨0, 0⟩) h rfl p rfl A D rfl (by dsimp only; omega) (by dsimp only; omega) rfl (by dsimp only; omega) (by dsimp only; omega) rfl (by omega))
end Go.Proofs.YthkkmokbjmempaaGreatDoor
