/- relucertref15.Pre; relucertref19.Inside; relucertref21.fits, Fits, Holds: what they return; a decision or its opposite holds. -/
import Derived.Test.YtjobiobdpnhooaaGreatDoorGd
import Derived.Test.YtjobiobdpnhooaaGreatDoorWk
import Derived.Test.YtjobiobdpnhooaaGreatDoorWl
import Derived.Test.YtjobiobdpnhooaaGreatDoorWm
set_option linter.all false
set_option linter.all false
set_option maxRecDepth 100000
set_option maxHeartbeats 6400000
namespace Go.Proofs.YtjobiobdpnhooaaGreatDoor
open Go.RowKit
attribute [local irreducible] run runL loopG exec

theorem pre_c {n : Nat} {g : TGraph} {X : List Rat} {a l b : Nat} (hG : OkGr g) (hB : BdG a g) (ha : a ≤ 1000000) (hl : ∀ f ∈ g.Units, f.1.length ≤ l) (hX : (X.length : Int) = g.Inputs) (hb : ∀ q ∈ X, H q ≤ b) (hbnd : bndV a l b (g.Units.length + 1) ≤ 100000000) :
    run (n + 5) 28 [graphV g, .sl 3 (X.map ratC)] = some (.tup [.sl 3 ((g.Units.map fun f => evV (valV g.Units X) f).map ratC), .lit (.int .i64 0)]) ∧ ∀ f ∈ g.Units, H (evV (valV g.Units X) f) ≤ bndV a l b (g.Units.length + 1) := by
  have h := forms_c (n := n) (L := g.Units) hG hB ha hl hX hb hbnd (by have := hG.u; omega) (fun f hf => ⟨hB.u f hf, hl f hf, fun t ht => by
    obtain ⟨i, hi⟩ := List.mem_iff_getElem?.1 hf
    have hlt := (List.getElem?_eq_some_iff.1 hi).1
    obtain ⟨j, hj⟩ := List.mem_iff_getElem?.1 ht
    have := hG.un i hlt f hi j (List.getElem?_eq_some_iff.1 hj).1 t.1 t.2 hj
    exact ⟨this.1, by omega⟩⟩)
  exact ⟨pr_f1 h.1, h.2⟩
theorem frac8_H {k : Int} (h0 : 0 ≤ k) (h1 : k ≤ 8) : H (fracQ k 8) ≤ 2 := by
  have hx : k = 0 ∨ k = 1 ∨ k = 2 ∨ k = 3 ∨ k = 4 ∨ k = 5 ∨ k = 6 ∨ k = 7 ∨ k = 8 := by omega
  rcases hx with rfl | rfl | rfl | rfl | rfl | rfl | rfl | rfl | rfl <;> decide +kernel
theorem inside_c {n I : Nat} {r : TRegion} {P : List Int} (h : RgOk I r) (hI : I ≤ 256) (hP : P.length ≤ 1000000) (hb : ∀ x ∈ P, 0 ≤ x ∧ x < 256) :
    ∃ X : List Rat, run n 8 [regionV r, .sl 1 (P.map intU8C)] = some (.sl 3 (X.map ratC)) ∧ X.length = I ∧ ∀ q ∈ X, H q ≤ 14 := by
  have hlo := h.lo
  have hhi := h.hi
  obtain ⟨X, hL, h1, h2⟩ := loopG_R (O := tab n) (P := Tryz.prog) (m := 0) (N := 55) (lives := livesOf 8) (r := 3) (C := is_C3) (exN := .exit 0) (M := r.Lo.length) (enc := fun i (o : List Rat) => is_h3 r P o i) (out := fun o => is_o3a o) (fun i o => o.length = i ∧ ∀ q ∈ o, H q ≤ 14) [] ⟨rfl, fun q hq => by cases hq⟩ (by omega) (by simp)
    (fun i o hi hI2 => by
      obtain ⟨i1, i2⟩ := hI2
      have hx : r.Lo[i]? = some r.Lo[i] := List.getElem?_eq_getElem hi
      generalize r.Lo[i] = x at hx
      have hy : r.Hi[i]? = some (r.Hi[i]'(by omega)) := List.getElem?_eq_getElem _
      generalize r.Hi[i]'(by omega) = y at hy
      have bx := h.lob x (List.mem_of_getElem? hx)
      have by_ := h.hib y (List.mem_of_getElem? hy)
      have hs : H (y - x) ≤ 8 := by
        have h5 := H_add y (-x)
        have e : H (-x) = H x := by unfold H; rw [neg_nm, neg_dn, Int.natAbs_neg]
        rw [Rat.sub_eq_add_neg]; omega
      have key : ∀ k : Int, 0 ≤ k → k ≤ 8 → H (fracQ k 8) ≤ 2 ∧ H (fracQ k 8 * (y - x)) ≤ 10 ∧ H (x + fracQ k 8 * (y - x)) ≤ 14 := fun k h0 h8 => by
        have h6 := frac8_H h0 h8
        have h7 := H_mul (fracQ k 8) (y - x)
        have h9 := H_add x (fracQ k 8 * (y - x))
        omega
      have fin : ∀ z, H z ≤ 14 → (o ++ [z]).length = i + 1 ∧ ∀ q ∈ o ++ [z], H q ≤ 14 := fun z hz => ⟨by rw [List.length_append, i1]; rfl, fun q hq => by
        rcases List.mem_append.1 hq with h | h
        · exact i2 q h
        · rw [List.mem_singleton.1 h]; exact hz⟩
      by_cases hp : i < P.length
      · have hz : P[i]? = some P[i] := List.getElem?_eq_getElem hp
        generalize P[i] = z at hz
        obtain ⟨z0, z1⟩ := hb z (List.mem_of_getElem? hz)
        have e : z.tmod 9 = z % 9 := Int.tmod_eq_emod_of_nonneg z0
        have hk : 0 ≤ z.tmod 9 ∧ z.tmod 9 ≤ 8 := by rw [e]; omega
        obtain ⟨k1, k2, k3⟩ := key _ hk.1 hk.2
        exact ⟨o ++ [x + fracQ (z.tmod 9) 8 * (y - x)], is_r3_1 (by omega) (by omega) hz ⟨by omega, by omega⟩ ⟨by omega, by omega⟩ hx hy (by omega) (by omega) (by omega) (by omega) (by omega) (by omega) ⟨by omega, by omega⟩, fin _ k3⟩
      · obtain ⟨k1, k2, k3⟩ := key 0 (by omega) (by omega)
        exact ⟨o ++ [x + fracQ 0 8 * (y - x)], is_r3_2 (by omega) (by omega) hx hy (by omega) (by omega) (by omega) (by omega) (by omega) (by omega) ⟨by omega, by omega⟩, fin _ k3⟩)
    (fun o hI2 => is_x3_1 (by omega))
  exact ⟨X, is_f1 hL, by omega, h2⟩
/-- a decision whose number may be of any form -/
def decisionRV (d : TDecisionR) : AV := .agg [.lit (.int .i64 d.Kind), .lit (.int .i64 d.Index), .lit (.bool d.At.s), natA d.At.l1, natA d.At.l2]
def FitsD (q : TQuery) (d : TDecisionR) : Prop :=
  ((d.Kind = 1 ∨ d.Kind = 2) ∧ 0 ≤ d.Index ∧ d.Index < (q.Graph.Units.length : Int) ∧ d.At = rawQ 0) ∨ ((d.Kind = 3 ∨ d.Kind = 4) ∧ 0 ≤ d.Index ∧ d.Index < q.Graph.Inputs ∧ RatV d.At.s d.At.l1 d.At.l2)
theorem fits_c {n : Nat} {q : TQuery} {d : TDecisionR} (hB : RawB d.At) : run n 26 [queryV q, decisionRV d] = some (.lit (.bool (tv (FitsD q d)))) := by
  have dec : ∀ {p : Prop} [Decidable p], (FitsD q d ↔ p) → tv (FitsD q d) = decide p := fun {p} _ h => by
    by_cases hp : p
    · rw [tv_t (h.2 hp), decide_eq_true hp]
    · rw [tv_f (fun h2 => hp (h.1 h2)), decide_eq_false hp]
  by_cases c1 : d.Kind = 1
  · by_cases c2 : 0 ≤ d.Index
    · by_cases c3 : d.Index < (q.Graph.Units.length : Int)
      · rw [dec (p := d.At = rawQ 0) ⟨fun h => by rcases h with h | h; exact h.2.2.2; omega, fun h => .inl ⟨.inl c1, c2, c3, h⟩⟩]
        exact fir_f1 c1 c2 c3 hB
      · rw [tv_f (fun h => by rcases h with h | h <;> omega)]; exact fir_f2 c1 c2 c3
    · rw [tv_f (fun h => by rcases h with h | h <;> omega)]; exact fir_f3 c1 c2
  by_cases c2 : d.Kind = 2
  · by_cases c3 : 0 ≤ d.Index
    · by_cases c4 : d.Index < (q.Graph.Units.length : Int)
      · rw [dec (p := d.At = rawQ 0) ⟨fun h => by rcases h with h | h; exact h.2.2.2; omega, fun h => .inl ⟨.inr c2, c3, c4, h⟩⟩]
        exact fir_f4 c1 c2 c3 c4 hB
      · rw [tv_f (fun h => by rcases h with h | h <;> omega)]; exact fir_f5 c1 c2 c3 c4
    · rw [tv_f (fun h => by rcases h with h | h <;> omega)]; exact fir_f6 c1 c2 c3
  by_cases c3 : d.Kind = 3
  · by_cases c4 : 0 ≤ d.Index
    · by_cases c5 : d.Index < q.Graph.Inputs
      · rw [dec (p := RatV d.At.s d.At.l1 d.At.l2) ⟨fun h => by rcases h with h | h; omega; exact h.2.2.2, fun h => .inr ⟨.inl c3, c4, c5, h⟩⟩]
        exact fir_f7 c1 c2 c3 c4 c5 hB
      · rw [tv_f (fun h => by rcases h with h | h <;> omega)]; exact fir_f8 c1 c2 c3 c4 c5
    · rw [tv_f (fun h => by rcases h with h | h <;> omega)]; exact fir_f9 c1 c2 c3 c4
  by_cases c4 : d.Kind = 4
  · by_cases c5 : 0 ≤ d.Index
    · by_cases c6 : d.Index < q.Graph.Inputs
      · rw [dec (p := RatV d.At.s d.At.l1 d.At.l2) ⟨fun h => by rcases h with h | h; omega; exact h.2.2.2, fun h => .inr ⟨.inr c4, c5, c6, h⟩⟩]
        exact fir_f10 c1 c2 c3 c4 c5 c6 hB
      · rw [tv_f (fun h => by rcases h with h | h <;> omega)]; exact fir_f11 c1 c2 c3 c4 c5 c6
    · rw [tv_f (fun h => by rcases h with h | h <;> omega)]; exact fir_f12 c1 c2 c3 c4 c5
  rw [tv_f (fun h => by rcases h with h | h <;> omega)]
  exact fir_f13 c1 c2 c3 c4
theorem fitsQ_c {n : Nat} {q : TQuery} {d : TDecisionR} (hq : QuOk q) (hB : RawB d.At) : run (n + 5) 9 [queryV q, decisionRV d] = some (.lit (.bool (tv (FitsD q d)))) :=
  ftr_f1 (validQ_small (n := n) hq) rfl (fits_c (n := n + 4) hB)
/-- the opposite -/
def oppD (d : TDecisionR) : TDecisionR := ⟨if d.Kind = 1 then 2 else if d.Kind = 2 then 1 else if d.Kind = 3 then 4 else if d.Kind = 4 then 3 else d.Kind, d.Index, d.At⟩
theorem ratV_raw {r : Raw} (h : RatV r.s r.l1 r.l2) : r = rawQ r.q := by
  obtain ⟨s, l1, l2⟩ := r
  obtain ⟨h1, h2, h3⟩ := h
  unfold rawQ Raw.q
  dsimp only at *
  rw [← h1, ← h2, ← h3]
theorem holds_either {n : Nat} {q : TQuery} {d : TDecisionR} {X : List Rat} {b : Nat} (hq : QuOk q) (hB : RawB d.At) (hX : (X.length : Int) = q.Graph.Inputs) (hb : ∀ x ∈ X, H x ≤ 14) (hd : FitsD q d) (hH : H d.At.q ≤ 17179869184) :
    ∃ b1 b2, run (n + 6) 10 [queryV q, decisionRV d, .sl 3 (X.map ratC)] = some (.lit (.bool b1)) ∧ run (n + 6) 10 [queryV q, decisionRV (oppD d), .sl 3 (X.map ratC)] = some (.lit (.bool b2)) ∧ (b1 = true ∨ b2 = true) := by
  have hop : FitsD q (oppD d) := by
    rcases hd with ⟨h1, h2, h3, h4⟩ | ⟨h1, h2, h3, h4⟩
    · refine .inl ⟨?_, h2, h3, h4⟩
      rcases h1 with h1 | h1 <;> simp [oppD, h1]
    · refine .inr ⟨?_, h2, h3, h4⟩
      rcases h1 with h1 | h1 <;> simp [oppD, h1]
  have F1 := fitsQ_c (n := n) hq hB
  have F2 := fitsQ_c (n := n) (d := oppD d) hq hB
  rw [tv_t hd] at F1
  rw [tv_t hop] at F2
  have hcan : d.At = rawQ d.At.q := by
    rcases hd with h | h
    · have e : (rawQ 0).q = 0 := rawQ_q 0
      have h4 := h.2.2.2
      rw [h4, e]
    · exact ratV_raw h.2.2.2
  generalize hqq : d.At.q = a at hcan hH
  obtain ⟨k, i, at'⟩ := d
  dsimp only at hcan
  subst hcan
  have sub : ∀ x : Rat, (0 ≤ sgR (x - a) ∨ sgR (x - a) ≤ 0) := fun x => by omega
  rcases hd with ⟨h1, h2, h3, h4⟩ | ⟨h1, h2, h3, h4⟩
  · have hg := hq.gr
    have g0 := hg.i0
    have g1 := hg.i1
    have gu := hg.u
    dsimp only at h1 h2 h3
    have hl : ∀ f ∈ q.Graph.Units, f.1.length ≤ 7 := fun f hf => by
      obtain ⟨j, hj⟩ := List.mem_iff_getElem?.1 hf
      have hlt := (List.getElem?_eq_some_iff.1 hj).1
      have := (hg.un j f hj).l.len
      omega
    have hbn : bndV 2 7 14 (q.Graph.Units.length + 1) ≤ 100000000 := Nat.le_trans (bndV_mono 2 7 14 (j := 5) (by omega)) (by decide)
    obtain ⟨P, hP⟩ := pre_c (n := n) (X := X) hg.ok hg.bd (by omega) hl hX hb hbn
    have hlt : i.toNat < q.Graph.Units.length := by omega
    have hx : (q.Graph.Units.map fun f => evV (valV q.Graph.Units X) f)[i.toNat]? = some (evV (valV q.Graph.Units X) q.Graph.Units[i.toNat]) := by
      rw [List.getElem?_map, List.getElem?_eq_getElem hlt]; rfl
    have hbx := hP _ (List.getElem_mem hlt)
    generalize evV (valV q.Graph.Units X) q.Graph.Units[i.toNat] = x at hx hbx
    rcases h1 with rfl | rfl
    · refine ⟨_, _, ho_f5 (a1 := ⟨1, i, a⟩) F1 rfl hX (by simp) (by simp) P rfl hx h2 (by omega), ho_f6 (a1 := ⟨2, i, a⟩) F2 rfl hX (by simp) (by simp) P (by simp) hx h2 (by omega), ?_⟩
      by_cases h5 : 0 ≤ sgR x
      · exact .inl (decide_eq_true h5)
      · exact .inr (decide_eq_true (by omega))
    · refine ⟨_, _, ho_f6 (a1 := ⟨2, i, a⟩) F1 rfl hX (by simp) (by simp) P (by simp) hx h2 (by omega), ho_f5 (a1 := ⟨1, i, a⟩) F2 rfl hX (by simp) (by simp) P rfl hx h2 (by omega), ?_⟩
      by_cases h5 : 0 ≤ sgR x
      · exact .inr (decide_eq_true h5)
      · exact .inl (decide_eq_true (by omega))
  · dsimp only at h1 h2 h3
    have hlt : i.toNat < X.length := by omega
    have hx : X[i.toNat]? = some X[i.toNat] := List.getElem?_eq_getElem hlt
    have hbx := hb _ (List.getElem_mem hlt)
    generalize X[i.toNat] = x at hx hbx
    rcases h1 with rfl | rfl
    · refine ⟨_, _, ho_f3 (a1 := ⟨3, i, a⟩) F1 rfl hX rfl hx h2 (by omega) hH, ho_f4 (a1 := ⟨4, i, a⟩) F2 rfl hX (by simp) rfl hx h2 (by omega) hH, ?_⟩
      dsimp only
      by_cases h5 : 0 ≤ sgR (x - a)
      · exact .inl (decide_eq_true h5)
      · exact .inr (decide_eq_true (by omega))
    · refine ⟨_, _, ho_f4 (a1 := ⟨4, i, a⟩) F1 rfl hX (by simp) rfl hx h2 (by omega) hH, ho_f3 (a1 := ⟨3, i, a⟩) F2 rfl hX rfl hx h2 (by omega) hH, ?_⟩
      dsimp only
      by_cases h5 : 0 ≤ sgR (x - a)
      · exact .inr (decide_eq_true h5)
      · exact .inl (decide_eq_true (by omega))
/-- a new feed -/
theorem new_c {n : Nat} {bs : List Int} (hl : bs.length ≤ 1000000) : runL n 21 [.sl 1 (bs.map intU8C)] [] = some (.ptr 2 0, [(2, fdB bs 0)]) := by
  unfold runL fnL fdB
  have hr : ∀ b, b ≤ 10000 → roomy bs.length b = true := fun b hb => roomy_s (by omega) hb
  simp +decide [Tryz.f21, hr]
theorem instance_c {n : Nat} {bs : List Int} (hb : Byt bs) (hl : bs.length ≤ 1000000) : ∃ q : TQuery, run (n + 6) 7 [.sl 1 (bs.map intU8C)] = some (queryV q) ∧ QuOk q := by
  obtain ⟨q, k', h1, h2, _⟩ := query_c (n := n) hb (Nat.zero_le bs.length)
  exact ⟨q, it_f1 (r := ⟨bs, 0⟩) (r2 := q) (new_c (n := n + 5) hl) h1, h2⟩
end Go.Proofs.YtjobiobdpnhooaaGreatDoor
