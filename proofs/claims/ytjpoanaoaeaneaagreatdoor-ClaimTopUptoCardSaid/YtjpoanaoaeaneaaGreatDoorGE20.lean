import Derived.Test.YtjpoanaoaeaneaaGreatDoorGE19
import Derived.Test.YtjpoanaoaeaneaaGreatDoorGE16
import Derived.Test.YtjpoanaoaeaneaaGreatDoorGE17
import Derived.Test.YtjpoanaoaeaneaaGreatDoorGE18
set_option linter.all false
set_option maxRecDepth 100000
set_option maxHeartbeats 6400000
namespace Go.Proofs.YtjpoanaoaeaneaaGreatDoor
open Go.RowKit
attribute [local irreducible] run runL loopG exec
def frV (f : FormR) : AV := .agg [.sl 4 (f.1.map termRC), .lit (.bool f.2.s), natA f.2.l1, natA f.2.l2]
def LimR2 (r : Raw) : Prop := Lim r.l1 ∧ Lim r.l2
structure LimF (f : FormR) : Prop where
  t : ∀ t ∈ f.1, LimR2 t.2
  k : LimR2 f.2
def Two (r : Raw) : Prop := r.l1.length ≤ 2 ∧ r.l2.length ≤ 2
def FewR (l : List (Int × Raw)) (c : Raw) : Prop := l.length ≤ 8 ∧ Two c ∧ ∀ t ∈ l, Two t.2
theorem Two.rb {r : Raw} (h : Two r) (hl : LimR2 r) : RawB r := ⟨hl.1, hl.2, by have := h.1; omega, by have := h.2; omega⟩
def Cn (r : Raw) : Prop := RatV r.s r.l1 r.l2
theorem Cn.raw {r : Raw} (h : Cn r) : r = rawQ r.q := by
  obtain ⟨s, l1, l2⟩ := r
  obtain ⟨h1, h2, h3⟩ := h
  dsimp only at h1 h2 h3
  unfold Raw.q rawQ
  dsimp only
  rw [← h1, ← h2, ← h3]
theorem dlmb_H (d : Nat) : (lmb d).length ≤ max 1 (dlmb d).length := by
  unfold dlmb
  split
  · rename_i h; subst h; rw [lmb_one]; simp
  · exact Nat.le_max_right _ _
theorem Cn.HB {r : Raw} {m : Nat} (h : Cn r) (hm : 1 ≤ m) (h1 : r.l1.length ≤ m) (h2 : r.l2.length ≤ m) : H r.q ≤ m := by
  have e := h.raw
  have a1 : (lmb r.q.num.natAbs).length ≤ m := by have := congrArg Raw.l1 e; rw [this] at h1; exact h1
  have a2 : (dlmb r.q.den).length ≤ m := by have := congrArg Raw.l2 e; rw [this] at h2; exact h2
  have a3 := dlmb_H r.q.den
  unfold Go.Proofs.YtjpoanaoaeaneaaGreatDoor.H
  omega
theorem Cn.H {r : Raw} (h : Cn r) (ht : Two r) : H r.q ≤ 2 := h.HB (by omega) ht.1 ht.2
def OkTmR (F : List (Int × Raw)) (vars : Int) (i : Nat) : Prop := ∀ v c, F[i]? = some (v, c) → 0 ≤ v ∧ v < vars ∧ c.q ≠ 0 ∧ Cn c ∧ ∀ v' c', 0 < i → F[i - 1]? = some (v', c') → v' < v
def OkFR (f : FormR) (vars : Int) : Prop := (∀ i, i < f.1.length → OkTmR f.1 vars i) ∧ Cn f.2
theorem validRB_c {n : Nat} {f : FormR} {vars : Int} (h8 : f.1.length ≤ 100000) (hrbs : ∀ t ∈ f.1, RawB t.2) (hkb : RawB f.2) : run n 17 [frV f, .lit (.int .i64 vars)] = some (.lit (.bool (tv (OkFR f vars)))) := by
  have L := loopG_all (O := tab n) (P := Tryz.prog) (m := 0) (N := 59) (lives := livesOf 17) (r := 2) (C := vaR_C2) (M := f.1.length) (enc := vaR_h2 f vars) (p := fun i => tv (OkTmR f.1 vars i)) (exN := .exit 0) (exE := .ret) (out := vaR_o2b f) (outE := vaR_o2a f) (by omega) (fun h => by cases h) (fun h => by cases h)
    (fun i hi _ => by
      have hx : f.1[i]? = some f.1[i] := List.getElem?_eq_getElem hi
      obtain ⟨t, ht⟩ : ∃ t, f.1[i] = t := ⟨_, rfl⟩
      rw [ht] at hx
      obtain ⟨v, r⟩ := t
      have hm : (v, r) ∈ f.1 := List.mem_of_getElem? hx
      have hrb : RawB r := hrbs _ hm
      have C1 : (i : Int) < (f.1.length : Int) := by omega
      have hp : 0 < i → ∃ v' r', f.1[i - 1]? = some (v', r') := fun h0 => ⟨(f.1[i - 1]'(by omega)).1, (f.1[i - 1]'(by omega)).2, List.getElem?_eq_getElem _⟩
      refine ⟨fun hp' => ?_, fun hp' => ?_⟩
      · obtain ⟨a1, a2, a3, a4, a5⟩ := tv_true hp' v r hx
        have s0 : ¬ sgR r.q = 0 := fun h => a3 (sgR_eq_zero.1 h)
        by_cases h0 : 0 < i
        · obtain ⟨v', r', hx'⟩ := hp h0
          have := a5 v' r' h0 hx'
          exact vaR_r2_1 C1 hx (by omega) (by omega) (by omega) ⟨by omega, by omega⟩ hx' (by omega) (by omega) hrb s0 a4 ⟨by omega, by omega⟩
        · exact vaR_r2_2 C1 hx (by omega) (by omega) (by omega) hrb s0 a4 ⟨by omega, by omega⟩
      · have hq := tv_false hp'
        by_cases b1 : v < 0
        · exact vaR_x2_1 C1 hx b1
        by_cases b2 : vars ≤ v
        · exact vaR_x2_2 C1 hx b1 b2
        by_cases h0 : 0 < i
        · obtain ⟨v', r', hx'⟩ := hp h0
          by_cases b3 : v ≤ v'
          · exact vaR_x2_3 C1 hx b1 b2 (by omega) ⟨by omega, by omega⟩ hx' (by omega) b3
          by_cases b4 : sgR r.q = 0
          · exact vaR_x2_4 C1 hx b1 b2 (by omega) ⟨by omega, by omega⟩ hx' (by omega) b3 hrb b4
          refine vaR_x2_5 C1 hx b1 b2 (by omega) ⟨by omega, by omega⟩ hx' (by omega) b3 hrb b4 fun b5 => hq fun v2 c2 h2 => ?_
          rw [hx] at h2; cases h2
          refine ⟨by omega, by omega, fun h => b4 (sgR_eq_zero.2 h), b5, fun v3 c3 _ h3 => ?_⟩
          rw [hx'] at h3; cases h3
          omega
        · by_cases b4 : sgR r.q = 0
          · exact vaR_x2_6 C1 hx b1 b2 (by omega) hrb b4
          refine vaR_x2_7 C1 hx b1 b2 (by omega) hrb b4 fun b5 => hq fun v2 c2 h2 => ?_
          rw [hx] at h2; cases h2
          exact ⟨by omega, by omega, fun h => b4 (sgR_eq_zero.2 h), b5, fun v3 c3 h9 h3 => absurd h9 h0⟩)
    (vaR_x2_8 (by omega))
  by_cases hA : ∀ i, i < f.1.length → tv (OkTmR f.1 vars i) = true
  · rw [if_pos hA] at L
    have h := vaR_f2 L hkb
    have e : decide (RatV f.2.s f.2.l1 f.2.l2) = tv (OkFR f vars) := by
      by_cases hk : Cn f.2
      · rw [tv_t ⟨fun i hi => tv_true (hA i hi), hk⟩]; exact decide_eq_true hk
      · rw [tv_f fun h => hk h.2]; exact decide_eq_false hk
    rw [e] at h
    exact h
  · rw [if_neg hA] at L
    rw [tv_f fun h => hA fun i hi => tv_t (h.1 i hi)]
    exact vaR_f1 L
theorem validR_c {n : Nat} {f : FormR} {vars : Int} (hl : LimF f) (hf : FewR f.1 f.2) : run n 17 [frV f, .lit (.int .i64 vars)] = some (.lit (.bool (tv (OkFR f vars)))) :=
  validRB_c (by have := hf.1; omega) (fun t ht => (hf.2.2 t ht).rb (hl.t t ht)) (hf.2.1.rb hl.k)
def unR (f : FormR) : Form := (f.1.map fun t => (t.1, t.2.q), f.2.q)
theorem small_formB {f : FormR} {vars : Int} {m : Nat} (hm : 1 ≤ m) (ht : ∀ t ∈ f.1, t.2.l1.length ≤ m ∧ t.2.l2.length ≤ m) (hk : f.2.l1.length ≤ m ∧ f.2.l2.length ≤ m) (ho : OkFR f vars) : frV f = formV (unR f) ∧ (unR f).1.length = f.1.length ∧ (∀ t ∈ (unR f).1, H t.2 ≤ m) ∧ H (unR f).2 ≤ m ∧ OkFm (unR f) vars := by
  have hc : ∀ t ∈ f.1, Cn t.2 := fun t ht => by
    obtain ⟨i, hi⟩ := List.mem_iff_getElem?.1 ht
    exact (ho.1 i (List.getElem?_eq_some_iff.1 hi).1 t.1 t.2 hi).2.2.2.1
  refine ⟨?_, by simp [unR], fun t h9 => ?_, ho.2.HB hm hk.1 hk.2, fun i hi v c h => ?_⟩
  · have e1 : f.1.map termRC = (unR f).1.map termC := by
      simp only [unR, List.map_map]
      apply List.map_congr_left
      intro t ht
      have e := (hc t ht).raw
      simp only [Function.comp, termRC, termC, ratC]
      rw [← e]
    have e2 := ho.2.raw
    unfold frV
    simp only [formV, e1]
    have e3 : rawQ (unR f).2 = f.2 := e2.symm
    rw [e3]
  · simp only [unR, List.mem_map] at h9
    obtain ⟨u, hu, rfl⟩ := h9
    exact (hc u hu).HB hm (ht u hu).1 (ht u hu).2
  · simp only [unR, List.length_map] at hi
    simp only [unR, List.getElem?_map] at h
    obtain ⟨u, hu, he⟩ := Option.map_eq_some_iff.1 h
    cases he
    obtain ⟨a1, a2, a3, _, a5⟩ := ho.1 i hi u.1 u.2 hu
    refine ⟨a1, a2, a3, fun v' c' h0 h' => ?_⟩
    simp only [unR, List.getElem?_map] at h'
    obtain ⟨u', hu', he'⟩ := Option.map_eq_some_iff.1 h'
    cases he'
    exact a5 u'.1 u'.2 h0 hu'
end Go.Proofs.YtjpoanaoaeaneaaGreatDoor
set_option linter.all false
set_option maxRecDepth 100000
set_option maxHeartbeats 6400000
namespace Go.Proofs.YtjpoanaoaeaneaaGreatDoor
open Go.RowKit
noncomputable def lvaR_C2 : Code := (loopsOf (bodyOf Tryz.f34)).getD 0 .skip
def lvaR_h2 (a0 : FormR) (a1 : Int) (i_2 : Nat) : St :=
  ⟨[(1, .lit (.int .i64 a1)), (2, .ptr 0 0), (8, .sl 4 (a0.1.map termRC)), (9, .lit (.int .i64 (a0.1.length : Int))), (10, .lit (.int .i64 (i_2 : Int)))],
   [(0, some (.box 28 [.sl 4 (a0.1.map termRC), .lit (.bool a0.2.s), natA a0.2.l1, natA a0.2.l2] false))], 1⟩
def lvaR_o2a (a0 : FormR) : St :=
  ⟨[(2, .ptr 0 0), (4, .lit (.bool false))],
   [(0, some (.box 28 [.sl 4 (a0.1.map termRC), .lit (.bool a0.2.s), natA a0.2.l1, natA a0.2.l2] false))], 1⟩
def lvaR_o2b (a0 : FormR) : St :=
  ⟨[(2, .ptr 0 0), (4, .any)],
   [(0, some (.box 28 [.sl 4 (a0.1.map termRC), .lit (.bool a0.2.s), natA a0.2.l1, natA a0.2.l2] false))], 1⟩
section
variable {a0 : FormR} {v5 : Int} {a1 : Int} {n : Nat} {r4 : Raw} {v4 : Int} {i_2 : Nat} {r5 : Raw}
theorem lvaR_r2_1 (C1 : (i_2 : Int) < (a0.1.length : Int)) (E2 : a0.1[i_2]? = some (v4, r4)) (C3 : ¬ v4 < 0) (C4 : ¬ a1 ≤ v4) (C5 : 0 < (i_2 : Int)) (W6 : InI ((i_2 : Int) - 1)) (E7 : a0.1[i_2 - 1]? = some (v5, r5)) (Z7 : 1 ≤ i_2) (C8 : ¬ v4 ≤ v5) (B9a : RawB r4) (C10 : ¬ sgR r4.q = 0) (C12 : RatV r4.s r4.l1 r4.l2) (W13 : InI ((i_2 : Int) + 1)) :
    Cont 0 (exec Tryz.prog (tab n) 0 56 (livesOf 34) big lvaR_C2) (livesOf 34 2) (lvaR_h2 a0 a1 i_2) (lvaR_h2 a0 a1 (i_2 + 1)) := by
  have C1_ : i_2 < a0.1.length := by omega
  obtain ⟨EL2, EG2⟩ := List.getElem?_eq_some_iff.1 E2
  have C5_ : 0 < i_2 := by omega
  have C5_z : (i_2 : Int) ≠ 0 := by omega
  have C5_e : ((i_2 : Int) == 0) = false := by simpa using C5_z
  have C5_g : ((i_2 : Int) != 0) = true := by simpa using C5_z
  have W6_ : IntKind.i64.wrap ((i_2 : Int) - 1) = (i_2 : Int) - 1 := wr64 W6.1 W6.2
  obtain ⟨EL7, EG7⟩ := List.getElem?_eq_some_iff.1 E7
  have Z7_0 : (1 : Int) ≤ (i_2 : Int) := by omega
  have Z7_1 : 0 ≤ (i_2 : Int) - 1 := by omega
  have K9 := rr_sign B9a
  have C10_ : (sgR r4.q == 0) = false := by simpa using C10
  have C10_n : (sgR r4.q != 0) = true := by simpa using C10
  have K11 := rr_valid B9a
  have W13_ : IntKind.i64.wrap ((i_2 : Int) + 1) = (i_2 : Int) + 1 := wr64 W13.1 W13.2
  unfold Cont
  simp +decide [lvaR_h2, loopsOf, Tryz.f34, lvaR_C2, C1, C1_, EL2, EG2, E2, C3, C4, C5, C5_, C5_e, C5_g, W6_, EL7, EG7, E7, Z7, Z7_0, Z7_1, C8, K9, C10_, C10_n, K11, C12, W13_]
theorem lvaR_r2_2 (C1 : (i_2 : Int) < (a0.1.length : Int)) (E2 : a0.1[i_2]? = some (v4, r4)) (C3 : ¬ v4 < 0) (C4 : ¬ a1 ≤ v4) (C5 : ¬ 0 < (i_2 : Int)) (B6a : RawB r4) (C7 : ¬ sgR r4.q = 0) (C9 : RatV r4.s r4.l1 r4.l2) (W10 : InI ((i_2 : Int) + 1)) :
    Cont 0 (exec Tryz.prog (tab n) 0 56 (livesOf 34) big lvaR_C2) (livesOf 34 2) (lvaR_h2 a0 a1 i_2) (lvaR_h2 a0 a1 (i_2 + 1)) := by
  have C1_ : i_2 < a0.1.length := by omega
  obtain ⟨EL2, EG2⟩ := List.getElem?_eq_some_iff.1 E2
  have C5_ : ¬ 0 < i_2 := by omega
  have C5_z : (i_2 : Int) = 0 := by omega
  have C5_e : ((i_2 : Int) == 0) = true := by rw [C5_z]; simp
  have C5_g : ((i_2 : Int) != 0) = false := by rw [C5_z]; simp
  have K6 := rr_sign B6a
  have C7_ : (sgR r4.q == 0) = false := by simpa using C7
  have C7_n : (sgR r4.q != 0) = true := by simpa using C7
  have K8 := rr_valid B6a
  have W10_ : IntKind.i64.wrap ((i_2 : Int) + 1) = (i_2 : Int) + 1 := wr64 W10.1 W10.2
  unfold Cont
  simp +decide [lvaR_h2, loopsOf, Tryz.f34, lvaR_C2, C1, C1_, EL2, EG2, E2, C3, C4, C5, C5_, C5_e, C5_g, K6, C7_, C7_n, K8, C9, W10_]
theorem lvaR_x2_1 (C1 : (i_2 : Int) < (a0.1.length : Int)) (E2 : a0.1[i_2]? = some (v4, r4)) (C3 : v4 < 0) :
    Leave 0 (exec Tryz.prog (tab n) 0 56 (livesOf 34) big lvaR_C2) (livesOf 34 (outOf 2)) (lvaR_h2 a0 a1 i_2) (.ret) (lvaR_o2a a0) := by
  have C1_ : i_2 < a0.1.length := by omega
  obtain ⟨EL2, EG2⟩ := List.getElem?_eq_some_iff.1 E2
  unfold Leave
  simp +decide [lvaR_h2, loopsOf, Tryz.f34, lvaR_o2a, lvaR_C2, C1, C1_, EL2, EG2, E2, C3]
theorem lvaR_x2_2 (C1 : (i_2 : Int) < (a0.1.length : Int)) (E2 : a0.1[i_2]? = some (v4, r4)) (C3 : ¬ v4 < 0) (C4 : a1 ≤ v4) :
    Leave 0 (exec Tryz.prog (tab n) 0 56 (livesOf 34) big lvaR_C2) (livesOf 34 (outOf 2)) (lvaR_h2 a0 a1 i_2) (.ret) (lvaR_o2a a0) := by
  have C1_ : i_2 < a0.1.length := by omega
  obtain ⟨EL2, EG2⟩ := List.getElem?_eq_some_iff.1 E2
  unfold Leave
  simp +decide [lvaR_h2, loopsOf, Tryz.f34, lvaR_o2a, lvaR_C2, C1, C1_, EL2, EG2, E2, C3, C4]
theorem lvaR_x2_3 (C1 : (i_2 : Int) < (a0.1.length : Int)) (E2 : a0.1[i_2]? = some (v4, r4)) (C3 : ¬ v4 < 0) (C4 : ¬ a1 ≤ v4) (C5 : 0 < (i_2 : Int)) (W6 : InI ((i_2 : Int) - 1)) (E7 : a0.1[i_2 - 1]? = some (v5, r5)) (Z7 : 1 ≤ i_2) (C8 : v4 ≤ v5) :
    Leave 0 (exec Tryz.prog (tab n) 0 56 (livesOf 34) big lvaR_C2) (livesOf 34 (outOf 2)) (lvaR_h2 a0 a1 i_2) (.ret) (lvaR_o2a a0) := by
  have C1_ : i_2 < a0.1.length := by omega
  obtain ⟨EL2, EG2⟩ := List.getElem?_eq_some_iff.1 E2
  have C5_ : 0 < i_2 := by omega
  have C5_z : (i_2 : Int) ≠ 0 := by omega
  have C5_e : ((i_2 : Int) == 0) = false := by simpa using C5_z
  have C5_g : ((i_2 : Int) != 0) = true := by simpa using C5_z
  have W6_ : IntKind.i64.wrap ((i_2 : Int) - 1) = (i_2 : Int) - 1 := wr64 W6.1 W6.2
  obtain ⟨EL7, EG7⟩ := List.getElem?_eq_some_iff.1 E7
  have Z7_0 : (1 : Int) ≤ (i_2 : Int) := by omega
  have Z7_1 : 0 ≤ (i_2 : Int) - 1 := by omega
  unfold Leave
  simp +decide [lvaR_h2, loopsOf, Tryz.f34, lvaR_o2a, lvaR_C2, C1, C1_, EL2, EG2, E2, C3, C4, C5, C5_, C5_e, C5_g, W6_, EL7, EG7, E7, Z7, Z7_0, Z7_1, C8]
theorem lvaR_x2_4 (C1 : (i_2 : Int) < (a0.1.length : Int)) (E2 : a0.1[i_2]? = some (v4, r4)) (C3 : ¬ v4 < 0) (C4 : ¬ a1 ≤ v4) (C5 : 0 < (i_2 : Int)) (W6 : InI ((i_2 : Int) - 1)) (E7 : a0.1[i_2 - 1]? = some (v5, r5)) (Z7 : 1 ≤ i_2) (C8 : ¬ v4 ≤ v5) (B9a : RawB r4) (C10 : sgR r4.q = 0) :
    Leave 0 (exec Tryz.prog (tab n) 0 56 (livesOf 34) big lvaR_C2) (livesOf 34 (outOf 2)) (lvaR_h2 a0 a1 i_2) (.ret) (lvaR_o2a a0) := by
  have C1_ : i_2 < a0.1.length := by omega
  obtain ⟨EL2, EG2⟩ := List.getElem?_eq_some_iff.1 E2
  have C5_ : 0 < i_2 := by omega
  have C5_z : (i_2 : Int) ≠ 0 := by omega
  have C5_e : ((i_2 : Int) == 0) = false := by simpa using C5_z
  have C5_g : ((i_2 : Int) != 0) = true := by simpa using C5_z
  have W6_ : IntKind.i64.wrap ((i_2 : Int) - 1) = (i_2 : Int) - 1 := wr64 W6.1 W6.2
  obtain ⟨EL7, EG7⟩ := List.getElem?_eq_some_iff.1 E7
  have Z7_0 : (1 : Int) ≤ (i_2 : Int) := by omega
  have Z7_1 : 0 ≤ (i_2 : Int) - 1 := by omega
  have K9 := rr_sign B9a
  have C10_ : (sgR r4.q == 0) = true := by rw [C10]; simp
  have C10_n : (sgR r4.q != 0) = false := by rw [C10]; simp
  unfold Leave
  simp +decide [lvaR_h2, loopsOf, Tryz.f34, lvaR_o2a, lvaR_C2, C1, C1_, EL2, EG2, E2, C3, C4, C5, C5_, C5_e, C5_g, W6_, EL7, EG7, E7, Z7, Z7_0, Z7_1, C8, K9, C10_, C10_n]
theorem lvaR_x2_5 (C1 : (i_2 : Int) < (a0.1.length : Int)) (E2 : a0.1[i_2]? = some (v4, r4)) (C3 : ¬ v4 < 0) (C4 : ¬ a1 ≤ v4) (C5 : 0 < (i_2 : Int)) (W6 : InI ((i_2 : Int) - 1)) (E7 : a0.1[i_2 - 1]? = some (v5, r5)) (Z7 : 1 ≤ i_2) (C8 : ¬ v4 ≤ v5) (B9a : RawB r4) (C10 : ¬ sgR r4.q = 0) (C12 : ¬ (RatV r4.s r4.l1 r4.l2)) :
    Leave 0 (exec Tryz.prog (tab n) 0 56 (livesOf 34) big lvaR_C2) (livesOf 34 (outOf 2)) (lvaR_h2 a0 a1 i_2) (.ret) (lvaR_o2a a0) := by
  have C1_ : i_2 < a0.1.length := by omega
  obtain ⟨EL2, EG2⟩ := List.getElem?_eq_some_iff.1 E2
  have C5_ : 0 < i_2 := by omega
  have C5_z : (i_2 : Int) ≠ 0 := by omega
  have C5_e : ((i_2 : Int) == 0) = false := by simpa using C5_z
  have C5_g : ((i_2 : Int) != 0) = true := by simpa using C5_z
  have W6_ : IntKind.i64.wrap ((i_2 : Int) - 1) = (i_2 : Int) - 1 := wr64 W6.1 W6.2
  obtain ⟨EL7, EG7⟩ := List.getElem?_eq_some_iff.1 E7
  have Z7_0 : (1 : Int) ≤ (i_2 : Int) := by omega
  have Z7_1 : 0 ≤ (i_2 : Int) - 1 := by omega
  have K9 := rr_sign B9a
  have C10_ : (sgR r4.q == 0) = false := by simpa using C10
  have C10_n : (sgR r4.q != 0) = true := by simpa using C10
  have K11 := rr_valid B9a
  unfold Leave
  simp +decide [lvaR_h2, loopsOf, Tryz.f34, lvaR_o2a, lvaR_C2, C1, C1_, EL2, EG2, E2, C3, C4, C5, C5_, C5_e, C5_g, W6_, EL7, EG7, E7, Z7, Z7_0, Z7_1, C8, K9, C10_, C10_n, K11, C12]
theorem lvaR_x2_6 (C1 : (i_2 : Int) < (a0.1.length : Int)) (E2 : a0.1[i_2]? = some (v4, r4)) (C3 : ¬ v4 < 0) (C4 : ¬ a1 ≤ v4) (C5 : ¬ 0 < (i_2 : Int)) (B6a : RawB r4) (C7 : sgR r4.q = 0) :
    Leave 0 (exec Tryz.prog (tab n) 0 56 (livesOf 34) big lvaR_C2) (livesOf 34 (outOf 2)) (lvaR_h2 a0 a1 i_2) (.ret) (lvaR_o2a a0) := by
  have C1_ : i_2 < a0.1.length := by omega
  obtain ⟨EL2, EG2⟩ := List.getElem?_eq_some_iff.1 E2
  have C5_ : ¬ 0 < i_2 := by omega
  have C5_z : (i_2 : Int) = 0 := by omega
  have C5_e : ((i_2 : Int) == 0) = true := by rw [C5_z]; simp
  have C5_g : ((i_2 : Int) != 0) = false := by rw [C5_z]; simp
  have K6 := rr_sign B6a
  have C7_ : (sgR r4.q == 0) = true := by rw [C7]; simp
  have C7_n : (sgR r4.q != 0) = false := by rw [C7]; simp
  unfold Leave
  simp +decide [lvaR_h2, loopsOf, Tryz.f34, lvaR_o2a, lvaR_C2, C1, C1_, EL2, EG2, E2, C3, C4, C5, C5_, C5_e, C5_g, K6, C7_, C7_n]
theorem lvaR_x2_7 (C1 : (i_2 : Int) < (a0.1.length : Int)) (E2 : a0.1[i_2]? = some (v4, r4)) (C3 : ¬ v4 < 0) (C4 : ¬ a1 ≤ v4) (C5 : ¬ 0 < (i_2 : Int)) (B6a : RawB r4) (C7 : ¬ sgR r4.q = 0) (C9 : ¬ (RatV r4.s r4.l1 r4.l2)) :
    Leave 0 (exec Tryz.prog (tab n) 0 56 (livesOf 34) big lvaR_C2) (livesOf 34 (outOf 2)) (lvaR_h2 a0 a1 i_2) (.ret) (lvaR_o2a a0) := by
  have C1_ : i_2 < a0.1.length := by omega
  obtain ⟨EL2, EG2⟩ := List.getElem?_eq_some_iff.1 E2
  have C5_ : ¬ 0 < i_2 := by omega
  have C5_z : (i_2 : Int) = 0 := by omega
  have C5_e : ((i_2 : Int) == 0) = true := by rw [C5_z]; simp
  have C5_g : ((i_2 : Int) != 0) = false := by rw [C5_z]; simp
  have K6 := rr_sign B6a
  have C7_ : (sgR r4.q == 0) = false := by simpa using C7
  have C7_n : (sgR r4.q != 0) = true := by simpa using C7
  have K8 := rr_valid B6a
  unfold Leave
  simp +decide [lvaR_h2, loopsOf, Tryz.f34, lvaR_o2a, lvaR_C2, C1, C1_, EL2, EG2, E2, C3, C4, C5, C5_, C5_e, C5_g, K6, C7_, C7_n, K8, C9]
theorem lvaR_x2_8 (C1 : ¬ (i_2 : Int) < (a0.1.length : Int)) :
    Leave 0 (exec Tryz.prog (tab n) 0 56 (livesOf 34) big lvaR_C2) (livesOf 34 (outOf 2)) (lvaR_h2 a0 a1 i_2) (.exit 0) (lvaR_o2b a0) := by
  have C1_ : ¬ i_2 < a0.1.length := by omega
  unfold Leave
  simp +decide [lvaR_h2, loopsOf, Tryz.f34, lvaR_o2b, lvaR_C2, C1, C1_]
theorem lvaR_f1 (L1 : loopG Tryz.prog (tab n) 0 56 (livesOf 34) 2 lvaR_C2 (lvaR_h2 a0 a1 0) = some (.ret, lvaR_o2a a0)) :
    run n 34 [.agg [.sl 4 (a0.1.map termRC), .lit (.bool a0.2.s), natA a0.2.l1, natA a0.2.l2], .lit (.int .i64 a1)] = some (.lit (.bool false)) := by
  unfold run fnP
  simp +decide [Tryz.f34]
  rw [loopX_G (C' := lvaR_C2) (e := (lvaR_h2 a0 a1 0)) ?_ ?_, L1]
  rotate_left
  · kernel_rfl
  · simp +decide [lvaR_h2]
  simp +decide [lvaR_o2a]
theorem lvaR_f2 (L1 : loopG Tryz.prog (tab n) 0 56 (livesOf 34) 2 lvaR_C2 (lvaR_h2 a0 a1 0) = some (.exit 0, lvaR_o2b a0)) (B2a : RawB a0.2) :
    run n 34 [.agg [.sl 4 (a0.1.map termRC), .lit (.bool a0.2.s), natA a0.2.l1, natA a0.2.l2], .lit (.int .i64 a1)] = some (.lit (.bool (decide (RatV a0.2.s a0.2.l1 a0.2.l2)))) := by
  have K2 := rr_valid B2a
  unfold run fnP
  simp +decide [Tryz.f34, K2]
  rw [loopX_G (C' := lvaR_C2) (e := (lvaR_h2 a0 a1 0)) ?_ ?_, L1]
  rotate_left
  · kernel_rfl
  · simp +decide [lvaR_h2, K2]
  simp +decide [lvaR_o2b, K2]
end
end Go.Proofs.YtjpoanaoaeaneaaGreatDoor
set_option linter.all false
set_option maxRecDepth 100000
set_option maxHeartbeats 6400000
namespace Go.Proofs.YtjpoanaoaeaneaaGreatDoor
open Go.RowKit
attribute [local irreducible] run runL loopG exec
theorem lvalidRB_c {n : Nat} {f : FormR} {vars : Int} (h8 : f.1.length ≤ 100000) (hrbs : ∀ t ∈ f.1, RawB t.2) (hkb : RawB f.2) : run n 34 [frV f, .lit (.int .i64 vars)] = some (.lit (.bool (tv (OkFR f vars)))) := by
  have L := loopG_all (O := tab n) (P := Tryz.prog) (m := 0) (N := 56) (lives := livesOf 34) (r := 2) (C := lvaR_C2) (M := f.1.length) (enc := lvaR_h2 f vars) (p := fun i => tv (OkTmR f.1 vars i)) (exN := .exit 0) (exE := .ret) (out := lvaR_o2b f) (outE := lvaR_o2a f) (by omega) (fun h => by cases h) (fun h => by cases h)
    (fun i hi _ => by
      have hx : f.1[i]? = some f.1[i] := List.getElem?_eq_getElem hi
      obtain ⟨t, ht⟩ : ∃ t, f.1[i] = t := ⟨_, rfl⟩
      rw [ht] at hx
      obtain ⟨v, r⟩ := t
      have hm : (v, r) ∈ f.1 := List.mem_of_getElem? hx
      have hrb : RawB r := hrbs _ hm
      have C1 : (i : Int) < (f.1.length : Int) := by omega
      have hp : 0 < i → ∃ v' r', f.1[i - 1]? = some (v', r') := fun h0 => ⟨(f.1[i - 1]'(by omega)).1, (f.1[i - 1]'(by omega)).2, List.getElem?_eq_getElem _⟩
      refine ⟨fun hp' => ?_, fun hp' => ?_⟩
      · obtain ⟨a1, a2, a3, a4, a5⟩ := tv_true hp' v r hx
        have s0 : ¬ sgR r.q = 0 := fun h => a3 (sgR_eq_zero.1 h)
        by_cases h0 : 0 < i
        · obtain ⟨v', r', hx'⟩ := hp h0
          have := a5 v' r' h0 hx'
          exact lvaR_r2_1 C1 hx (by omega) (by omega) (by omega) ⟨by omega, by omega⟩ hx' (by omega) (by omega) hrb s0 a4 ⟨by omega, by omega⟩
        · exact lvaR_r2_2 C1 hx (by omega) (by omega) (by omega) hrb s0 a4 ⟨by omega, by omega⟩
      · have hq := tv_false hp'
        by_cases b1 : v < 0
        · exact lvaR_x2_1 C1 hx b1
        by_cases b2 : vars ≤ v
        · exact lvaR_x2_2 C1 hx b1 b2
        by_cases h0 : 0 < i
        · obtain ⟨v', r', hx'⟩ := hp h0
          by_cases b3 : v ≤ v'
          · exact lvaR_x2_3 C1 hx b1 b2 (by omega) ⟨by omega, by omega⟩ hx' (by omega) b3
          by_cases b4 : sgR r.q = 0
          · exact lvaR_x2_4 C1 hx b1 b2 (by omega) ⟨by omega, by omega⟩ hx' (by omega) b3 hrb b4
          refine lvaR_x2_5 C1 hx b1 b2 (by omega) ⟨by omega, by omega⟩ hx' (by omega) b3 hrb b4 fun b5 => hq fun v2 c2 h2 => ?_
          rw [hx] at h2; cases h2
          refine ⟨by omega, by omega, fun h => b4 (sgR_eq_zero.2 h), b5, fun v3 c3 _ h3 => ?_⟩
          rw [hx'] at h3; cases h3
          omega
        · by_cases b4 : sgR r.q = 0
          · exact lvaR_x2_6 C1 hx b1 b2 (by omega) hrb b4
          refine lvaR_x2_7 C1 hx b1 b2 (by omega) hrb b4 fun b5 => hq fun v2 c2 h2 => ?_
          rw [hx] at h2; cases h2
          exact ⟨by omega, by omega, fun h => b4 (sgR_eq_zero.2 h), b5, fun v3 c3 h9 h3 => absurd h9 h0⟩)
    (lvaR_x2_8 (by omega))
  by_cases hA : ∀ i, i < f.1.length → tv (OkTmR f.1 vars i) = true
  · rw [if_pos hA] at L
    have h := lvaR_f2 L hkb
    have e : decide (RatV f.2.s f.2.l1 f.2.l2) = tv (OkFR f vars) := by
      by_cases hk : Cn f.2
      · rw [tv_t ⟨fun i hi => tv_true (hA i hi), hk⟩]; exact decide_eq_true hk
      · rw [tv_f fun h => hk h.2]; exact decide_eq_false hk
    rw [e] at h
    exact h
  · rw [if_neg hA] at L
    rw [tv_f fun h => hA fun i hi => tv_t (h.1 i hi)]
    exact lvaR_f1 L
theorem lvalidR0_c {n : Nat} {f : FormR} {vars : Int} (hl : LimF f) (hf : FewR f.1 f.2) : run n 34 [frV f, .lit (.int .i64 vars)] = some (.lit (.bool (tv (OkFR f vars)))) :=
  lvalidRB_c (by have := hf.1; omega) (fun t ht => (hf.2.2 t ht).rb (hl.t t ht)) (hf.2.1.rb hl.k)
end Go.Proofs.YtjpoanaoaeaneaaGreatDoor
set_option linter.all false
set_option maxRecDepth 100000
set_option maxHeartbeats 6400000
namespace Go.Proofs.YtjpoanaoaeaneaaGreatDoor
open Go.RowKit
attribute [local irreducible] run runL loopG exec
theorem all_ix {α : Type} {L : List α} {P : α → Prop} : (∀ i, i < L.length → ∀ x, L[i]? = some x → P x) ↔ ∀ x ∈ L, P x :=
  ⟨fun h x hx => by
    obtain ⟨i, hi⟩ := List.mem_iff_getElem?.1 hx
    exact h i (List.getElem?_eq_some_iff.1 hi).1 x hi, fun h i _ x hx => h x (List.mem_of_getElem? hx)⟩
theorem tv_if {p q : Prop} (h : p ↔ q) : tv p = tv q := by
  by_cases hp : p
  · rw [tv_t hp, tv_t (h.1 hp)]
  · rw [tv_f hp, tv_f fun hq => hp (h.2 hq)]
theorem tv_one {α : Type} {L : List α} {P : α → Prop} {i : Nat} {x : α} (hx : L[i]? = some x) : tv (∀ y, L[i]? = some y → P y) = tv (P x) := tv_if ⟨fun h => h x hx, fun h y hy => by rw [hx] at hy; cases hy; exact h⟩
theorem ite_all {α β : Type} {L : List α} {P : α → Prop} {a b : β} {inst : Decidable (∀ i, i < L.length → tv (∀ x, L[i]? = some x → P x) = true)} (h : ∀ x ∈ L, P x) : @ite β (∀ i, i < L.length → tv (∀ x, L[i]? = some x → P x) = true) inst a b = a := if_pos fun i _ => tv_t fun x hx => h x (List.mem_of_getElem? hx)
theorem ite_not {α β : Type} {L : List α} {P : α → Prop} {a b : β} {inst : Decidable (∀ i, i < L.length → tv (∀ x, L[i]? = some x → P x) = true)} (h : ¬ ∀ x ∈ L, P x) : @ite β (∀ i, i < L.length → tv (∀ x, L[i]? = some x → P x) = true) inst a b = b := if_neg fun h2 => h (all_ix.1 fun k hk => tv_true (h2 k hk))
theorem short_c {n : Nat} {r : Raw} : run n 58 [.agg [.lit (.bool r.s), natA r.l1, natA r.l2]] = some (.lit (.bool (tv (Two r)))) := by
  by_cases h : r.l1.length ≤ 2
  · have R := shC_f1 (n := n) (a0 := r) (by omega)
    by_cases h2 : r.l2.length ≤ 2
    · rw [decide_eq_true (by omega)] at R
      rw [tv_t ⟨h, h2⟩]; exact R
    · rw [decide_eq_false (by omega)] at R
      rw [tv_f fun k => h2 k.2]; exact R
  · rw [tv_f fun k => h k.1]
    exact shC_f2 (by omega)
structure FewF (f : FormR) : Prop where
  l : f.1.length ≤ 6
  k : Two f.2
  t : ∀ t ∈ f.1, Two t.2
structure FewC (c : TClaimR) : Prop where
  l : c.Rows.length ≤ 6
  m : Two c.Margin
  f : ∀ f ∈ c.Rows, FewF f
def OutR (xs : List Raw) : Prop := xs.length ≤ 6 ∧ ∀ r ∈ xs, Two r
theorem outputs_c {n : Nat} {xs : List Raw} : run (n + 1) 43 [.sl 3 (xs.map rawC)] = some (.lit (.bool false)) ∧ ¬ OutR xs ∨ run (n + 1) 43 [.sl 3 (xs.map rawC)] = some (.lit (.bool true)) ∧ OutR xs ∨ 100000000 < xs.length := by
  by_cases hl : 100000000 < xs.length
  · exact .inr (.inr hl)
  have L := loopG_all (O := tab (n + 1)) (P := Tryz.prog) (m := 0) (N := 19) (lives := livesOf 43) (r := 2) (C := opC_C2) (M := xs.length) (enc := opC_h2 xs) (p := fun i => tv (∀ r, xs[i]? = some r → Two r)) (exN := .exit 0) (exE := .ret) (out := opC_o2b xs) (outE := opC_o2a xs) (by omega) (fun h => by cases h) (fun h => by cases h)
    (fun i hi _ => by
      have hx : xs[i]? = some xs[i] := List.getElem?_eq_getElem hi
      generalize xs[i] = r at hx
      rw [tv_one (P := fun r : Raw => Two r) hx]
      have K := short_c (n := n) (r := r)
      exact ⟨fun hp => opC_r2_1 (by omega) hx K hp ⟨by omega, by omega⟩, fun hp => opC_x2_1 (by omega) hx K hp⟩)
    (opC_x2_2 (by omega))
  by_cases hA : ∀ r ∈ xs, Two r
  · rw [ite_all (P := fun r : Raw => Two r) hA] at L
    have R := opC_f2 (n := n) L
    by_cases h6 : xs.length ≤ 6
    · rw [decide_eq_true (by omega)] at R
      exact .inr (.inl ⟨R, h6, hA⟩)
    · rw [decide_eq_false (by omega)] at R
      exact .inl ⟨R, fun h => h6 h.1⟩
  · rw [ite_not (P := fun r : Raw => Two r) hA] at L
    exact .inl ⟨opC_f1 (n := n) L, fun h => hA h.2⟩
structure LimC (c : TClaimR) : Prop where
  m : LimR2 c.Margin
  f : ∀ f ∈ c.Rows, LimF f
def OkK (c : TClaimR) (z : Int) : Prop := (c.Kind = 1 ∧ 0 ≤ c.Target ∧ c.Target < z ∧ c.Rows = []) ∨ (c.Kind = 2 ∧ c.Target = 0 ∧ 1 ≤ c.Rows.length ∧ ∀ f ∈ c.Rows, OkFR f z)
structure OkClR (c : TClaimR) (z : Int) : Prop where
  z0 : 1 ≤ z
  z1 : z ≤ 256
  m : Cn c.Margin
  m0 : ¬ sgR c.Margin.q < 0
  k : OkK c z
structure Good (c : TClaimR) : Prop where
  B : RawB c.Margin
  l : c.Rows.length ≤ 6
  f : ∀ f ∈ c.Rows, LimF f
  w : ∀ f ∈ c.Rows, FewF f
theorem fewFR {f : FormR} (h : FewF f) : FewR f.1 f.2 := ⟨by have := h.l; omega, h.k, h.t⟩
section
variable {n : Nat} {c : TClaimR} {z : Int}
theorem cvc_c {f : FormR} (hl : LimF f) (hf : FewF f) : run (n + 1) 107 [frV f, .mem [.lit (.int .i64 z)]] = some (.lit (.bool (!tv (OkFR f z)))) := cvcR_f1 (lvalidR0_c (n := n) hl (fewFR hf))
theorem cif_c {L : List FormR} (hl : L.length ≤ 6) (hL : ∀ f ∈ L, LimF f) (hf : ∀ f ∈ L, FewF f) : ∃ r : Int, run (n + 2) 181 [.sl 4 (L.map formRC), .clo 107 [.mem [.lit (.int .i64 z)]]] = some (.lit (.int .i64 r)) ∧ (0 ≤ r ↔ ¬ ∀ f ∈ L, OkFR f z) := by
  obtain ⟨ex, t, h1, h2⟩ := loopG_Q (β := Unit) (P := Tryz.prog) (O := tab (n + 2)) (m := 0) (N := 19) (lives := livesOf 181) (r := 2) (C := ifgR_C2) (M := L.length) (enc := fun i _ => ifgR_h2 L z i)
    (fun i _ => ∀ j f, j < i → L[j]? = some f → OkFR f z) (fun ex t => (ex = .exit 0 ∧ t = ifgR_o2b ∧ ∀ f ∈ L, OkFR f z) ∨ (ex = .ret ∧ ∃ i : Nat, t = ifgR_o2a i ∧ ¬ ∀ f ∈ L, OkFR f z)) () (fun j f hj => by omega) (by omega)
    (fun i b hi hI => by
      have hx : L[i]? = some L[i] := List.getElem?_eq_getElem hi
      generalize L[i] = f at hx
      have hm := List.mem_of_getElem? hx
      have K := cvc_c (n := n) (z := z) (hL f hm) (hf f hm)
      by_cases h : OkFR f z
      · rw [tv_t h] at K
        refine .inl ⟨(), ifgR_r2_1 (by omega) hx K rfl ⟨by omega, by omega⟩, fun j g hj hg => ?_⟩
        rcases Nat.lt_succ_iff_lt_or_eq.1 hj with h2 | rfl
        · exact hI j g h2 hg
        · rw [hx] at hg; cases hg; exact h
      · rw [tv_f h] at K
        exact .inr ⟨_, _, by simp, ifgR_x2_1 (by omega) hx K rfl, .inr ⟨rfl, i, rfl, fun h2 => h (h2 f hm)⟩⟩)
    (fun b hI => ⟨_, _, by simp, ifgR_x2_2 (by omega), .inl ⟨rfl, rfl, fun f hf => by
      obtain ⟨j, hj⟩ := List.mem_iff_getElem?.1 hf
      exact hI j f (List.getElem?_eq_some_iff.1 hj).1 hj⟩⟩)
  rcases h2 with ⟨rfl, rfl, h3⟩ | ⟨rfl, i, rfl, h3⟩
  · exact ⟨-1, ifgR_f2 h1, fun h => by omega, fun h => absurd h3 h⟩
  · exact ⟨(i : Int), ifgR_f1 h1, fun _ => h3, fun _ => by omega⟩
theorem cvs_c {L : List FormR} (hl : L.length ≤ 6) (hL : ∀ f ∈ L, LimF f) (hf : ∀ f ∈ L, FewF f) : run (n + 3) 106 [.sl 4 (L.map formRC), .clo 107 [.mem [.lit (.int .i64 z)]]] = some (.lit (.bool (!tv (∀ f ∈ L, OkFR f z)))) := by
  obtain ⟨r, h1, h2⟩ := cif_c (n := n) (z := z) hl hL hf
  have h3 := cfgR_f1 (n := n) h1
  rw [h3]
  by_cases h : ∀ f ∈ L, OkFR f z
  · rw [tv_t h, decide_eq_false (fun h4 => (h2.1 h4) h)]; rfl
  · rw [tv_f h, decide_eq_true (h2.2 h)]; rfl
theorem vls_c {L : List FormR} (hl : L.length ≤ 6) (hL : ∀ f ∈ L, LimF f) (hf : ∀ f ∈ L, FewF f) : run (n + 1) 108 [.sl 4 (L.map formRC), .lit (.int .i64 z)] = some (.lit (.bool (tv (∀ f ∈ L, OkFR f z)))) := by
  have hG := loopG_all (O := tab (n + 1)) (P := Tryz.prog) (m := 0) (N := 19) (lives := livesOf 108) (r := 2) (C := vlR_C2) (M := L.length) (enc := vlR_h2 L z) (p := fun i => tv (∀ f, L[i]? = some f → OkFR f z)) (exN := .exit 0) (exE := .ret) (out := vlR_o2b) (outE := vlR_o2a) (by omega) (by simp) (by simp)
    (fun i hi hI => by
      have hx : L[i]? = some L[i] := List.getElem?_eq_getElem hi
      generalize L[i] = f at hx
      have hm := List.mem_of_getElem? hx
      have K := validR_c (n := n) (vars := z) (hL f hm) (fewFR (hf f hm))
      rw [tv_one (P := fun f : FormR => OkFR f z) hx]
      exact ⟨fun hp => vlR_r2_1 (by omega) hx K hp ⟨by omega, by omega⟩, fun hp => vlR_x2_1 (by omega) hx K hp⟩)
    (vlR_x2_2 (by omega))
  by_cases h : ∀ f ∈ L, OkFR f z
  · rw [ite_all (P := fun f : FormR => OkFR f z) h] at hG
    rw [tv_t h]
    exact vlR_f2 hG
  · rw [ite_not (P := fun f : FormR => OkFR f z) h] at hG
    rw [tv_f h]
    exact vlR_f1 hG
theorem len0 {α : Type} {l : List α} : (((l.length : Int) == 0)) = tv (l = []) := by
  cases l with
  | nil => rw [tv_t rfl]; rfl
  | cons a l =>
    rw [tv_f (by simp)]
    have : ¬ (((a :: l).length : Int) = 0) := by simp; omega
    simpa using this
theorem cvalidG (hg : Good c) : run (n + 4) 40 [claimRV c, .lit (.int .i64 z)] = some (.lit (.bool (tv (OkClR c z)))) := by
  have hB := hg.B
  have h6 := hg.l
  by_cases c1 : z < 1
  · rw [tv_f (fun h => by have := h.z0; omega)]; exact cvR_f1 c1
  by_cases c2 : 256 < z
  · rw [tv_f (fun h => by have := h.z1; omega)]; exact cvR_f2 c1 c2
  by_cases c3 : Cn c.Margin
  rotate_left
  · rw [tv_f (fun h => c3 h.m)]; exact cvR_f3 c1 c2 hB c3
  by_cases c4 : sgR c.Margin.q < 0
  · rw [tv_f (fun h => h.m0 c4)]; exact cvR_f4 c1 c2 hB c3 c4
  have red : ∀ {q : Prop}, (OkK c z ↔ q) → tv (OkClR c z) = tv q := fun h => tv_if ⟨fun k => h.1 k.k, fun k => ⟨by omega, by omega, c3, c4, h.2 k⟩⟩
  by_cases c5 : c.Kind = 1
  · by_cases c6 : 0 ≤ c.Target
    · by_cases c7 : c.Target < z
      · have R := cvR_f5 (n := n) c1 c2 hB c3 c4 c5 c6 c7
        rw [len0] at R
        rw [red (q := c.Rows = []) ⟨fun h => by rcases h with h | h; exact h.2.2.2; omega, fun h => .inl ⟨c5, c6, c7, h⟩⟩]
        exact R
      · rw [red (q := False) ⟨fun h => by rcases h with h | h <;> omega, False.elim⟩, tv_f id]
        exact cvR_f6 c1 c2 hB c3 c4 c5 c6 c7
    · rw [red (q := False) ⟨fun h => by rcases h with h | h <;> omega, False.elim⟩, tv_f id]
      exact cvR_f7 c1 c2 hB c3 c4 c5 c6
  by_cases c6 : c.Kind = 2
  · by_cases c7 : c.Target = 0
    · by_cases c8 : 1 ≤ (c.Rows.length : Int)
      · have R := cvR_f8 (n := n) c1 c2 hB c3 c4 c5 c6 c7 c8 (by omega) (cvs_c (n := n) (z := z) h6 hg.f hg.w)
        rw [Bool.not_not] at R
        rw [red (q := ∀ f ∈ c.Rows, OkFR f z) ⟨fun h => by rcases h with h | h; omega; exact h.2.2.2, fun h => .inr ⟨c6, c7, by omega, h⟩⟩]
        exact R
      · rw [red (q := False) ⟨fun h => by rcases h with h | h <;> omega, False.elim⟩, tv_f id]
        exact cvR_f10 c1 c2 hB c3 c4 c5 c6 c7 c8
    · rw [red (q := False) ⟨fun h => by rcases h with h | h <;> omega, False.elim⟩, tv_f id]
      exact cvR_f11 c1 c2 hB c3 c4 c5 c6 c7
  · rw [red (q := False) ⟨fun h => by rcases h with h | h <;> omega, False.elim⟩, tv_f id]
    exact cvR_f12 c1 c2 hB c3 c4 c5 c6
theorem fvalidG (hg : Good c) : run (n + 2) 41 [claimRV c, .lit (.int .i64 z)] = some (.lit (.bool (tv (OkClR c z)))) := by
  have hB := hg.B
  have h6 := hg.l
  by_cases c1 : z < 1
  · rw [tv_f (fun h => by have := h.z0; omega)]; exact fVR_f1 c1
  by_cases c2 : 256 < z
  · rw [tv_f (fun h => by have := h.z1; omega)]; exact fVR_f2 c1 c2
  by_cases c3 : Cn c.Margin
  rotate_left
  · rw [tv_f (fun h => c3 h.m)]; exact fVR_f3 c1 c2 hB c3
  by_cases c4 : sgR c.Margin.q < 0
  · rw [tv_f (fun h => h.m0 c4)]; exact fVR_f4 c1 c2 hB c3 c4
  have red : ∀ {q : Prop}, (OkK c z ↔ q) → tv (OkClR c z) = tv q := fun h => tv_if ⟨fun k => h.1 k.k, fun k => ⟨by omega, by omega, c3, c4, h.2 k⟩⟩
  by_cases c5 : c.Kind = 1
  · by_cases c6 : 0 ≤ c.Target
    · by_cases c7 : c.Target < z
      · have R := fVR_f5 (n := n) c1 c2 hB c3 c4 c5 c6 c7
        rw [len0] at R
        rw [red (q := c.Rows = []) ⟨fun h => by rcases h with h | h; exact h.2.2.2; omega, fun h => .inl ⟨c5, c6, c7, h⟩⟩]
        exact R
      · rw [red (q := False) ⟨fun h => by rcases h with h | h <;> omega, False.elim⟩, tv_f id]
        exact fVR_f6 c1 c2 hB c3 c4 c5 c6 c7
    · rw [red (q := False) ⟨fun h => by rcases h with h | h <;> omega, False.elim⟩, tv_f id]
      exact fVR_f7 c1 c2 hB c3 c4 c5 c6
  by_cases c6 : c.Kind = 2
  · by_cases c7 : c.Target = 0
    · by_cases c8 : 1 ≤ (c.Rows.length : Int)
      · have R := fVR_f8 (n := n) c1 c2 hB c3 c4 c5 c6 c7 c8 (by omega) (vls_c (n := n) (z := z) h6 hg.f hg.w)
        rw [red (q := ∀ f ∈ c.Rows, OkFR f z) ⟨fun h => by rcases h with h | h; omega; exact h.2.2.2, fun h => .inr ⟨c6, c7, by omega, h⟩⟩]
        exact R
      · rw [red (q := False) ⟨fun h => by rcases h with h | h <;> omega, False.elim⟩, tv_f id]
        exact fVR_f10 c1 c2 hB c3 c4 c5 c6 c7 c8
    · rw [red (q := False) ⟨fun h => by rcases h with h | h <;> omega, False.elim⟩, tv_f id]
      exact fVR_f11 c1 c2 hB c3 c4 c5 c6 c7
  · rw [red (q := False) ⟨fun h => by rcases h with h | h <;> omega, False.elim⟩, tv_f id]
    exact fVR_f12 c1 c2 hB c3 c4 c5 c6
end
structure SmFC (f : Form) (z : Int) : Prop where
  l : f.1.length ≤ 6
  t : ∀ t ∈ f.1, H t.2 ≤ 2
  k : H f.2 ≤ 2
  ok : OkFm f z
structure SmC (c : TClaim) (z : Int) : Prop where
  z0 : 1 ≤ z
  z1 : z ≤ 256
  m : H c.Margin ≤ 8
  m0 : 0 ≤ c.Margin
  l : c.Rows.length ≤ 6
  f : ∀ f ∈ c.Rows, SmFC f z
  k : (c.Kind = 1 ∧ 0 ≤ c.Target ∧ c.Target < z ∧ c.Rows = []) ∨ (c.Kind = 2 ∧ c.Target = 0 ∧ 1 ≤ c.Rows.length)
def unC (c : TClaimR) : TClaim := ⟨c.Kind, c.Target, c.Margin.q, c.Rows.map unR⟩
theorem claim_canonG {c : TClaimR} {z : Int} (hf : Good c) (hH : H c.Margin.q ≤ 8) (ho : OkClR c z) : claimRV c = claimV (unC c) ∧ SmC (unC c) z := by
  have hr : ∀ f ∈ c.Rows, OkFR f z := by
    rcases ho.k with h | h
    · rw [h.2.2.2]; exact fun f hf => by cases hf
    · exact h.2.2.2
  have hs : ∀ f ∈ c.Rows, frV f = formV (unR f) ∧ SmFC (unR f) z := fun f h => by
    have h2 := hf.w f h
    obtain ⟨a, b, d, e, g⟩ := small_formB (m := 2) (by omega) (fun t ht => h2.t t ht) h2.k (hr f h)
    exact ⟨a, by rw [b]; exact h2.l, d, e, g⟩
  have em : c.Margin = rawQ c.Margin.q := ho.m.raw
  refine ⟨?_, ho.z0, ho.z1, hH, ?_, by simp [unC]; exact hf.l, fun f h => ?_, ?_⟩
  · have e : c.Rows.map formRC = (c.Rows.map unR).map formC := by
      rw [List.map_map]
      apply List.map_congr_left
      intro f h
      have := (hs f h).1
      simp only [frV, formV, AV.agg.injEq] at this
      exact this
    obtain ⟨k, t, m, rs⟩ := c
    dsimp only at em e
    simp only [claimRV, claimV, unC]
    rw [e, ← em]
  · have := ho.m0
    show 0 ≤ c.Margin.q
    exact sgq_nonneg.1 (Int.not_lt.1 this)
  · obtain ⟨g, hg, rfl⟩ := List.mem_map.1 h
    exact (hs g hg).2
  · rcases ho.k with h | h
    · exact .inl ⟨h.1, h.2.1, h.2.2.1, by simp [unC, h.2.2.2]⟩
    · exact .inr ⟨h.1, h.2.1, by simp [unC]; exact h.2.2.1⟩
end Go.Proofs.YtjpoanaoaeaneaaGreatDoor
