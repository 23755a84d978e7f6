import Derived.Test.YtjpoanaoaeaneaaGreatDoorGC5
import Derived.Test.YtjpoanaoaeaneaaGreatDoorGC7
set_option linter.all false
set_option maxRecDepth 100000
set_option maxHeartbeats 6400000
namespace Go.Proofs.YtjpoanaoaeaneaaGreatDoor
open Go.RowKit
end Go.Proofs.YtjpoanaoaeaneaaGreatDoor
set_option linter.all false
set_option maxRecDepth 100000
set_option maxHeartbeats 6400000
namespace Go.Proofs.YtjpoanaoaeaneaaGreatDoor
open Go.RowKit
attribute [local irreducible] run runL loopG exec
noncomputable def tv (p : Prop) : Bool := @decide p (Classical.propDecidable p)
theorem tv_t {p : Prop} (h : p) : tv p = true := @decide_eq_true p (Classical.propDecidable p) h
theorem tv_f {p : Prop} (h : ¬ p) : tv p = false := @decide_eq_false p (Classical.propDecidable p) h
theorem tv_true {p : Prop} (h : tv p = true) : p := @of_decide_eq_true p (Classical.propDecidable p) h
theorem tv_false {p : Prop} (h : tv p = false) : ¬ p := @of_decide_eq_false p (Classical.propDecidable p) h
def OkTm (F : List (Int × Rat)) (vars : Int) (i : Nat) : Prop := ∀ v c, F[i]? = some (v, c) → 0 ≤ v ∧ v < vars ∧ c ≠ 0 ∧ ∀ v' c', 0 < i → F[i - 1]? = some (v', c') → v' < v
def OkFm (f : Form) (vars : Int) : Prop := ∀ i, i < f.1.length → OkTm f.1 vars i
structure BdF (b : Nat) (f : Form) : Prop where
  l : f.1.length ≤ 100000000
  t : ∀ t ∈ f.1, H t.2 ≤ b
  k : H f.2 ≤ b
theorem BdF.mono {b c : Nat} {f : Form} (h : BdF b f) (hb : b ≤ c) : BdF c f := ⟨h.l, fun t ht => Nat.le_trans (h.t t ht) hb, Nat.le_trans h.k hb⟩
end Go.Proofs.YtjpoanaoaeaneaaGreatDoor
set_option linter.all false
namespace Go.Proofs.YtjpoanaoaeaneaaGreatDoor
open Go.RowKit
def Srt (F : List (Int × Rat)) : Prop := F.Pairwise (fun a b => a.1 < b.1) ∧ ∀ t ∈ F, t.2 ≠ 0
def LBd (k : Int) (F : List (Int × Rat)) : Prop := ∀ t ∈ F, k < t.1
def cof : List (Int × Rat) → Int → Rat
  | [], _ => 0
  | t :: l, u => if t.1 = u then t.2 else cof l u
theorem cof_nil (u : Int) : cof [] u = 0 := rfl
theorem cof_hd {t : Int × Rat} {F : List (Int × Rat)} {u : Int} (h : u = t.1) : cof (t :: F) u = t.2 := by unfold cof; rw [if_pos h.symm]
theorem cof_tl {t : Int × Rat} {F : List (Int × Rat)} {u : Int} (h : u ≠ t.1) : cof (t :: F) u = cof F u := by rw [cof, if_neg fun e => h e.symm]
theorem Srt.nil : Srt [] := ⟨List.Pairwise.nil, fun t ht => by cases ht⟩
theorem Srt.tail {t : Int × Rat} {F : List (Int × Rat)} (h : Srt (t :: F)) : Srt F := ⟨(List.pairwise_cons.1 h.1).2, fun u hu => h.2 u (by simp [hu])⟩
theorem Srt.head {t : Int × Rat} {F : List (Int × Rat)} (h : Srt (t :: F)) : LBd t.1 F := fun u hu => (List.pairwise_cons.1 h.1).1 u hu
theorem Srt.nz {t : Int × Rat} {F : List (Int × Rat)} (h : Srt (t :: F)) : t.2 ≠ 0 := h.2 t (by simp)
theorem cof_low : ∀ {F : List (Int × Rat)} {u : Int}, (∀ t ∈ F, t.1 ≠ u) → cof F u = 0
  | [], _, _ => rfl
  | t :: F, u, h => by rw [cof, if_neg (h t (by simp))]; exact cof_low fun x hx => h x (by simp [hx])
theorem LBd.cof {F : List (Int × Rat)} {k u : Int} (h : LBd k F) (hu : u ≤ k) : cof F u = 0 := cof_low fun t ht e => by have := h t ht; omega
theorem LBd.mono {F : List (Int × Rat)} {k j : Int} (h : LBd k F) (hj : j ≤ k) : LBd j F := fun t ht => by have := h t ht; omega
theorem put_srt {F : List (Int × Rat)} {v : Int} {q : Rat} (h : Srt F) (hl : LBd v F) : Srt (put1 v q ++ F) ∧ (∀ u, cof (put1 v q ++ F) u = if u = v then q else cof F u) ∧ ∀ k, k < v → LBd k (put1 v q ++ F) := by
  unfold put1
  split
  · rename_i h0
    rw [List.nil_append]
    refine ⟨h, fun u => ?_, fun k hk => hl.mono (by omega)⟩
    split
    · rename_i e; subst e; rw [hl.cof (Int.le_refl _), h0]
    · rfl
  · rename_i h0
    refine ⟨⟨List.pairwise_cons.2 ⟨fun x hx => hl x hx, h.1⟩, fun t ht => ?_⟩, fun u => ?_, fun k hk t ht => ?_⟩
    · rcases List.mem_cons.1 ht with rfl | ht
      · exact h0
      · exact h.2 t ht
    · show cof ((v, q) :: F) u = _
      rw [cof]
      by_cases e : v = u
      · rw [if_pos e, if_pos e.symm]
      · rw [if_neg e, if_neg fun e2 => e e2.symm]
    · rcases List.mem_cons.1 ht with rfl | ht
      · exact hk
      · have := hl t ht; omega
theorem srt_ext : ∀ {F G : List (Int × Rat)}, Srt F → Srt G → (∀ u, cof F u = cof G u) → F = G
  | [], [], _, _, _ => rfl
  | [], t :: G, _, hg, h => by
    have := h t.1
    rw [cof_nil, cof_hd rfl] at this
    exact absurd this.symm hg.nz
  | t :: F, [], hf, _, h => by
    have := h t.1
    rw [cof_nil, cof_hd rfl] at this
    exact absurd this hf.nz
  | (v, q) :: F, (u, p) :: G, hf, hg, h => by
    have e : v = u := by
      rcases Int.lt_trichotomy v u with h1 | h1 | h1
      · have h2 := h v
        rw [cof_hd rfl, cof_tl (by dsimp only; omega), hg.head.cof (by dsimp only; omega)] at h2
        exact absurd h2 hf.nz
      · exact h1
      · have h2 := h u
        rw [cof_tl (by dsimp only; omega), hf.head.cof (by dsimp only; omega), cof_hd rfl] at h2
        exact absurd h2.symm hg.nz
    subst e
    have e2 : q = p := by
      have h2 := h v
      rw [cof_hd rfl, cof_hd rfl] at h2
      exact h2
    subst e2
    rw [srt_ext hf.tail hg.tail fun u => ?_]
    by_cases e : u = v
    · subst e
      rw [hf.head.cof (Int.le_refl _), hg.head.cof (Int.le_refl _)]
    · have h2 := h u
      rw [cof_tl e, cof_tl e] at h2
      exact h2
theorem plus_done {F : List (Int × Rat)} {v : Int} {c : Rat} (h : LBd v F) (hz : ∀ t ∈ F, t.2 ≠ 0) : plusV true F v c = F := by
  induction F with
  | nil => rfl
  | cons t F ih =>
    have h1 := h t (by simp)
    rw [plusV_lt (by omega) (.inl rfl), ih (fun x hx => h x (by simp [hx])) fun x hx => hz x (by simp [hx])]
    unfold put1
    rw [if_neg (hz t (by simp))]
    rfl
theorem put_one {t : Int × Rat} {F : List (Int × Rat)} (h : t.2 ≠ 0) : put1 t.1 t.2 ++ F = t :: F := by unfold put1; rw [if_neg h]; rfl
theorem plus_srt {v : Int} {c : Rat} : ∀ {F : List (Int × Rat)}, Srt F → Srt (plusV false F v c) ∧ (∀ u, cof (plusV false F v c) u = cof F u + if u = v then c else 0) ∧ ∀ k, k < v → LBd k F → LBd k (plusV false F v c)
  | [], h => by
    have e : plusV false [] v c = put1 v c ++ [] := by rw [List.append_nil]; rfl
    rw [e]
    obtain ⟨h1, h2, h3⟩ := put_srt (v := v) (q := c) h (fun t ht => by cases ht)
    refine ⟨h1, fun u => ?_, fun k hk _ => h3 k hk⟩
    rw [h2, cof_nil]
    split <;> grind
  | t :: F, h => by
    have hd := h.head
    rcases Int.lt_trichotomy t.1 v with h1 | h1 | h1
    · obtain ⟨a1, a2, a3⟩ := plus_srt (v := v) (c := c) h.tail
      rw [plusV_lt (by omega) (.inr h1)]
      obtain ⟨b1, b2, b3⟩ := put_srt (v := t.1) (q := t.2) a1 (a3 _ h1 hd)
      refine ⟨b1, fun u => ?_, fun k hk hl => b3 k (hl t (by simp))⟩
      rw [b2, a2]
      by_cases e : u = t.1
      · rw [if_pos e, cof_hd e, if_neg (by omega)]; grind
      · rw [if_neg e, cof_tl e]
    · rw [plusV_eq h1, plus_done (by rw [← h1]; exact hd) h.tail.2]
      obtain ⟨b1, b2, b3⟩ := put_srt (v := t.1) (q := t.2 + c) h.tail hd
      refine ⟨b1, fun u => ?_, fun k hk hl => b3 k (hl t (by simp))⟩
      rw [b2]
      by_cases e : u = t.1
      · have e5 : u = v := by omega
        rw [if_pos e, if_pos e5, cof_hd e]
      · have e5 : ¬ u = v := by omega
        rw [if_neg e, if_neg e5, cof_tl e]; grind
    · rw [plusV_gt h1, plus_done (hd.mono (by omega)) h.tail.2, put_one h.nz]
      obtain ⟨b1, b2, b3⟩ := put_srt (v := v) (q := c) h (fun x hx => by
        rcases List.mem_cons.1 hx with rfl | hx
        · exact h1
        · have := hd x hx; omega)
      refine ⟨b1, fun u => ?_, fun k hk hl => b3 k hk⟩
      rw [b2]
      by_cases e : u = v
      · have e3 : cof (t :: F) u = 0 := cof_low fun x hx => by
          rcases List.mem_cons.1 hx with rfl | hx
          · omega
          · have := hd x hx; omega
        rw [if_pos e, if_pos e, e3]
        grind
      · rw [if_neg e, if_neg e]; grind
end Go.Proofs.YtjpoanaoaeaneaaGreatDoor
set_option linter.all false
set_option maxRecDepth 100000
namespace Go.Proofs.YtjpoanaoaeaneaaGreatDoor
open Go.RowKit
def smc : List (Int × Rat) → Int → Rat
  | [], _ => 0
  | t :: L, u => (if u = t.1 then t.2 else 0) + smc L u
theorem smc_perm {R L : List (Int × Rat)} (h : R.Perm L) (u : Int) : smc R u = smc L u := by
  induction h with
  | nil => rfl
  | cons x _ ih => simp only [smc]; rw [ih]
  | swap x y l => simp only [smc]; grind
  | trans _ _ a b => exact a.trans b
theorem smc_snoc (t : Int × Rat) (u : Int) : ∀ L : List (Int × Rat), smc (L ++ [t]) u = smc L u + if u = t.1 then t.2 else 0
  | [] => by simp only [smc, List.nil_append]; grind
  | s :: L => by rw [List.cons_append, smc, smc, smc_snoc t u L]; grind
theorem smc_take {R : List (Int × Rat)} {j : Nat} {t : Int × Rat} (h : R[j]? = some t) (u : Int) : smc (R.take (j + 1)) u = smc (R.take j) u + if u = t.1 then t.2 else 0 := by
  rw [List.take_add_one, h]; exact smc_snoc t u _
theorem cof_snoc (v : Int) (s : Rat) (u : Int) : ∀ F : List (Int × Rat), (∀ t ∈ F, t.1 ≠ v) → cof (F ++ [(v, s)]) u = cof F u + if u = v then s else 0
  | [], _ => by
    show cof [(v, s)] u = cof [] u + _
    rw [cof_nil]
    by_cases e : u = v
    · rw [cof_hd (t := (v, s)) e, if_pos e]; grind
    · rw [cof_tl (t := (v, s)) e, cof_nil, if_neg e]; grind
  | t :: F, h => by
    rw [List.cons_append]
    by_cases e : u = t.1
    · rw [cof_hd e, cof_hd e, if_neg (by rw [e]; exact h t (by simp))]; grind
    · rw [cof_tl e, cof_tl e, cof_snoc v s u F fun x hx => h x (by simp [hx])]
theorem add_any : ∀ {G F : List (Int × Rat)}, Srt F → Srt (addV F G) ∧ ∀ u, cof (addV F G) u = cof F u + smc G u
  | [], F, hf => ⟨hf, fun u => by rw [smc]; show cof F u = _; grind⟩
  | t :: G, F, hf => by
    obtain ⟨a1, a2, _⟩ := plus_srt (v := t.1) (c := t.2) hf
    obtain ⟨b1, b2⟩ := add_any (G := G) a1
    refine ⟨b1, fun u => ?_⟩
    show cof (addV (plusV false F t.1 t.2) G) u = _
    rw [b2, a2, smc]; grind
theorem Srt.snoc {F : List (Int × Rat)} {v : Int} {s : Rat} (h : Srt F) (hl : ∀ t ∈ F, t.1 < v) (h0 : s ≠ 0) : Srt (F ++ [(v, s)]) := by
  refine ⟨List.pairwise_append.2 ⟨h.1, by simp, fun a ha b hb => ?_⟩, fun t ht => ?_⟩
  · simp at hb; rw [hb]; exact hl a ha
  · rcases List.mem_append.1 ht with h1 | h1
    · exact h.2 t h1
    · simp at h1; rw [h1]; exact h0
end Go.Proofs.YtjpoanaoaeaneaaGreatDoor
set_option linter.all false
set_option maxRecDepth 100000
set_option maxHeartbeats 6400000
namespace Go.Proofs.YtjpoanaoaeaneaaGreatDoor
open Go.RowKit
theorem pt_new {n : Nat} {F : List (Int × Rat)} {v : Int} {q k : Rat} (hq : H q ≤ 17179869184) (h0 : q ≠ 0) (hF : F.length ≤ 10000000) :
    runL n 97 [.agg [.own 0 F.length, .lit (.bool (rawQ k).s), natA (rawQ k).l1, natA (rawQ k).l2], .lit (.int .i64 v), .agg [.lit (.bool (rawQ q).s), natA (rawQ q).l1, natA (rawQ q).l2]] [.row 82 4 (F.map termC) 0] = some (.agg [.own 4 (F ++ [(v, q)]).length, .lit (.bool (rawQ k).s), natA (rawQ k).l1, natA (rawQ k).l2], [(4, .row 82 4 ((F ++ [(v, q)]).map termC) 0)]) := by
  unfold runL fnL
  have hs := r_sign (p := q) hq
  have hc := r_canon (p := q) hq
  have e2 : (sgR q == 0) = false := by simpa using fun h => h0 (sgR_eq_zero.1 h)
  have e3 : (sgR q != 0) = true := by simpa using fun h => h0 (sgR_eq_zero.1 h)
  have hr : ∀ b, b ≤ 10000 → roomy (F.length + 1) b = true := fun b hb => roomy_s (by omega) hb
  simp +decide [Tryz.f97, hs, hc, e2, e3, hr]
theorem pt_same {n : Nat} {F : List (Int × Rat)} {v : Int} {q k : Rat} (hq : H q ≤ 17179869184) (h0 : q = 0) :
    runL n 97 [.agg [.own 0 F.length, .lit (.bool (rawQ k).s), natA (rawQ k).l1, natA (rawQ k).l2], .lit (.int .i64 v), .agg [.lit (.bool (rawQ q).s), natA (rawQ q).l1, natA (rawQ q).l2]] [.row 82 4 (F.map termC) 0] = some (.agg [.own 0 F.length, .lit (.bool (rawQ k).s), natA (rawQ k).l1, natA (rawQ k).l2], [(0, .row 82 4 (F.map termC) 0)]) := by
  unfold runL fnL
  have hs := r_sign (p := q) hq
  have e2 : (sgR q == 0) = true := by rw [sgR_eq_zero.2 h0]; rfl
  have e3 : (sgR q != 0) = false := by rw [sgR_eq_zero.2 h0]; rfl
  simp +decide [Tryz.f97, hs, e2, e3]
end Go.Proofs.YtjpoanaoaeaneaaGreatDoor
set_option linter.all false
set_option maxRecDepth 100000
set_option maxHeartbeats 6400000
namespace Go.Proofs.YtjpoanaoaeaneaaGreatDoor
open Go.RowKit
noncomputable def plR_C4 : Code := (loopsOf (bodyOf Tryz.f98)).getD 0 .skip
def plR_h4 (a0 : Form) (a1 : Int) (a2 : Raw) (out_4 : List (Int × Rat)) (d_4 : Bool) (i_4 : Nat) : St :=
  ⟨[(1, .lit (.int .i64 a1)), (3, .ptr 0 0), (5, .ptr 1 0), (6, .ptr 2 0), (7, .own 3 out_4.length), (8, .lit (.bool d_4)), (9, .lit (.int .i64 (i_4 : Int)))],
   [(0, some (.box 28 [.sl 4 (a0.1.map termC), .lit (.bool (rawQ a0.2).s), natA (rawQ a0.2).l1, natA (rawQ a0.2).l2] false)),
    (1, some (.box 26 [.lit (.bool a2.s), natA a2.l1, natA a2.l2] false)),
    (2, some (.box 28 [.nl 4, .lit (.bool false), .nl 1, .nl 1] false)),
    (3, some (.row 82 4 (out_4.map termC) 0))], 4⟩
def plR_o4a (a0 : Form) (a1 : Int) (a2 : Raw) (out_4 : List (Int × Rat)) (d_4 : Bool) : St :=
  ⟨[(1, .lit (.int .i64 a1)), (3, .ptr 0 0), (5, .ptr 1 0), (6, .ptr 2 0), (7, .own 3 out_4.length), (8, .lit (.bool d_4))],
   [(0, some (.box 28 [.sl 4 (a0.1.map termC), .lit (.bool (rawQ a0.2).s), natA (rawQ a0.2).l1, natA (rawQ a0.2).l2] false)),
    (1, some (.box 26 [.lit (.bool a2.s), natA a2.l1, natA a2.l2] false)),
    (2, some (.box 28 [.nl 4, .lit (.bool false), .nl 1, .nl 1] false)),
    (3, some (.row 82 4 (out_4.map termC) 0))], 4⟩
section
variable {n : Nat} {q3 : Rat} {a0 : Form} {out_4 : List (Int × Rat)} {a1 : Int} {a2 : Raw} {d_4 : Bool} {v3 : Int} {i_4 : Nat} {R12 : List (Int × Rat)} {R14 : List (Int × Rat)} {R13 : List (Int × Rat)} {R15 : List (Int × Rat)} {R16 : List (Int × Rat)} {R17 : List (Int × Rat)} {R18 : List (Int × Rat)}
theorem plR_r4_1 (C1 : (i_4 : Int) < (a0.1.length : Int)) (E2 : a0.1[i_4]? = some (v3, q3)) (C3 : v3 = a1) (B4aH : H q3 ≤ 17179869184) (B4b : RawB a2) (K5 : runL n 173 [.own 0 out_4.length, .agg [.lit (.int .i64 v3), .lit (.bool (rawQ (q3 + a2.q)).s), natA (rawQ (q3 + a2.q)).l1, natA (rawQ (q3 + a2.q)).l2]] [.row 82 4 (out_4.map termC) 0] = some (.own 0 out_4.length, [(0, .row 82 4 (out_4.map termC) 0)])) (W6 : InI ((i_4 : Int) + 1)) :
    Cont 0 (exec Tryz.prog (tab (n + 1)) 0 61 (livesOf 98) big plR_C4) (livesOf 98 4) (plR_h4 a0 a1 a2 out_4 d_4 i_4) (plR_h4 a0 a1 a2 out_4 true (i_4 + 1)) := by
  have C1_ : i_4 < a0.1.length := by omega
  obtain ⟨EL2, EG2⟩ := List.getElem?_eq_some_iff.1 E2
  have C3_ : (v3 == a1) = true := by rw [C3]; simp
  have C3_n : (v3 != a1) = false := by rw [C3]; simp
  have B4a := rawB_q B4aH
  have K4 := rr_add B4a B4b
  simp only [rawQ_q] at K4
  have W6_ : IntKind.i64.wrap ((i_4 : Int) + 1) = (i_4 : Int) + 1 := wr64 W6.1 W6.2
  unfold Cont
  simp +decide [plR_h4, loopsOf, Tryz.f98, plR_C4, C1, C1_, EL2, EG2, E2, C3_, C3_n, K4, K5, W6_]
theorem plR_r4_2 (C1 : (i_4 : Int) < (a0.1.length : Int)) (E2 : a0.1[i_4]? = some (v3, q3)) (C3 : v3 = a1) (B4aH : H q3 ≤ 17179869184) (B4b : RawB a2) (K5 : runL n 173 [.own 0 out_4.length, .agg [.lit (.int .i64 v3), .lit (.bool (rawQ (q3 + a2.q)).s), natA (rawQ (q3 + a2.q)).l1, natA (rawQ (q3 + a2.q)).l2]] [.row 82 4 (out_4.map termC) 0] = some (.own 3 R12.length, [(3, .row 82 4 (R12.map termC) 0)])) (W6 : InI ((i_4 : Int) + 1)) :
    Cont 0 (exec Tryz.prog (tab (n + 1)) 0 61 (livesOf 98) big plR_C4) (livesOf 98 4) (plR_h4 a0 a1 a2 out_4 d_4 i_4) (plR_h4 a0 a1 a2 R12 true (i_4 + 1)) := by
  have C1_ : i_4 < a0.1.length := by omega
  obtain ⟨EL2, EG2⟩ := List.getElem?_eq_some_iff.1 E2
  have C3_ : (v3 == a1) = true := by rw [C3]; simp
  have C3_n : (v3 != a1) = false := by rw [C3]; simp
  have B4a := rawB_q B4aH
  have K4 := rr_add B4a B4b
  simp only [rawQ_q] at K4
  have W6_ : IntKind.i64.wrap ((i_4 : Int) + 1) = (i_4 : Int) + 1 := wr64 W6.1 W6.2
  unfold Cont
  simp +decide [plR_h4, loopsOf, Tryz.f98, plR_C4, C1, C1_, EL2, EG2, E2, C3_, C3_n, K4, K5, W6_]
theorem plR_r4_4 (C1 : (i_4 : Int) < (a0.1.length : Int)) (E2 : a0.1[i_4]? = some (v3, q3)) (C3 : ¬ v3 = a1) (C4 : d_4 = false) (C5 : a1 < v3) (B6a : RawB a2) (K7 : runL n 173 [.own 0 out_4.length, .agg [.lit (.int .i64 a1), .lit (.bool (rawQ a2.q).s), natA (rawQ a2.q).l1, natA (rawQ a2.q).l2]] [.row 82 4 (out_4.map termC) 0] = some (.own 0 out_4.length, [(0, .row 82 4 (out_4.map termC) 0)])) (K8 : runL n 173 [.own 0 out_4.length, .agg [.lit (.int .i64 v3), .lit (.bool (rawQ q3).s), natA (rawQ q3).l1, natA (rawQ q3).l2]] [.row 82 4 (out_4.map termC) 0] = some (.own 3 R14.length, [(3, .row 82 4 (R14.map termC) 0)])) (W9 : InI ((i_4 : Int) + 1)) :
    Cont 0 (exec Tryz.prog (tab (n + 1)) 0 61 (livesOf 98) big plR_C4) (livesOf 98 4) (plR_h4 a0 a1 a2 out_4 d_4 i_4) (plR_h4 a0 a1 a2 R14 true (i_4 + 1)) := by
  have C1_ : i_4 < a0.1.length := by omega
  obtain ⟨EL2, EG2⟩ := List.getElem?_eq_some_iff.1 E2
  have C3_ : (v3 == a1) = false := by simpa using C3
  have C3_n : (v3 != a1) = true := by simpa using C3
  have K6 := rr_canon B6a
  have W9_ : IntKind.i64.wrap ((i_4 : Int) + 1) = (i_4 : Int) + 1 := wr64 W9.1 W9.2
  unfold Cont
  simp +decide [plR_h4, loopsOf, Tryz.f98, plR_C4, C1, C1_, EL2, EG2, E2, C3_, C3_n, C4, C5, K6, K7, K8, W9_]
theorem plR_r4_6 (C1 : (i_4 : Int) < (a0.1.length : Int)) (E2 : a0.1[i_4]? = some (v3, q3)) (C3 : ¬ v3 = a1) (C4 : d_4 = false) (C5 : a1 < v3) (B6a : RawB a2) (K7 : runL n 173 [.own 0 out_4.length, .agg [.lit (.int .i64 a1), .lit (.bool (rawQ a2.q).s), natA (rawQ a2.q).l1, natA (rawQ a2.q).l2]] [.row 82 4 (out_4.map termC) 0] = some (.own 3 R13.length, [(3, .row 82 4 (R13.map termC) 0)])) (K8 : runL n 173 [.own 0 R13.length, .agg [.lit (.int .i64 v3), .lit (.bool (rawQ q3).s), natA (rawQ q3).l1, natA (rawQ q3).l2]] [.row 82 4 (R13.map termC) 0] = some (.own 3 R15.length, [(3, .row 82 4 (R15.map termC) 0)])) (W9 : InI ((i_4 : Int) + 1)) :
    Cont 0 (exec Tryz.prog (tab (n + 1)) 0 61 (livesOf 98) big plR_C4) (livesOf 98 4) (plR_h4 a0 a1 a2 out_4 d_4 i_4) (plR_h4 a0 a1 a2 R15 true (i_4 + 1)) := by
  have C1_ : i_4 < a0.1.length := by omega
  obtain ⟨EL2, EG2⟩ := List.getElem?_eq_some_iff.1 E2
  have C3_ : (v3 == a1) = false := by simpa using C3
  have C3_n : (v3 != a1) = true := by simpa using C3
  have K6 := rr_canon B6a
  have W9_ : IntKind.i64.wrap ((i_4 : Int) + 1) = (i_4 : Int) + 1 := wr64 W9.1 W9.2
  unfold Cont
  simp +decide [plR_h4, loopsOf, Tryz.f98, plR_C4, C1, C1_, EL2, EG2, E2, C3_, C3_n, C4, C5, K6, K7, K8, W9_]
theorem plR_r4_8 (C1 : (i_4 : Int) < (a0.1.length : Int)) (E2 : a0.1[i_4]? = some (v3, q3)) (C3 : ¬ v3 = a1) (C4 : d_4 = false) (C5 : ¬ a1 < v3) (K6 : runL n 173 [.own 0 out_4.length, .agg [.lit (.int .i64 v3), .lit (.bool (rawQ q3).s), natA (rawQ q3).l1, natA (rawQ q3).l2]] [.row 82 4 (out_4.map termC) 0] = some (.own 3 R16.length, [(3, .row 82 4 (R16.map termC) 0)])) (W7 : InI ((i_4 : Int) + 1)) :
    Cont 0 (exec Tryz.prog (tab (n + 1)) 0 61 (livesOf 98) big plR_C4) (livesOf 98 4) (plR_h4 a0 a1 a2 out_4 d_4 i_4) (plR_h4 a0 a1 a2 R16 d_4 (i_4 + 1)) := by
  have C1_ : i_4 < a0.1.length := by omega
  obtain ⟨EL2, EG2⟩ := List.getElem?_eq_some_iff.1 E2
  have C3_ : (v3 == a1) = false := by simpa using C3
  have C3_n : (v3 != a1) = true := by simpa using C3
  have W7_ : IntKind.i64.wrap ((i_4 : Int) + 1) = (i_4 : Int) + 1 := wr64 W7.1 W7.2
  unfold Cont
  simp +decide [plR_h4, loopsOf, Tryz.f98, plR_C4, C1, C1_, EL2, EG2, E2, C3_, C3_n, C4, C5, K6, W7_]
theorem plR_r4_10 (C1 : (i_4 : Int) < (a0.1.length : Int)) (E2 : a0.1[i_4]? = some (v3, q3)) (C3 : ¬ v3 = a1) (C4 : d_4 = true) (K5 : runL n 173 [.own 0 out_4.length, .agg [.lit (.int .i64 v3), .lit (.bool (rawQ q3).s), natA (rawQ q3).l1, natA (rawQ q3).l2]] [.row 82 4 (out_4.map termC) 0] = some (.own 3 R17.length, [(3, .row 82 4 (R17.map termC) 0)])) (W6 : InI ((i_4 : Int) + 1)) :
    Cont 0 (exec Tryz.prog (tab (n + 1)) 0 61 (livesOf 98) big plR_C4) (livesOf 98 4) (plR_h4 a0 a1 a2 out_4 d_4 i_4) (plR_h4 a0 a1 a2 R17 d_4 (i_4 + 1)) := by
  have C1_ : i_4 < a0.1.length := by omega
  obtain ⟨EL2, EG2⟩ := List.getElem?_eq_some_iff.1 E2
  have C3_ : (v3 == a1) = false := by simpa using C3
  have C3_n : (v3 != a1) = true := by simpa using C3
  have W6_ : IntKind.i64.wrap ((i_4 : Int) + 1) = (i_4 : Int) + 1 := wr64 W6.1 W6.2
  unfold Cont
  simp +decide [plR_h4, loopsOf, Tryz.f98, plR_C4, C1, C1_, EL2, EG2, E2, C3_, C3_n, C4, K5, W6_]
theorem plR_x4_1 (C1 : ¬ (i_4 : Int) < (a0.1.length : Int)) :
    Leave 0 (exec Tryz.prog (tab (n + 1)) 0 61 (livesOf 98) big plR_C4) (livesOf 98 (outOf 4)) (plR_h4 a0 a1 a2 out_4 d_4 i_4) (.exit 0) (plR_o4a a0 a1 a2 out_4 d_4) := by
  have C1_ : ¬ i_4 < a0.1.length := by omega
  unfold Leave
  simp +decide [plR_h4, loopsOf, Tryz.f98, plR_o4a, plR_C4, C1, C1_]
theorem plR_f1 (L1 : loopG Tryz.prog (tab (n + 1)) 0 61 (livesOf 98) 4 plR_C4 (plR_h4 a0 a1 a2 [] false 0) = some (.exit 0, plR_o4a a0 a1 a2 out_4 d_4)) (C2 : d_4 = false) (B3a : RawB a2) (K4 : runL n 173 [.own 0 out_4.length, .agg [.lit (.int .i64 a1), .lit (.bool (rawQ a2.q).s), natA (rawQ a2.q).l1, natA (rawQ a2.q).l2]] [.row 82 4 (out_4.map termC) 0] = some (.own 0 out_4.length, [(0, .row 82 4 (out_4.map termC) 0)])) :
    run (n + 1) 98 [formV a0, .lit (.int .i64 a1), .agg [.lit (.bool a2.s), natA a2.l1, natA a2.l2]] = some (formV (out_4, a0.2)) := by
  have K3 := rr_canon B3a
  unfold run fnP
  simp +decide [Tryz.f98, C2, K3, K4]
  rw [loopX_G (C' := plR_C4) (e := (plR_h4 a0 a1 a2 [] false 0)) ?_ ?_, L1]
  rotate_left
  · kernel_rfl
  · simp +decide [plR_h4, C2, K3, K4]
  simp +decide [plR_o4a, C2, K3, K4]
theorem plR_f2 (L1 : loopG Tryz.prog (tab (n + 1)) 0 61 (livesOf 98) 4 plR_C4 (plR_h4 a0 a1 a2 [] false 0) = some (.exit 0, plR_o4a a0 a1 a2 out_4 d_4)) (C2 : d_4 = false) (B3a : RawB a2) (K4 : runL n 173 [.own 0 out_4.length, .agg [.lit (.int .i64 a1), .lit (.bool (rawQ a2.q).s), natA (rawQ a2.q).l1, natA (rawQ a2.q).l2]] [.row 82 4 (out_4.map termC) 0] = some (.own 3 R18.length, [(3, .row 82 4 (R18.map termC) 0)])) :
    run (n + 1) 98 [formV a0, .lit (.int .i64 a1), .agg [.lit (.bool a2.s), natA a2.l1, natA a2.l2]] = some (formV (R18, a0.2)) := by
  have K3 := rr_canon B3a
  unfold run fnP
  simp +decide [Tryz.f98, C2, K3, K4]
  rw [loopX_G (C' := plR_C4) (e := (plR_h4 a0 a1 a2 [] false 0)) ?_ ?_, L1]
  rotate_left
  · kernel_rfl
  · simp +decide [plR_h4, C2, K3, K4]
  simp +decide [plR_o4a, C2, K3, K4]
theorem plR_f3 (L1 : loopG Tryz.prog (tab (n + 1)) 0 61 (livesOf 98) 4 plR_C4 (plR_h4 a0 a1 a2 [] false 0) = some (.exit 0, plR_o4a a0 a1 a2 out_4 d_4)) (C2 : d_4 = true) :
    run (n + 1) 98 [formV a0, .lit (.int .i64 a1), .agg [.lit (.bool a2.s), natA a2.l1, natA a2.l2]] = some (formV (out_4, a0.2)) := by
  unfold run fnP
  simp +decide [Tryz.f98, C2]
  rw [loopX_G (C' := plR_C4) (e := (plR_h4 a0 a1 a2 [] false 0)) ?_ ?_, L1]
  rotate_left
  · kernel_rfl
  · simp +decide [plR_h4, C2]
  simp +decide [plR_o4a, C2]
end
end Go.Proofs.YtjpoanaoaeaneaaGreatDoor
