import Derived.Test.YtjpoanaoaeaneaaGreatDoorGC8
import Derived.Test.YtjpoanaoaeaneaaGreatDoorGC7
import Derived.Test.YtjpoanaoaeaneaaGreatDoorGC6
import Derived.Test.YtjpoanaoaeaneaaGreatDoorGC5
set_option linter.all false
set_option maxRecDepth 100000
set_option maxHeartbeats 6400000
namespace Go.Proofs.YtjpoanaoaeaneaaGreatDoor
open Go.RowKit
theorem plR_step {n : Nat} {f : Form} {v : Int} {c : Raw} (hT : TmB 1000000 f.1) (hF : f.1.length ≤ 400000) (hR : RawB c) (hc : H c.q ≤ 1000000) {i : Nat} {t : Int × Rat} {b : List (Int × Rat) × Bool} (hi : f.1[i]? = some t) (hb : b.1.length ≤ 2 * i) :
    Cont 0 (exec Tryz.prog (tab (n + 1)) 0 61 (livesOf 98) big plR_C4) (livesOf 98 4) (plR_h4 f v c b.1 b.2 i) (plR_h4 f v c (plF v c.q i b t).1 (plF v c.q i b t).2 (i + 1)) := by
  obtain ⟨u, q⟩ := t
  obtain ⟨out, d⟩ := b
  have hlt := (List.getElem?_eq_some_iff.1 hi).1
  have ht := hT _ (List.mem_of_getElem? hi)
  have hq : H q ≤ 1000000 := ht.2
  have hq0 : q ≠ 0 := ht.1
  have hH := H_add q c.q
  have C1 : (i : Int) < (f.1.length : Int) := by omega
  have W : InI ((i : Int) + 1) := ⟨by omega, by omega⟩
  have hb : out.length ≤ 2 * i := hb
  have e3 : put1 u q = [(u, q)] := if_neg hq0
  unfold plF
  dsimp only
  split
  · rename_i e
    by_cases h0 : q + c.q = 0
    · have e4 : put1 u (q + c.q) = [] := if_pos h0
      rw [e4, List.append_nil]
      exact plR_r4_1 C1 hi e (by omega) hR (nz_same (by omega) h0) W
    · have e4 : put1 u (q + c.q) = [(u, q + c.q)] := if_neg h0
      rw [e4]
      exact plR_r4_2 C1 hi e (by omega) hR (nz_new (by omega) h0 (by omega)) W
  · rename_i e
    split
    · rename_i e2
      obtain ⟨e2, e5⟩ := e2
      rw [e3]
      by_cases h0 : c.q = 0
      · have e4 : put1 v c.q = [] := if_pos h0
        rw [e4, List.nil_append]
        exact plR_r4_4 C1 hi e e2 e5 hR (nz_same (by omega) h0) (nz_new (by omega) hq0 (by omega)) W
      · have e4 : put1 v c.q = [(v, c.q)] := if_neg h0
        rw [e4, ← List.append_assoc]
        exact plR_r4_6 C1 hi e e2 e5 hR (nz_new (by omega) h0 (by omega)) (nz_new (by omega) hq0 (by rw [List.length_append]; simp; omega)) W
    · rename_i e2
      rw [e3]
      cases d with
      | true => exact plR_r4_10 C1 hi e rfl (nz_new (by omega) hq0 (by omega)) W
      | false => exact plR_r4_8 C1 hi e rfl (fun h => e2 ⟨rfl, h⟩) (nz_new (by omega) hq0 (by omega)) W
theorem plusR_c {n : Nat} {f : Form} {v : Int} {c : Raw} (hT : TmB 1000000 f.1) (hF : f.1.length ≤ 400000) (hR : RawB c) (hc : H c.q ≤ 1000000) :
    run (n + 1) 98 [formV f, .lit (.int .i64 v), .agg [.lit (.bool c.s), natA c.l1, natA c.l2]] = some (formV (plusV false f.1 v c.q, f.2)) := by
  have L : loopG Tryz.prog (tab (n + 1)) 0 61 (livesOf 98) 4 plR_C4 (plR_h4 f v c [] false 0) = some (.exit 0, plR_o4a f v c (plO false f.1 v c.q) (plD false f.1 v)) := by
    have h := (loopG_I (O := tab (n + 1)) (exN := .exit 0) (L := f.1) (enc := fun i b => plR_h4 f v c b.1 b.2 i) (f := plF v c.q) (Inv := fun i b => b.1.length ≤ 2 * i) (out := fun b => plR_o4a f v c b.1 b.2) ([], false) (by simp) (by omega) (by simp)
      (fun i t b hi hI => ⟨plR_step hT hF hR hc hi hI, by have := plF_len v c.q i b t; omega⟩) (fun b hI => plR_x4_1 (by omega))).1
    rw [plF_fold] at h
    exact h
  have hl := plO_len v c.q false f.1
  rw [plusV_plO]
  cases hd : plD false f.1 v with
  | true =>
    rw [hd] at L
    rw [if_pos rfl, List.append_nil]
    exact plR_f3 L rfl
  | false =>
    rw [hd] at L
    rw [if_neg (by simp)]
    by_cases h0 : c.q = 0
    · have e : put1 v c.q = [] := if_pos h0
      rw [e, List.append_nil]
      exact plR_f1 L rfl hR (nz_same (by omega) h0)
    · have e : put1 v c.q = [(v, c.q)] := if_neg h0
      rw [e]
      exact plR_f2 L rfl hR (nz_new (by omega) h0 (by omega))
end Go.Proofs.YtjpoanaoaeaneaaGreatDoor
set_option linter.all false
set_option maxRecDepth 100000
set_option maxHeartbeats 6400000
namespace Go.Proofs.YtjpoanaoaeaneaaGreatDoor
open Go.RowKit
attribute [local irreducible] run runL loopG exec
def qT (t : Int × Raw) : Int × Rat := (t.1, t.2.q)
theorem qT_get {R : List (Int × Raw)} {i : Nat} {w : Int} {p : Raw} (h : R[i]? = some (w, p)) : (R.map qT)[i]? = some (w, p.q) := by rw [List.getElem?_map, h]; rfl
structure TmR (b : Nat) (t : Int × Raw) : Prop where
  r : RawB t.2
  h : H t.2.q ≤ b
theorem lmk_in {n : Nat} {a1 : Raw} {R : List (Int × Raw)} {out : List (Int × Rat)} {i b : Nat} {v : Int} {q : Raw} (hl : R.length ≤ 1000) (hT : ∀ t ∈ R, TmR b t) (hb : b ≤ 100000) (hv : R[i]? = some (v, q)) :
    ∃ (j : Nat) (s : Rat), loopG Tryz.prog (tab (n + 44)) 0 66 (livesOf 32) 9 lmk_C9 (lmk_h9 a1 (i : Int) v R out 0) = some (.exit 2, lmk_o9a a1 (j : Int) v R out s) ∧ i < j ∧ j ≤ R.length ∧ (∀ u, smc ((R.map qT).take j) u = smc ((R.map qT).take i) u + if u = v then s else 0) ∧ (∀ t, R[j]? = some t → t.1 ≠ v) ∧ H s ≤ 1 + (b + 1) * R.length := by
  have hi : i < R.length := (List.getElem?_eq_some_iff.1 hv).1
  obtain ⟨ex, t, h1, h2⟩ := loopG_Q (β := Rat) (P := Tryz.prog) (O := tab (n + 44)) (m := 0) (N := 66) (lives := livesOf 32) (r := 9) (C := lmk_C9) (M := R.length - i) (enc := fun k s => lmk_h9 a1 ((i + k : Nat) : Int) v R out s)
    (fun k s => i + k ≤ R.length ∧ (∀ u, smc ((R.map qT).take (i + k)) u = smc ((R.map qT).take i) u + if u = v then s else 0) ∧ H s ≤ 1 + (b + 1) * k)
    (fun ex t => ∃ (j : Nat) (s : Rat), ex = .exit 2 ∧ t = lmk_o9a a1 (j : Int) v R out s ∧ i < j ∧ j ≤ R.length ∧ (∀ u, smc ((R.map qT).take j) u = smc ((R.map qT).take i) u + if u = v then s else 0) ∧ (∀ t, R[j]? = some t → t.1 ≠ v) ∧ H s ≤ 1 + (b + 1) * R.length) 0
    ⟨by omega, fun u => by rw [Nat.add_zero]; split <;> grind, by have := H_zero; omega⟩ (by omega)
    (fun k s hk hI => by
      obtain ⟨h1, h2, h3⟩ := hI
      have hlt : i + k < R.length := by omega
      obtain ⟨⟨w, p⟩, hw⟩ : ∃ t, R[i + k]? = some t := ⟨_, List.getElem?_eq_getElem hlt⟩
      have hpR := hT _ (List.mem_of_getElem? hw)
      have hp : H p.q ≤ b := hpR.h
      have hpb : RawB p := hpR.r
      have hadd := H_add s p.q
      have hmul : (b + 1) * k ≤ (b + 1) * 1000 := Nat.mul_le_mul_left _ (by omega)
      have hmul2 : (b + 1) * k ≤ (b + 1) * R.length := Nat.mul_le_mul_left _ (by omega)
      have eN : (((i + k : Nat) : Int)).toNat = i + k := Int.toNat_natCast _
      have g : R[(((i + k : Nat) : Int)).toNat]? = some (w, p) := by rw [eN]; exact hw
      by_cases c : w = v
      · refine .inl ⟨s + p.q, ?_, by omega, fun u => ?_, by rw [Nat.mul_succ]; omega⟩
        · have K := lmk_r9_1 (n := n) (a1 := a1) (i_9 := ((i + k : Nat) : Int)) (R2 := R) (v13 := w) (r13 := p) (v10 := v) (s_9 := s) (out_7 := out) (R := R) (by omega) (by omega) (by omega) g (by omega) c (by omega) hpb ⟨by omega, by omega⟩
          have e2 : ((i + k : Nat) : Int) + 1 = ((i + (k + 1) : Nat) : Int) := by omega
          rw [e2] at K
          exact K
        · rw [← Nat.add_assoc, smc_take (qT_get hw), h2, c]
          dsimp only
          split <;> grind
      · refine .inr ⟨_, _, by simp, lmk_x9_1 (n := n) (a1 := a1) (i_9 := ((i + k : Nat) : Int)) (R2 := R) (v13 := w) (r13 := p) (v10 := v) (s_9 := s) (out_7 := out) (R := R) (by omega) (by omega) (by omega) g (by omega) c, i + k, s, rfl, rfl, ?_, h1, h2, fun t ht => by rw [hw] at ht; cases ht; exact c, by omega⟩
        cases k with
        | zero => rw [Nat.add_zero] at hw; rw [hv] at hw; cases hw; exact absurd rfl c
        | succ k => omega)
    (fun s hI => by
      obtain ⟨h1, h2, h3⟩ := hI
      have hmul2 : (b + 1) * (R.length - i) ≤ (b + 1) * R.length := Nat.mul_le_mul_left _ (by omega)
      refine ⟨_, _, by simp, lmk_x9_2 (n := n) (a1 := a1) (i_9 := ((i + (R.length - i) : Nat) : Int)) (R2 := R) (v10 := v) (s_9 := s) (out_7 := out) (R := R) (by omega), i + (R.length - i), s, rfl, rfl, by omega, h1, h2, fun t ht => ?_, by omega⟩
      have := (List.getElem?_eq_some_iff.1 ht).1
      omega)
  obtain ⟨j, s, rfl, rfl, h3⟩ := h2
  exact ⟨j, s, h1, h3⟩
theorem lmk_go {n : Nat} {a1 : Raw} {R : List (Int × Raw)} {b : Nat} (hl : R.length ≤ 1000) (hT : ∀ t ∈ R, TmR b t) (hb : b ≤ 100000) (hs : SoT R R.length) :
    ∃ out : List (Int × Rat), loopG Tryz.prog (tab (n + 44)) 0 66 (livesOf 32) 7 lmk_C7 (lmk_h7 a1 0 R []) = some (.exit 0, lmk_o7a a1 out) ∧ Srt out ∧ ∀ u, cof out u = smc (R.map qT) u := by
  obtain ⟨ex, t, h1, h2⟩ := loopG_Q (β := Nat × List (Int × Rat)) (P := Tryz.prog) (O := tab (n + 44)) (m := 0) (N := 66) (lives := livesOf 32) (r := 7) (C := lmk_C7) (M := R.length) (enc := fun _ x => lmk_h7 a1 ((x.1 : Nat) : Int) R x.2)
    (fun k x => k ≤ x.1 ∧ x.1 ≤ R.length ∧ Srt x.2 ∧ (∀ u, cof x.2 u = smc ((R.map qT).take x.1) u) ∧ (∀ t ∈ x.2, ∀ p s, x.1 ≤ p → R[p]? = some s → t.1 < s.1) ∧ x.2.length ≤ x.1)
    (fun ex t => ∃ out : List (Int × Rat), ex = .exit 0 ∧ t = lmk_o7a a1 out ∧ Srt out ∧ ∀ u, cof out u = smc (R.map qT) u) (0, [])
    ⟨by omega, by omega, Srt.nil, fun u => rfl, fun t ht => (by cases ht), by simp⟩ (by omega)
    (fun k x hk hI => by
      obtain ⟨i, out⟩ := x
      obtain ⟨h1, h2, h3, h4, h5, h6⟩ := hI
      dsimp only at h1 h2 h3 h4 h5 h6 ⊢
      by_cases hi : i < R.length
      · obtain ⟨⟨v, q⟩, hv⟩ : ∃ t, R[i]? = some t := ⟨_, List.getElem?_eq_getElem hi⟩
        obtain ⟨j, s, K, k1, k2, k3, k4, k5⟩ := lmk_in (n := n) (a1 := a1) (out := out) hl hT hb hv
        have hm : (b + 1) * R.length ≤ (b + 1) * 1000 := Nat.mul_le_mul_left _ (by omega)
        have g : R[((i : Nat) : Int).toNat]? = some (v, q) := by rw [Int.toNat_natCast]; exact hv
        have hlow : ∀ t ∈ out, t.1 < v := fun t ht => h5 t ht i (v, q) (Nat.le_refl _) hv
        have hgt : ∀ p s', j ≤ p → R[p]? = some s' → v < s'.1 := fun p s' hp hs' => by
          have hpl := (List.getElem?_eq_some_iff.1 hs').1
          obtain ⟨t', ht'⟩ : ∃ t, R[j]? = some t := ⟨_, List.getElem?_eq_getElem (by omega)⟩
          have a1 := k4 t' ht'
          have a2 : v ≤ t'.1 := hs i j (v, q) t' k1 (by omega) hv ht'
          by_cases e : p = j
          · subst e; rw [ht'] at hs'; cases hs'; omega
          · have := hs j p t' s' (by omega) hpl ht' hs'
            omega
        by_cases h0 : s = 0
        · refine .inl ⟨(j, out), lmk_r7_1 (n := n) (a1 := a1) (i_7 := ((i : Nat) : Int)) (R2 := R) (v10 := v) (r10 := q) (out_7 := out) (i_9 := ((j : Nat) : Int)) (s_9 := s) (R := R) (by omega) (by omega) (by omega) g (by omega) K (pt_same (by omega) h0), by dsimp only; omega, k2, h3, fun u => ?_, fun t ht p s' hp hs' => h5 t ht p s' (by dsimp only at hp; omega) hs', by dsimp only; omega⟩
          dsimp only
          rw [k3, h4, h0]; split <;> grind
        · refine .inl ⟨(j, out ++ [(v, s)]), lmk_r7_2 (n := n) (a1 := a1) (i_7 := ((i : Nat) : Int)) (R2 := R) (v10 := v) (r10 := q) (out_7 := out) (i_9 := ((j : Nat) : Int)) (s_9 := s) (R5 := out ++ [(v, s)]) (R := R) (by omega) (by omega) (by omega) g (by omega) K (pt_new (by omega) h0 (by omega)), by dsimp only; omega, k2, h3.snoc hlow h0, fun u => ?_, fun t ht p s' hp hs' => ?_, by simp; omega⟩
          · dsimp only
            rw [cof_snoc v s u out fun t ht => by have := hlow t ht; omega, k3, h4]
          · dsimp only at ht hp
            rcases List.mem_append.1 ht with a | a
            · exact h5 t a p s' (by omega) hs'
            · simp at a; rw [a]; exact hgt p s' hp hs'
      · refine .inr ⟨_, _, by simp, lmk_x7_1 (n := n) (a1 := a1) (i_7 := ((i : Nat) : Int)) (R2 := R) (out_7 := out) (R := R) (by omega), out, rfl, rfl, h3, fun u => ?_⟩
        rw [h4, List.take_of_length_le (by rw [List.length_map]; omega)])
    (fun x hI => by
      obtain ⟨i, out⟩ := x
      obtain ⟨h1, h2, h3, h4, h5, h6⟩ := hI
      dsimp only at h1 h2 h3 h4 h5 h6 ⊢
      refine ⟨_, _, by simp, lmk_x7_1 (n := n) (a1 := a1) (i_7 := ((i : Nat) : Int)) (R2 := R) (out_7 := out) (R := R) (by omega), out, rfl, rfl, h3, fun u => ?_⟩
      rw [h4, List.take_of_length_le (by rw [List.length_map]; omega)])
  obtain ⟨out, rfl, rfl, h3⟩ := h2
  exact ⟨out, h1, h3⟩
theorem cl_nil : clT [.sl 4 (([] : List (Int × Raw)).map termRC)] [] = some (.sl 4 [], []) := rfl
theorem cl_term (t : Int × Raw) (L : List (Int × Raw)) (h : L.length ≤ 1000000) : clT [.sl 4 ((t :: L).map termRC)] [] = some (.own 2 (t :: L).length, [(2, .row 82 4 ((t :: L).map termRC) 0)]) := by
  rw [List.map_cons, clT, if_pos ⟨by simp, by simpa using by omega⟩]
  simp
theorem sort_nil {n : Nat} : runL (n + 44) 93 [.sl 4 ([] : List (List AV)), .clo 94 []] [] = some (.tup [], []) := by kernel_rfl
theorem lmk_ok {n : Nat} {L : List (Int × Raw)} {a1 : Raw} {b : Nat} (hl : L.length ≤ 19) (hT : ∀ t ∈ L, TmR b t) (hb : b ≤ 100000) (ha : RawB a1) (h0 : ∀ t ∈ L, 0 ≤ t.1) :
    run (n + 45) 32 [.sl 4 (L.map termRC), .agg [.lit (.bool a1.s), natA a1.l1, natA a1.l2]] = some (.tup [formV (addV [] (L.map qT), a1.q), .lit (.int .i64 0)]) := by
  cases L with
  | nil =>
    obtain ⟨ex, t, h1, h2⟩ := loopG_Q (β := Unit) (P := Tryz.prog) (O := tab (n + 1 + 44)) (m := 0) (N := 66) (lives := livesOf 32) (r := 7) (C := lmn_C7) (M := 0) (enc := fun _ _ => lmn_h7 a1 0 [])
      (fun k x => True) (fun ex t => ex = .exit 0 ∧ t = lmn_o7a a1 []) () trivial (by omega) (fun k x hk => by omega)
      (fun x _ => ⟨_, _, by simp, lmn_x7_1 (n := n + 1), rfl, rfl⟩)
    obtain ⟨rfl, rfl⟩ := h2
    exact lmn_f3 (n := n + 1) cl_nil sort_nil (by simp) ha h1
  | cons t L =>
    obtain ⟨R, K, hp, hs⟩ := srt_c (n := n) (L := t :: L) (by omega)
    have he := hp.length_eq
    obtain ⟨out, h1, h2, h3⟩ := lmk_go (n := n + 1) (a1 := a1) (R := R) (b := b) (by omega) (fun x hx => hT x (hp.mem_iff.1 hx)) hb hs
    have e : out = addV [] ((t :: L).map qT) := srt_ext h2 (add_any Srt.nil).1 fun u => by rw [h3, (add_any Srt.nil).2, smc_perm (hp.map qT), cof_nil]; grind
    have C := cl_term t L (by simp at hl; omega)
    rw [← he] at C K
    have hlt : 0 < R.length := by rw [he]; simp
    obtain ⟨⟨v, q⟩, hv⟩ : ∃ x, R[0]? = some x := ⟨_, List.getElem?_eq_getElem hlt⟩
    have := h0 (v, q) (hp.mem_iff.1 (List.mem_of_getElem? hv))
    rw [← e]
    exact lmk_f2 (n := n + 1) C K (by omega) hlt hv (by dsimp only at this; omega) ha h1
theorem lmk_bad {n : Nat} {L : List (Int × Raw)} {a1 : Raw} (hl : L.length ≤ 19) (h0 : ¬ ∀ t ∈ L, 0 ≤ t.1) :
    run (n + 45) 32 [.sl 4 (L.map termRC), .agg [.lit (.bool a1.s), natA a1.l1, natA a1.l2]] = some (.tup [.agg [.sl 4 [], .lit (.bool false), .sl 1 [], .sl 1 []], .lit (.int .i64 1)]) := by
  cases L with
  | nil => exact absurd (fun t ht => by cases ht) h0
  | cons t L =>
    obtain ⟨R, K, hp, hs⟩ := srt_c (n := n) (L := t :: L) (by omega)
    have he := hp.length_eq
    have C := cl_term t L (by simp at hl; omega)
    rw [← he] at C K
    have hlt : 0 < R.length := by rw [he]; simp
    obtain ⟨⟨v, q⟩, hv⟩ : ∃ x, R[0]? = some x := ⟨_, List.getElem?_eq_getElem hlt⟩
    refine lmk_f1 (n := n + 1) C K (by omega) hlt hv ?_
    refine Int.not_le.1 fun hv0 => h0 fun x hx => ?_
    obtain ⟨p, hpl, hx'⟩ := List.getElem_of_mem (hp.mem_iff.2 hx)
    have hx2 : R[p]? = some x := by rw [List.getElem?_eq_getElem hpl, hx']
    cases p with
    | zero => rw [hv] at hx2; cases hx2; exact hv0
    | succ p => have := hs 0 (p + 1) (v, q) x (by omega) hpl hv hx2; dsimp only at this; omega
theorem fmk_r {n : Nat} {L : List (Int × Raw)} {a1 : Raw} {b : Nat} (hl : L.length ≤ 1000) (hT : ∀ t ∈ L, TmR b t) (hb : b ≤ 900) :
    (∃ l, loopG Tryz.prog (tab (n + 2)) 0 37 (livesOf 33) 3 fmr_C3 (fmr_h3 L 0 [] a1.q) = some (.ret, fmr_o3a l a1.q) ∧ ¬ ∀ t ∈ L, 0 ≤ t.1) ∨ (loopG Tryz.prog (tab (n + 2)) 0 37 (livesOf 33) 3 fmr_C3 (fmr_h3 L 0 [] a1.q) = some (.exit 0, fmr_o3b (addV [] (L.map qT)) a1.q) ∧ ∀ t ∈ L, 0 ≤ t.1) := by
  obtain ⟨ex, t, h1, h2⟩ := loopG_Q (β := List (Int × Rat)) (P := Tryz.prog) (O := tab (n + 2)) (m := 0) (N := 37) (lives := livesOf 33) (r := 3) (C := fmr_C3) (M := L.length) (enc := fun k o => fmr_h3 L k o a1.q)
    (fun k o => o = addV [] ((L.take k).map qT) ∧ o.length ≤ k ∧ TmB ((b + 1) * k) o ∧ k ≤ L.length ∧ ∀ t ∈ L.take k, 0 ≤ t.1)
    (fun ex t => (∃ l, ex = .ret ∧ t = fmr_o3a l a1.q ∧ ¬ ∀ t ∈ L, 0 ≤ t.1) ∨ (ex = .exit 0 ∧ t = fmr_o3b (addV [] (L.map qT)) a1.q ∧ ∀ t ∈ L, 0 ≤ t.1)) [] ⟨rfl, by simp, fun t ht => (by cases ht), by omega, fun t ht => (by cases ht)⟩ (by omega)
    (fun i o hi hI => by
      obtain ⟨hI0, hI1, hI2, hI3, hI4⟩ := hI
      obtain ⟨⟨u, q⟩, hx⟩ : ∃ t, L[i]? = some t := ⟨_, List.getElem?_eq_getElem hi⟩
      have hm := List.mem_of_getElem? hx
      have hR := hT _ hm
      have hq : H q.q ≤ b := hR.h
      by_cases c : u < 0
      · exact .inr ⟨_, _, by simp, fmr_x3_1 (by omega) hx c, .inl ⟨o, rfl, rfl, fun h => by have := h _ hm; dsimp only at this; omega⟩⟩
      · have hl2 := plusV_len false o u q.q
        have hmi : (b + 1) * i ≤ (b + 1) * 1000 := Nat.mul_le_mul_left _ (by omega)
        have e : (b + 1) * (i + 1) = (b + 1) * i + b + 1 := by rw [Nat.mul_succ]; omega
        have et : L.take (i + 1) = L.take i ++ [(u, q)] := by rw [List.take_add_one, hx]; rfl
        refine .inl ⟨plusV false o u q.q, fmr_r3_1 (r6 := (plusV false o u q.q, a1.q)) (by omega) hx c (plusR_c (f := (o, a1.q)) (hI2.mono (by omega)) (by dsimp only; omega) hR.r (by omega)) ⟨by omega, by omega⟩, ?_, by omega, ?_, by omega, fun t ht => ?_⟩
        · rw [et, List.map_append, hI0]
          show _ = (((L.take i).map qT) ++ [qT (u, q)]).foldl (fun o t => plusV false o t.1 t.2) []
          rw [List.foldl_append]; rfl
        · rw [e]; exact hI2.plus hq
        · rw [et] at ht
          rcases List.mem_append.1 ht with ht | ht
          · exact hI4 t ht
          · rw [List.mem_singleton.1 ht]; dsimp only; omega)
    (fun o hI => by
      obtain ⟨hI0, hI1, hI2, hI3, hI4⟩ := hI
      rw [List.take_length] at hI0 hI4
      exact ⟨_, _, by simp, fmr_x3_2 (by omega), .inr ⟨rfl, by rw [hI0], hI4⟩⟩)
  rcases h2 with ⟨l, rfl, rfl, h3⟩ | ⟨rfl, rfl, h3⟩
  · exact .inl ⟨l, h1, h3⟩
  · exact .inr ⟨h1, h3⟩
end Go.Proofs.YtjpoanaoaeaneaaGreatDoor
set_option linter.all false
set_option maxRecDepth 100000
namespace Go.Proofs.YtjpoanaoaeaneaaGreatDoor
open Go.RowKit
theorem awake_c {n : Nat} : run 12 15 [] = some (.lit (.bool true)) := by kernel_rfl
end Go.Proofs.YtjpoanaoaeaneaaGreatDoor
set_option linter.all false
namespace Go.Proofs.YtjpoanaoaeaneaaGreatDoor
open Go.RowKit
def awG (args : List AV) : Option AV := match args with | [] => some (.lit (.bool true)) | _ => none
theorem con_awake : ∀ args r, awG args = some r → Con Tryz.prog 15 args r := fun args r hr => by
  unfold awG at hr
  split at hr
  · cases hr
    exact ((tab_ok 13).pure _ _ (tb_15 12)).2 _ _ (awake_c (n := 0))
  · cases hr
end Go.Proofs.YtjpoanaoaeaneaaGreatDoor
set_option linter.all false
set_option maxRecDepth 100000
set_option maxHeartbeats 6400000
namespace Go.Proofs.YtjpoanaoaeaneaaGreatDoor
open Go.RowKit
noncomputable def lmlT (n : Nat) : FuncId → Option Orc := ext (tab (n + 45)) 15 (.pure awG)
theorem lmlT_ok (n : Nat) : OrcOk Tryz.prog (lmlT n) := (tab_ok (n + 45)).extP (by kernel_rfl) con_awake
noncomputable def lml (n : Nat) (args : List AV) : Option AV := fnP Tryz.prog (lmlT n) (livesOf 7) big (fnOf 7) args
theorem lml_con {n : Nat} {args : List AV} {r : AV} (h : lml n args = some r) : Con Tryz.prog 7 args r :=
  con_of (lmlT_ok n) mixed (plain_fn (by kernel_rfl)) (body_some (by kernel_rfl) (plain_fn (by kernel_rfl))) h
theorem lml_aw (n : Nat) : lmlT n 15 = some (.pure awG) := by unfold lmlT ext; rw [if_pos rfl]
theorem lml_l17 (n : Nat) : lmlT n 17 = some (.pure (run (n + 44) 17)) := by unfold lmlT ext; rw [if_neg (by decide)]; exact tb_17 _
theorem lml_l21 (n : Nat) : lmlT n 21 = some (.pure (run (n + 44) 21)) := by unfold lmlT ext; rw [if_neg (by decide)]; exact tb_21 _
theorem lml_l31 (n : Nat) : lmlT n 31 = some (.pure (run (n + 44) 31)) := by unfold lmlT ext; rw [if_neg (by decide)]; exact tb_31 _
theorem lml_l32 (n : Nat) : lmlT n 32 = some (.pure (run (n + 44) 32)) := by unfold lmlT ext; rw [if_neg (by decide)]; exact tb_32 _
theorem lml_l33 (n : Nat) : lmlT n 33 = some (.pure (run (n + 44) 33)) := by unfold lmlT ext; rw [if_neg (by decide)]; exact tb_33 _
theorem lml_l34 (n : Nat) : lmlT n 34 = some (.pure (run (n + 44) 34)) := by unfold lmlT ext; rw [if_neg (by decide)]; exact tb_34 _
section
variable {n : Nat} {r : Bool} {a0 : List (Int × Raw)} {a1 : Raw} {a2 : Int} {r4 : Form} {r8 : Bool} {r7 : Bool} {r5 : Int} {r3 : Int} {r6 : Bool} {r2 : Form}
theorem lml_f1 (K1 : run (n + 44) 31 [.sl 4 (a0.map termRC), .agg [.lit (.bool a1.s), natA a1.l1, natA a1.l2]] = some (.lit (.bool r))) (C2 : r = false) :
    lml n [.sl 4 (a0.map termRC), .agg [.lit (.bool a1.s), natA a1.l1, natA a1.l2], .lit (.int .i64 a2)] = some (.lit (.bool true)) := by
  unfold lml fnP
  simp +decide [Tryz.f7, K1, C2, lml_aw, awG, lml_l17, lml_l21, lml_l31, lml_l32, lml_l33, lml_l34]
theorem lml_f2 (K1 : run (n + 44) 31 [.sl 4 (a0.map termRC), .agg [.lit (.bool a1.s), natA a1.l1, natA a1.l2]] = some (.lit (.bool r))) (C2 : r = true) (M3 : a0.length ≤ 100000000) (K4 : run (n + 44) 32 [.sl 4 (a0.map termRC), .agg [.lit (.bool a1.s), natA a1.l1, natA a1.l2]] = some (.tup [formV r2, .lit (.int .i64 r3)])) (K5 : run (n + 44) 33 [.sl 4 (a0.map termRC), .agg [.lit (.bool a1.s), natA a1.l1, natA a1.l2]] = some (.tup [formV r4, .lit (.int .i64 r5)])) (C6 : r3 = r5) (K7 : run (n + 44) 21 [formV r2, formV r4] = some (.lit (.bool r6))) (C8 : r6 = true) (K9 : run (n + 44) 34 [.agg [.sl 4 (a0.map termRC), .lit (.bool a1.s), natA a1.l1, natA a1.l2], .lit (.int .i64 a2)] = some (.lit (.bool r7))) (K10 : run (n + 44) 17 [.agg [.sl 4 (a0.map termRC), .lit (.bool a1.s), natA a1.l1, natA a1.l2], .lit (.int .i64 a2)] = some (.lit (.bool r8))) :
    lml n [.sl 4 (a0.map termRC), .agg [.lit (.bool a1.s), natA a1.l1, natA a1.l2], .lit (.int .i64 a2)] = some (.lit (.bool (r7 == r8))) := by
  have M3_ : ∀ b, b ≤ 10000 → roomy (a0.length) b = true := fun b hb => roomy_s M3 hb
  simp only [formV] at K4
  simp only [formV] at K5
  have C6_ : (r3 == r5) = true := by rw [C6]; simp
  have C6_n : (r3 != r5) = false := by rw [C6]; simp
  simp only [formV] at K7
  unfold lml fnP
  simp +decide [Tryz.f7, K1, C2, M3_, K4, K5, C6_, C6_n, K7, C8, K9, K10, lml_aw, awG, lml_l17, lml_l21, lml_l31, lml_l32, lml_l33, lml_l34]
end
end Go.Proofs.YtjpoanaoaeaneaaGreatDoor
set_option linter.all false
set_option maxRecDepth 100000
set_option maxHeartbeats 6400000
namespace Go.Proofs.YtjpoanaoaeaneaaGreatDoor
open Go.RowKit
attribute [local irreducible] run runL loopG exec
end Go.Proofs.YtjpoanaoaeaneaaGreatDoor
set_option linter.all false
set_option maxRecDepth 100000
set_option maxHeartbeats 6400000
namespace Go.Proofs.YtjpoanaoaeaneaaGreatDoor
open Go.RowKit
noncomputable def vaR_C2 : Code := (loopsOf (bodyOf Tryz.f17)).getD 0 .skip
def vaR_h2 (a0 : FormR) (a1 : Int) (i_2 : Nat) : St :=
  ⟨[(1, .lit (.int .i64 a1)), (2, .ptr 0 0), (5, .lit (.int .i64 (i_2 : Int)))],
   [(0, some (.box 28 [.sl 4 (a0.1.map termRC), .lit (.bool a0.2.s), natA a0.2.l1, natA a0.2.l2] false))], 1⟩
def vaR_o2a (a0 : FormR) : St :=
  ⟨[(2, .ptr 0 0), (4, .lit (.bool false))],
   [(0, some (.box 28 [.sl 4 (a0.1.map termRC), .lit (.bool a0.2.s), natA a0.2.l1, natA a0.2.l2] false))], 1⟩
def vaR_o2b (a0 : FormR) : St :=
  ⟨[(2, .ptr 0 0), (4, .any)],
   [(0, some (.box 28 [.sl 4 (a0.1.map termRC), .lit (.bool a0.2.s), natA a0.2.l1, natA a0.2.l2] false))], 1⟩
section
variable {r4 : Raw} {n : Nat} {i_2 : Nat} {a0 : FormR} {a1 : Int} {v5 : Int} {r5 : Raw} {v4 : Int}
theorem vaR_r2_1 (C1 : (i_2 : Int) < (a0.1.length : Int)) (E2 : a0.1[i_2]? = some (v4, r4)) (C3 : ¬ v4 < 0) (C4 : ¬ a1 ≤ v4) (C5 : 0 < (i_2 : Int)) (W6 : InI ((i_2 : Int) - 1)) (E7 : a0.1[i_2 - 1]? = some (v5, r5)) (Z7 : 1 ≤ i_2) (C8 : ¬ v4 ≤ v5) (B9a : RawB r4) (C10 : ¬ sgR r4.q = 0) (C12 : RatV r4.s r4.l1 r4.l2) (W13 : InI ((i_2 : Int) + 1)) :
    Cont 0 (exec Tryz.prog (tab n) 0 59 (livesOf 17) big vaR_C2) (livesOf 17 2) (vaR_h2 a0 a1 i_2) (vaR_h2 a0 a1 (i_2 + 1)) := by
  have C1_ : i_2 < a0.1.length := by omega
  obtain ⟨EL2, EG2⟩ := List.getElem?_eq_some_iff.1 E2
  have C5_ : 0 < i_2 := by omega
  have C5_z : (i_2 : Int) ≠ 0 := by omega
  have C5_e : ((i_2 : Int) == 0) = false := by simpa using C5_z
  have C5_g : ((i_2 : Int) != 0) = true := by simpa using C5_z
  have W6_ : IntKind.i64.wrap ((i_2 : Int) - 1) = (i_2 : Int) - 1 := wr64 W6.1 W6.2
  obtain ⟨EL7, EG7⟩ := List.getElem?_eq_some_iff.1 E7
  have Z7_0 : (1 : Int) ≤ (i_2 : Int) := by omega
  have Z7_1 : 0 ≤ (i_2 : Int) - 1 := by omega
  have K9 := rr_sign B9a
  have C10_ : (sgR r4.q == 0) = false := by simpa using C10
  have C10_n : (sgR r4.q != 0) = true := by simpa using C10
  have K11 := rr_valid B9a
  have W13_ : IntKind.i64.wrap ((i_2 : Int) + 1) = (i_2 : Int) + 1 := wr64 W13.1 W13.2
  unfold Cont
  simp +decide [vaR_h2, loopsOf, Tryz.f17, vaR_C2, C1, C1_, EL2, EG2, E2, C3, C4, C5, C5_, C5_e, C5_g, W6_, EL7, EG7, E7, Z7, Z7_0, Z7_1, C8, K9, C10_, C10_n, K11, C12, W13_]
theorem vaR_r2_2 (C1 : (i_2 : Int) < (a0.1.length : Int)) (E2 : a0.1[i_2]? = some (v4, r4)) (C3 : ¬ v4 < 0) (C4 : ¬ a1 ≤ v4) (C5 : ¬ 0 < (i_2 : Int)) (B6a : RawB r4) (C7 : ¬ sgR r4.q = 0) (C9 : RatV r4.s r4.l1 r4.l2) (W10 : InI ((i_2 : Int) + 1)) :
    Cont 0 (exec Tryz.prog (tab n) 0 59 (livesOf 17) big vaR_C2) (livesOf 17 2) (vaR_h2 a0 a1 i_2) (vaR_h2 a0 a1 (i_2 + 1)) := by
  have C1_ : i_2 < a0.1.length := by omega
  obtain ⟨EL2, EG2⟩ := List.getElem?_eq_some_iff.1 E2
  have C5_ : ¬ 0 < i_2 := by omega
  have C5_z : (i_2 : Int) = 0 := by omega
  have C5_e : ((i_2 : Int) == 0) = true := by rw [C5_z]; simp
  have C5_g : ((i_2 : Int) != 0) = false := by rw [C5_z]; simp
  have K6 := rr_sign B6a
  have C7_ : (sgR r4.q == 0) = false := by simpa using C7
  have C7_n : (sgR r4.q != 0) = true := by simpa using C7
  have K8 := rr_valid B6a
  have W10_ : IntKind.i64.wrap ((i_2 : Int) + 1) = (i_2 : Int) + 1 := wr64 W10.1 W10.2
  unfold Cont
  simp +decide [vaR_h2, loopsOf, Tryz.f17, vaR_C2, C1, C1_, EL2, EG2, E2, C3, C4, C5, C5_, C5_e, C5_g, K6, C7_, C7_n, K8, C9, W10_]
theorem vaR_x2_1 (C1 : (i_2 : Int) < (a0.1.length : Int)) (E2 : a0.1[i_2]? = some (v4, r4)) (C3 : v4 < 0) :
    Leave 0 (exec Tryz.prog (tab n) 0 59 (livesOf 17) big vaR_C2) (livesOf 17 (outOf 2)) (vaR_h2 a0 a1 i_2) (.ret) (vaR_o2a a0) := by
  have C1_ : i_2 < a0.1.length := by omega
  obtain ⟨EL2, EG2⟩ := List.getElem?_eq_some_iff.1 E2
  unfold Leave
  simp +decide [vaR_h2, loopsOf, Tryz.f17, vaR_o2a, vaR_C2, C1, C1_, EL2, EG2, E2, C3]
theorem vaR_x2_2 (C1 : (i_2 : Int) < (a0.1.length : Int)) (E2 : a0.1[i_2]? = some (v4, r4)) (C3 : ¬ v4 < 0) (C4 : a1 ≤ v4) :
    Leave 0 (exec Tryz.prog (tab n) 0 59 (livesOf 17) big vaR_C2) (livesOf 17 (outOf 2)) (vaR_h2 a0 a1 i_2) (.ret) (vaR_o2a a0) := by
  have C1_ : i_2 < a0.1.length := by omega
  obtain ⟨EL2, EG2⟩ := List.getElem?_eq_some_iff.1 E2
  unfold Leave
  simp +decide [vaR_h2, loopsOf, Tryz.f17, vaR_o2a, vaR_C2, C1, C1_, EL2, EG2, E2, C3, C4]
theorem vaR_x2_3 (C1 : (i_2 : Int) < (a0.1.length : Int)) (E2 : a0.1[i_2]? = some (v4, r4)) (C3 : ¬ v4 < 0) (C4 : ¬ a1 ≤ v4) (C5 : 0 < (i_2 : Int)) (W6 : InI ((i_2 : Int) - 1)) (E7 : a0.1[i_2 - 1]? = some (v5, r5)) (Z7 : 1 ≤ i_2) (C8 : v4 ≤ v5) :
    Leave 0 (exec Tryz.prog (tab n) 0 59 (livesOf 17) big vaR_C2) (livesOf 17 (outOf 2)) (vaR_h2 a0 a1 i_2) (.ret) (vaR_o2a a0) := by
  have C1_ : i_2 < a0.1.length := by omega
  obtain ⟨EL2, EG2⟩ := List.getElem?_eq_some_iff.1 E2
  have C5_ : 0 < i_2 := by omega
  have C5_z : (i_2 : Int) ≠ 0 := by omega
  have C5_e : ((i_2 : Int) == 0) = false := by simpa using C5_z
  have C5_g : ((i_2 : Int) != 0) = true := by simpa using C5_z
  have W6_ : IntKind.i64.wrap ((i_2 : Int) - 1) = (i_2 : Int) - 1 := wr64 W6.1 W6.2
  obtain ⟨EL7, EG7⟩ := List.getElem?_eq_some_iff.1 E7
  have Z7_0 : (1 : Int) ≤ (i_2 : Int) := by omega
  have Z7_1 : 0 ≤ (i_2 : Int) - 1 := by omega
  unfold Leave
  simp +decide [vaR_h2, loopsOf, Tryz.f17, vaR_o2a, vaR_C2, C1, C1_, EL2, EG2, E2, C3, C4, C5, C5_, C5_e, C5_g, W6_, EL7, EG7, E7, Z7, Z7_0, Z7_1, C8]
theorem vaR_x2_4 (C1 : (i_2 : Int) < (a0.1.length : Int)) (E2 : a0.1[i_2]? = some (v4, r4)) (C3 : ¬ v4 < 0) (C4 : ¬ a1 ≤ v4) (C5 : 0 < (i_2 : Int)) (W6 : InI ((i_2 : Int) - 1)) (E7 : a0.1[i_2 - 1]? = some (v5, r5)) (Z7 : 1 ≤ i_2) (C8 : ¬ v4 ≤ v5) (B9a : RawB r4) (C10 : sgR r4.q = 0) :
    Leave 0 (exec Tryz.prog (tab n) 0 59 (livesOf 17) big vaR_C2) (livesOf 17 (outOf 2)) (vaR_h2 a0 a1 i_2) (.ret) (vaR_o2a a0) := by
  have C1_ : i_2 < a0.1.length := by omega
  obtain ⟨EL2, EG2⟩ := List.getElem?_eq_some_iff.1 E2
  have C5_ : 0 < i_2 := by omega
  have C5_z : (i_2 : Int) ≠ 0 := by omega
  have C5_e : ((i_2 : Int) == 0) = false := by simpa using C5_z
  have C5_g : ((i_2 : Int) != 0) = true := by simpa using C5_z
  have W6_ : IntKind.i64.wrap ((i_2 : Int) - 1) = (i_2 : Int) - 1 := wr64 W6.1 W6.2
  obtain ⟨EL7, EG7⟩ := List.getElem?_eq_some_iff.1 E7
  have Z7_0 : (1 : Int) ≤ (i_2 : Int) := by omega
  have Z7_1 : 0 ≤ (i_2 : Int) - 1 := by omega
  have K9 := rr_sign B9a
  have C10_ : (sgR r4.q == 0) = true := by rw [C10]; simp
  have C10_n : (sgR r4.q != 0) = false := by rw [C10]; simp
  unfold Leave
  simp +decide [vaR_h2, loopsOf, Tryz.f17, vaR_o2a, vaR_C2, C1, C1_, EL2, EG2, E2, C3, C4, C5, C5_, C5_e, C5_g, W6_, EL7, EG7, E7, Z7, Z7_0, Z7_1, C8, K9, C10_, C10_n]
theorem vaR_x2_5 (C1 : (i_2 : Int) < (a0.1.length : Int)) (E2 : a0.1[i_2]? = some (v4, r4)) (C3 : ¬ v4 < 0) (C4 : ¬ a1 ≤ v4) (C5 : 0 < (i_2 : Int)) (W6 : InI ((i_2 : Int) - 1)) (E7 : a0.1[i_2 - 1]? = some (v5, r5)) (Z7 : 1 ≤ i_2) (C8 : ¬ v4 ≤ v5) (B9a : RawB r4) (C10 : ¬ sgR r4.q = 0) (C12 : ¬ (RatV r4.s r4.l1 r4.l2)) :
    Leave 0 (exec Tryz.prog (tab n) 0 59 (livesOf 17) big vaR_C2) (livesOf 17 (outOf 2)) (vaR_h2 a0 a1 i_2) (.ret) (vaR_o2a a0) := by
  have C1_ : i_2 < a0.1.length := by omega
  obtain ⟨EL2, EG2⟩ := List.getElem?_eq_some_iff.1 E2
  have C5_ : 0 < i_2 := by omega
  have C5_z : (i_2 : Int) ≠ 0 := by omega
  have C5_e : ((i_2 : Int) == 0) = false := by simpa using C5_z
  have C5_g : ((i_2 : Int) != 0) = true := by simpa using C5_z
  have W6_ : IntKind.i64.wrap ((i_2 : Int) - 1) = (i_2 : Int) - 1 := wr64 W6.1 W6.2
  obtain ⟨EL7, EG7⟩ := List.getElem?_eq_some_iff.1 E7
  have Z7_0 : (1 : Int) ≤ (i_2 : Int) := by omega
  have Z7_1 : 0 ≤ (i_2 : Int) - 1 := by omega
  have K9 := rr_sign B9a
  have C10_ : (sgR r4.q == 0) = false := by simpa using C10
  have C10_n : (sgR r4.q != 0) = true := by simpa using C10
  have K11 := rr_valid B9a
  unfold Leave
  simp +decide [vaR_h2, loopsOf, Tryz.f17, vaR_o2a, vaR_C2, C1, C1_, EL2, EG2, E2, C3, C4, C5, C5_, C5_e, C5_g, W6_, EL7, EG7, E7, Z7, Z7_0, Z7_1, C8, K9, C10_, C10_n, K11, C12]
theorem vaR_x2_6 (C1 : (i_2 : Int) < (a0.1.length : Int)) (E2 : a0.1[i_2]? = some (v4, r4)) (C3 : ¬ v4 < 0) (C4 : ¬ a1 ≤ v4) (C5 : ¬ 0 < (i_2 : Int)) (B6a : RawB r4) (C7 : sgR r4.q = 0) :
    Leave 0 (exec Tryz.prog (tab n) 0 59 (livesOf 17) big vaR_C2) (livesOf 17 (outOf 2)) (vaR_h2 a0 a1 i_2) (.ret) (vaR_o2a a0) := by
  have C1_ : i_2 < a0.1.length := by omega
  obtain ⟨EL2, EG2⟩ := List.getElem?_eq_some_iff.1 E2
  have C5_ : ¬ 0 < i_2 := by omega
  have C5_z : (i_2 : Int) = 0 := by omega
  have C5_e : ((i_2 : Int) == 0) = true := by rw [C5_z]; simp
  have C5_g : ((i_2 : Int) != 0) = false := by rw [C5_z]; simp
  have K6 := rr_sign B6a
  have C7_ : (sgR r4.q == 0) = true := by rw [C7]; simp
  have C7_n : (sgR r4.q != 0) = false := by rw [C7]; simp
  unfold Leave
  simp +decide [vaR_h2, loopsOf, Tryz.f17, vaR_o2a, vaR_C2, C1, C1_, EL2, EG2, E2, C3, C4, C5, C5_, C5_e, C5_g, K6, C7_, C7_n]
theorem vaR_x2_7 (C1 : (i_2 : Int) < (a0.1.length : Int)) (E2 : a0.1[i_2]? = some (v4, r4)) (C3 : ¬ v4 < 0) (C4 : ¬ a1 ≤ v4) (C5 : ¬ 0 < (i_2 : Int)) (B6a : RawB r4) (C7 : ¬ sgR r4.q = 0) (C9 : ¬ (RatV r4.s r4.l1 r4.l2)) :
    Leave 0 (exec Tryz.prog (tab n) 0 59 (livesOf 17) big vaR_C2) (livesOf 17 (outOf 2)) (vaR_h2 a0 a1 i_2) (.ret) (vaR_o2a a0) := by
  have C1_ : i_2 < a0.1.length := by omega
  obtain ⟨EL2, EG2⟩ := List.getElem?_eq_some_iff.1 E2
  have C5_ : ¬ 0 < i_2 := by omega
  have C5_z : (i_2 : Int) = 0 := by omega
  have C5_e : ((i_2 : Int) == 0) = true := by rw [C5_z]; simp
  have C5_g : ((i_2 : Int) != 0) = false := by rw [C5_z]; simp
  have K6 := rr_sign B6a
  have C7_ : (sgR r4.q == 0) = false := by simpa using C7
  have C7_n : (sgR r4.q != 0) = true := by simpa using C7
  have K8 := rr_valid B6a
  unfold Leave
  simp +decide [vaR_h2, loopsOf, Tryz.f17, vaR_o2a, vaR_C2, C1, C1_, EL2, EG2, E2, C3, C4, C5, C5_, C5_e, C5_g, K6, C7_, C7_n, K8, C9]
theorem vaR_x2_8 (C1 : ¬ (i_2 : Int) < (a0.1.length : Int)) :
    Leave 0 (exec Tryz.prog (tab n) 0 59 (livesOf 17) big vaR_C2) (livesOf 17 (outOf 2)) (vaR_h2 a0 a1 i_2) (.exit 0) (vaR_o2b a0) := by
  have C1_ : ¬ i_2 < a0.1.length := by omega
  unfold Leave
  simp +decide [vaR_h2, loopsOf, Tryz.f17, vaR_o2b, vaR_C2, C1, C1_]
theorem vaR_f1 (L1 : loopG Tryz.prog (tab n) 0 59 (livesOf 17) 2 vaR_C2 (vaR_h2 a0 a1 0) = some (.ret, vaR_o2a a0)) :
    run n 17 [.agg [.sl 4 (a0.1.map termRC), .lit (.bool a0.2.s), natA a0.2.l1, natA a0.2.l2], .lit (.int .i64 a1)] = some (.lit (.bool false)) := by
  unfold run fnP
  simp +decide [Tryz.f17]
  rw [loopX_G (C' := vaR_C2) (e := (vaR_h2 a0 a1 0)) ?_ ?_, L1]
  rotate_left
  · kernel_rfl
  · simp +decide [vaR_h2]
  simp +decide [vaR_o2a]
theorem vaR_f2 (L1 : loopG Tryz.prog (tab n) 0 59 (livesOf 17) 2 vaR_C2 (vaR_h2 a0 a1 0) = some (.exit 0, vaR_o2b a0)) (B2a : RawB a0.2) :
    run n 17 [.agg [.sl 4 (a0.1.map termRC), .lit (.bool a0.2.s), natA a0.2.l1, natA a0.2.l2], .lit (.int .i64 a1)] = some (.lit (.bool (decide (RatV a0.2.s a0.2.l1 a0.2.l2)))) := by
  have K2 := rr_valid B2a
  unfold run fnP
  simp +decide [Tryz.f17, K2]
  rw [loopX_G (C' := vaR_C2) (e := (vaR_h2 a0 a1 0)) ?_ ?_, L1]
  rotate_left
  · kernel_rfl
  · simp +decide [vaR_h2, K2]
  simp +decide [vaR_o2b, K2]
end
end Go.Proofs.YtjpoanaoaeaneaaGreatDoor
set_option linter.all false
set_option maxRecDepth 100000
set_option maxHeartbeats 6400000
namespace Go.Proofs.YtjpoanaoaeaneaaGreatDoor
open Go.RowKit
attribute [local irreducible] run runL loopG exec
def frV (f : FormR) : AV := .agg [.sl 4 (f.1.map termRC), .lit (.bool f.2.s), natA f.2.l1, natA f.2.l2]
def LimR2 (r : Raw) : Prop := Lim r.l1 ∧ Lim r.l2
structure LimF (f : FormR) : Prop where
  t : ∀ t ∈ f.1, LimR2 t.2
  k : LimR2 f.2
def Two (r : Raw) : Prop := r.l1.length ≤ 2 ∧ r.l2.length ≤ 2
def FewR (l : List (Int × Raw)) (c : Raw) : Prop := l.length ≤ 8 ∧ Two c ∧ ∀ t ∈ l, Two t.2
theorem Two.rb {r : Raw} (h : Two r) (hl : LimR2 r) : RawB r := ⟨hl.1, hl.2, by have := h.1; omega, by have := h.2; omega⟩
def Cn (r : Raw) : Prop := RatV r.s r.l1 r.l2
theorem Cn.raw {r : Raw} (h : Cn r) : r = rawQ r.q := by
  obtain ⟨s, l1, l2⟩ := r
  obtain ⟨h1, h2, h3⟩ := h
  dsimp only at h1 h2 h3
  unfold Raw.q rawQ
  dsimp only
  rw [← h1, ← h2, ← h3]
theorem dlmb_H (d : Nat) : (lmb d).length ≤ max 1 (dlmb d).length := by
  unfold dlmb
  split
  · rename_i h; subst h; rw [lmb_one]; simp
  · exact Nat.le_max_right _ _
theorem Cn.HB {r : Raw} {m : Nat} (h : Cn r) (hm : 1 ≤ m) (h1 : r.l1.length ≤ m) (h2 : r.l2.length ≤ m) : H r.q ≤ m := by
  have e := h.raw
  have a1 : (lmb r.q.num.natAbs).length ≤ m := by have := congrArg Raw.l1 e; rw [this] at h1; exact h1
  have a2 : (dlmb r.q.den).length ≤ m := by have := congrArg Raw.l2 e; rw [this] at h2; exact h2
  have a3 := dlmb_H r.q.den
  unfold Go.Proofs.YtjpoanaoaeaneaaGreatDoor.H
  omega
theorem Cn.H {r : Raw} (h : Cn r) (ht : Two r) : H r.q ≤ 2 := h.HB (by omega) ht.1 ht.2
def OkTmR (F : List (Int × Raw)) (vars : Int) (i : Nat) : Prop := ∀ v c, F[i]? = some (v, c) → 0 ≤ v ∧ v < vars ∧ c.q ≠ 0 ∧ Cn c ∧ ∀ v' c', 0 < i → F[i - 1]? = some (v', c') → v' < v
def OkFR (f : FormR) (vars : Int) : Prop := (∀ i, i < f.1.length → OkTmR f.1 vars i) ∧ Cn f.2
theorem validRB_c {n : Nat} {f : FormR} {vars : Int} (h8 : f.1.length ≤ 100000) (hrbs : ∀ t ∈ f.1, RawB t.2) (hkb : RawB f.2) : run n 17 [frV f, .lit (.int .i64 vars)] = some (.lit (.bool (tv (OkFR f vars)))) := by
  have L := loopG_all (O := tab n) (P := Tryz.prog) (m := 0) (N := 59) (lives := livesOf 17) (r := 2) (C := vaR_C2) (M := f.1.length) (enc := vaR_h2 f vars) (p := fun i => tv (OkTmR f.1 vars i)) (exN := .exit 0) (exE := .ret) (out := vaR_o2b f) (outE := vaR_o2a f) (by omega) (fun h => by cases h) (fun h => by cases h)
    (fun i hi _ => by
      have hx : f.1[i]? = some f.1[i] := List.getElem?_eq_getElem hi
      obtain ⟨t, ht⟩ : ∃ t, f.1[i] = t := ⟨_, rfl⟩
      rw [ht] at hx
      obtain ⟨v, r⟩ := t
      have hm : (v, r) ∈ f.1 := List.mem_of_getElem? hx
      have hrb : RawB r := hrbs _ hm
      have C1 : (i : Int) < (f.1.length : Int) := by omega
      have hp : 0 < i → ∃ v' r', f.1[i - 1]? = some (v', r') := fun h0 => ⟨(f.1[i - 1]'(by omega)).1, (f.1[i - 1]'(by omega)).2, List.getElem?_eq_getElem _⟩
      refine ⟨fun hp' => ?_, fun hp' => ?_⟩
      · obtain ⟨a1, a2, a3, a4, a5⟩ := tv_true hp' v r hx
        have s0 : ¬ sgR r.q = 0 := fun h => a3 (sgR_eq_zero.1 h)
        by_cases h0 : 0 < i
        · obtain ⟨v', r', hx'⟩ := hp h0
          have := a5 v' r' h0 hx'
          exact vaR_r2_1 C1 hx (by omega) (by omega) (by omega) ⟨by omega, by omega⟩ hx' (by omega) (by omega) hrb s0 a4 ⟨by omega, by omega⟩
        · exact vaR_r2_2 C1 hx (by omega) (by omega) (by omega) hrb s0 a4 ⟨by omega, by omega⟩
      · have hq := tv_false hp'
        by_cases b1 : v < 0
        · exact vaR_x2_1 C1 hx b1
        by_cases b2 : vars ≤ v
        · exact vaR_x2_2 C1 hx b1 b2
        by_cases h0 : 0 < i
        · obtain ⟨v', r', hx'⟩ := hp h0
          by_cases b3 : v ≤ v'
          · exact vaR_x2_3 C1 hx b1 b2 (by omega) ⟨by omega, by omega⟩ hx' (by omega) b3
          by_cases b4 : sgR r.q = 0
          · exact vaR_x2_4 C1 hx b1 b2 (by omega) ⟨by omega, by omega⟩ hx' (by omega) b3 hrb b4
          refine vaR_x2_5 C1 hx b1 b2 (by omega) ⟨by omega, by omega⟩ hx' (by omega) b3 hrb b4 fun b5 => hq fun v2 c2 h2 => ?_
          rw [hx] at h2; cases h2
          refine ⟨by omega, by omega, fun h => b4 (sgR_eq_zero.2 h), b5, fun v3 c3 _ h3 => ?_⟩
          rw [hx'] at h3; cases h3
          omega
        · by_cases b4 : sgR r.q = 0
          · exact vaR_x2_6 C1 hx b1 b2 (by omega) hrb b4
          refine vaR_x2_7 C1 hx b1 b2 (by omega) hrb b4 fun b5 => hq fun v2 c2 h2 => ?_
          rw [hx] at h2; cases h2
          exact ⟨by omega, by omega, fun h => b4 (sgR_eq_zero.2 h), b5, fun v3 c3 h9 h3 => absurd h9 h0⟩)
    (vaR_x2_8 (by omega))
  by_cases hA : ∀ i, i < f.1.length → tv (OkTmR f.1 vars i) = true
  · rw [if_pos hA] at L
    have h := vaR_f2 L hkb
    have e : decide (RatV f.2.s f.2.l1 f.2.l2) = tv (OkFR f vars) := by
      by_cases hk : Cn f.2
      · rw [tv_t ⟨fun i hi => tv_true (hA i hi), hk⟩]; exact decide_eq_true hk
      · rw [tv_f fun h => hk h.2]; exact decide_eq_false hk
    rw [e] at h
    exact h
  · rw [if_neg hA] at L
    rw [tv_f fun h => hA fun i hi => tv_t (h.1 i hi)]
    exact vaR_f1 L
theorem validR_c {n : Nat} {f : FormR} {vars : Int} (hl : LimF f) (hf : FewR f.1 f.2) : run n 17 [frV f, .lit (.int .i64 vars)] = some (.lit (.bool (tv (OkFR f vars)))) :=
  validRB_c (by have := hf.1; omega) (fun t ht => (hf.2.2 t ht).rb (hl.t t ht)) (hf.2.1.rb hl.k)
end Go.Proofs.YtjpoanaoaeaneaaGreatDoor
set_option linter.all false
set_option maxRecDepth 100000
set_option maxHeartbeats 6400000
namespace Go.Proofs.YtjpoanaoaeaneaaGreatDoor
open Go.RowKit
noncomputable def few_C4 : Code := (loopsOf (bodyOf Tryz.f31)).getD 0 .skip
def few_h4 (a0 : List (Int × Raw)) (i_4 : Nat) : St :=
  ⟨[(0, .sl 4 (a0.map termRC)), (5, .lit (.int .i64 (i_4 : Int)))],
   [], 0⟩
def few_o4a  : St :=
  ⟨[(4, .lit (.bool false))],
   [], 0⟩
def few_o4b  : St :=
  ⟨[(4, .any)],
   [], 0⟩
section
variable {n : Nat} {a0 : List (Int × Raw)} {r3 : Raw} {v3 : Int} {i_4 : Nat} {a1 : Raw}
theorem few_r4_1 (C1 : (i_4 : Int) < (a0.length : Int)) (E2 : a0[i_4]? = some (v3, r3)) (C3 : ¬ 2 < (r3.l1.length : Int)) (C4 : ¬ 2 < (r3.l2.length : Int)) (W5 : InI ((i_4 : Int) + 1)) :
    Cont 0 (exec Tryz.prog (tab n) 0 45 (livesOf 31) big few_C4) (livesOf 31 4) (few_h4 a0 i_4) (few_h4 a0 (i_4 + 1)) := by
  have C1_ : i_4 < a0.length := by omega
  obtain ⟨EL2, EG2⟩ := List.getElem?_eq_some_iff.1 E2
  have C3_ : ¬ 2 < r3.l1.length := by omega
  have C4_ : ¬ 2 < r3.l2.length := by omega
  have W5_ : IntKind.i64.wrap ((i_4 : Int) + 1) = (i_4 : Int) + 1 := wr64 W5.1 W5.2
  unfold Cont
  simp +decide [few_h4, loopsOf, Tryz.f31, few_C4, C1, C1_, EL2, EG2, E2, C3, C3_, C4, C4_, W5_]
theorem few_x4_1 (C1 : (i_4 : Int) < (a0.length : Int)) (E2 : a0[i_4]? = some (v3, r3)) (C3 : 2 < (r3.l1.length : Int)) :
    Leave 0 (exec Tryz.prog (tab n) 0 45 (livesOf 31) big few_C4) (livesOf 31 (outOf 4)) (few_h4 a0 i_4) (.ret) (few_o4a ) := by
  have C1_ : i_4 < a0.length := by omega
  obtain ⟨EL2, EG2⟩ := List.getElem?_eq_some_iff.1 E2
  have C3_ : 2 < r3.l1.length := by omega
  unfold Leave
  simp +decide [few_h4, loopsOf, Tryz.f31, few_o4a, few_C4, C1, C1_, EL2, EG2, E2, C3, C3_]
theorem few_x4_2 (C1 : (i_4 : Int) < (a0.length : Int)) (E2 : a0[i_4]? = some (v3, r3)) (C3 : ¬ 2 < (r3.l1.length : Int)) (C4 : 2 < (r3.l2.length : Int)) :
    Leave 0 (exec Tryz.prog (tab n) 0 45 (livesOf 31) big few_C4) (livesOf 31 (outOf 4)) (few_h4 a0 i_4) (.ret) (few_o4a ) := by
  have C1_ : i_4 < a0.length := by omega
  obtain ⟨EL2, EG2⟩ := List.getElem?_eq_some_iff.1 E2
  have C3_ : ¬ 2 < r3.l1.length := by omega
  have C4_ : 2 < r3.l2.length := by omega
  unfold Leave
  simp +decide [few_h4, loopsOf, Tryz.f31, few_o4a, few_C4, C1, C1_, EL2, EG2, E2, C3, C3_, C4, C4_]
theorem few_x4_3 (C1 : ¬ (i_4 : Int) < (a0.length : Int)) :
    Leave 0 (exec Tryz.prog (tab n) 0 45 (livesOf 31) big few_C4) (livesOf 31 (outOf 4)) (few_h4 a0 i_4) (.exit 0) (few_o4b ) := by
  have C1_ : ¬ i_4 < a0.length := by omega
  unfold Leave
  simp +decide [few_h4, loopsOf, Tryz.f31, few_o4b, few_C4, C1, C1_]
theorem few_f1 (C1 : 8 < (a0.length : Int)) :
    run n 31 [.sl 4 (a0.map termRC), .agg [.lit (.bool a1.s), natA a1.l1, natA a1.l2]] = some (.lit (.bool false)) := by
  have C1_ : 8 < a0.length := by omega
  unfold run fnP
  simp +decide [Tryz.f31, C1, C1_]
theorem few_f2 (C1 : ¬ 8 < (a0.length : Int)) (C2 : 2 < (a1.l1.length : Int)) :
    run n 31 [.sl 4 (a0.map termRC), .agg [.lit (.bool a1.s), natA a1.l1, natA a1.l2]] = some (.lit (.bool false)) := by
  have C1_ : ¬ 8 < a0.length := by omega
  have C2_ : 2 < a1.l1.length := by omega
  unfold run fnP
  simp +decide [Tryz.f31, C1, C1_, C2, C2_]
theorem few_f3 (C1 : ¬ 8 < (a0.length : Int)) (C2 : ¬ 2 < (a1.l1.length : Int)) (C3 : 2 < (a1.l2.length : Int)) :
    run n 31 [.sl 4 (a0.map termRC), .agg [.lit (.bool a1.s), natA a1.l1, natA a1.l2]] = some (.lit (.bool false)) := by
  have C1_ : ¬ 8 < a0.length := by omega
  have C2_ : ¬ 2 < a1.l1.length := by omega
  have C3_ : 2 < a1.l2.length := by omega
  unfold run fnP
  simp +decide [Tryz.f31, C1, C1_, C2, C2_, C3, C3_]
theorem few_f4 (C1 : ¬ 8 < (a0.length : Int)) (C2 : ¬ 2 < (a1.l1.length : Int)) (C3 : ¬ 2 < (a1.l2.length : Int)) (L4 : loopG Tryz.prog (tab n) 0 45 (livesOf 31) 4 few_C4 (few_h4 a0 0) = some (.ret, few_o4a )) :
    run n 31 [.sl 4 (a0.map termRC), .agg [.lit (.bool a1.s), natA a1.l1, natA a1.l2]] = some (.lit (.bool false)) := by
  have C1_ : ¬ 8 < a0.length := by omega
  have C2_ : ¬ 2 < a1.l1.length := by omega
  have C3_ : ¬ 2 < a1.l2.length := by omega
  unfold run fnP
  simp +decide [Tryz.f31, C1, C1_, C2, C2_, C3, C3_]
  rw [loopX_G (C' := few_C4) (e := (few_h4 a0 0)) ?_ ?_, L4]
  rotate_left
  · kernel_rfl
  · simp +decide [few_h4, C1, C1_, C2, C2_, C3, C3_]
  simp +decide [few_o4a, C1, C1_, C2, C2_, C3, C3_]
theorem few_f5 (C1 : ¬ 8 < (a0.length : Int)) (C2 : ¬ 2 < (a1.l1.length : Int)) (C3 : ¬ 2 < (a1.l2.length : Int)) (L4 : loopG Tryz.prog (tab n) 0 45 (livesOf 31) 4 few_C4 (few_h4 a0 0) = some (.exit 0, few_o4b )) :
    run n 31 [.sl 4 (a0.map termRC), .agg [.lit (.bool a1.s), natA a1.l1, natA a1.l2]] = some (.lit (.bool true)) := by
  have C1_ : ¬ 8 < a0.length := by omega
  have C2_ : ¬ 2 < a1.l1.length := by omega
  have C3_ : ¬ 2 < a1.l2.length := by omega
  unfold run fnP
  simp +decide [Tryz.f31, C1, C1_, C2, C2_, C3, C3_]
  rw [loopX_G (C' := few_C4) (e := (few_h4 a0 0)) ?_ ?_, L4]
  rotate_left
  · kernel_rfl
  · simp +decide [few_h4, C1, C1_, C2, C2_, C3, C3_]
  simp +decide [few_o4b, C1, C1_, C2, C2_, C3, C3_]
end
end Go.Proofs.YtjpoanaoaeaneaaGreatDoor
