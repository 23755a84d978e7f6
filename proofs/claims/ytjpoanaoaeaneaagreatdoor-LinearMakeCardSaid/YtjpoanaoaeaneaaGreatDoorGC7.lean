import Derived.Test.YtjpoanaoaeaneaaGreatDoorGC5
import Derived.Test.YtjpoanaoaeaneaaGreatDoorGC6
set_option linter.all false
set_option maxRecDepth 100000
set_option maxHeartbeats 6400000
namespace Go.Proofs.YtjpoanaoaeaneaaGreatDoor
open Go.RowKit
end Go.Proofs.YtjpoanaoaeaneaaGreatDoor
set_option linter.all false
set_option maxRecDepth 100000
set_option maxHeartbeats 6400000
namespace Go.Proofs.YtjpoanaoaeaneaaGreatDoor
open Go.RowKit
end Go.Proofs.YtjpoanaoaeaneaaGreatDoor
set_option linter.all false
set_option maxRecDepth 100000
set_option maxHeartbeats 6400000
namespace Go.Proofs.YtjpoanaoaeaneaaGreatDoor
open Go.RowKit
theorem nz_same {n : Nat} {F : List (Int × Rat)} {v : Int} {q : Rat} (hq : H q ≤ 17179869184) (h0 : q = 0) :
    runL n 173 [.own 0 F.length, .agg [.lit (.int .i64 v), .lit (.bool (rawQ q).s), natA (rawQ q).l1, natA (rawQ q).l2]] [.row 82 4 (F.map termC) 0] = some (.own 0 F.length, [(0, .row 82 4 (F.map termC) 0)]) := by
  unfold runL fnL
  have hs := r_sign (p := q) hq
  have e2 : (sgR q == 0) = true := by rw [sgR_eq_zero.2 h0]; rfl
  simp +decide [Tryz.f173, hs, e2]
theorem nz_new {n : Nat} {F : List (Int × Rat)} {v : Int} {q : Rat} (hq : H q ≤ 17179869184) (h0 : q ≠ 0) (hF : F.length ≤ 10000000) :
    runL n 173 [.own 0 F.length, .agg [.lit (.int .i64 v), .lit (.bool (rawQ q).s), natA (rawQ q).l1, natA (rawQ q).l2]] [.row 82 4 (F.map termC) 0] = some (.own 3 (F ++ [(v, q)]).length, [(3, .row 82 4 ((F ++ [(v, q)]).map termC) 0)]) := by
  unfold runL fnL
  have hs := r_sign (p := q) hq
  have e2 : (sgR q == 0) = false := by simpa using fun h => h0 (sgR_eq_zero.1 h)
  have hr : ∀ b, b ≤ 10000 → roomy (F.length + 1) b = true := fun b hb => roomy_s (by omega) hb
  simp +decide [Tryz.f173, hs, e2, hr]
def plF (v : Int) (c : Rat) (i : Nat) (b : List (Int × Rat) × Bool) (t : Int × Rat) : List (Int × Rat) × Bool :=
  if t.1 = v then (b.1 ++ put1 t.1 (t.2 + c), true) else if b.2 = false ∧ v < t.1 then (b.1 ++ (put1 v c ++ put1 t.1 t.2), true) else (b.1 ++ put1 t.1 t.2, b.2)
theorem plF_fold (v : Int) (c : Rat) : ∀ (R : List (Int × Rat)) (i : Nat) (out : List (Int × Rat)) (d : Bool), foldI (plF v c) i (out, d) R = (out ++ plO d R v c, plD d R v)
  | [], i, out, d => by simp [foldI, plO, plD]
  | t :: R, i, out, d => by
    rw [foldI, plO, plD, plF]
    split
    · rw [plF_fold]; simp [List.append_assoc]
    · split
      · rw [plF_fold]; simp [List.append_assoc]
      · rw [plF_fold]; simp [List.append_assoc]
theorem plF_len (v : Int) (c : Rat) (i : Nat) (b : List (Int × Rat) × Bool) (t : Int × Rat) : (plF v c i b t).1.length ≤ b.1.length + 2 := by
  have h1 := put1_len t.1 (t.2 + c)
  have h2 := put1_len v c
  have h3 := put1_len t.1 t.2
  unfold plF
  split
  · rw [List.length_append]; omega
  · split
    · rw [List.length_append, List.length_append]; omega
    · rw [List.length_append]; omega
end Go.Proofs.YtjpoanaoaeaneaaGreatDoor
set_option linter.all false
set_option maxRecDepth 100000
set_option maxHeartbeats 6400000
namespace Go.Proofs.YtjpoanaoaeaneaaGreatDoor
open Go.RowKit
attribute [local irreducible] run runL loopG exec
theorem lcm_c {n : Nat} {s t : Int × Raw} : ∃ r : Int, run n 94 [.agg [.lit (.int .i64 s.1), .lit (.bool s.2.s), natA s.2.l1, natA s.2.l2], .agg [.lit (.int .i64 t.1), .lit (.bool t.2.s), natA t.2.l1, natA t.2.l2]] = some (.lit (.int .i64 r)) ∧ (r < 0 ↔ s.1 < t.1) := by
  by_cases h1 : s.1 < t.1
  · exact ⟨_, lcm_f1 h1, fun _ => h1, fun _ => by omega⟩
  by_cases h2 : t.1 < s.1
  · exact ⟨_, lcm_f2 h1 h2, fun h => by omega, fun h => absurd h h1⟩
  · exact ⟨_, lcm_f3 h1 h2, fun h => by omega, fun h => absurd h h1⟩
structure InsI (L out : List (Int × Raw)) (i j : Nat) : Prop where
  pm : out.Perm L
  le : j ≤ i
  lt : i < out.length
  so : ∀ p q s t, p < q → q ≤ i → p ≠ j → q ≠ j → out[p]? = some s → out[q]? = some t → s.1 ≤ t.1
  bg : ∀ q s t, j < q → q ≤ i → out[j]? = some s → out[q]? = some t → s.1 ≤ t.1
def SoT (out : List (Int × Raw)) (i : Nat) : Prop := ∀ p q s t, p < q → q < i → out[p]? = some s → out[q]? = some t → s.1 ≤ t.1
theorem swap_get {l : List (Int × Raw)} {j k : Nat} {a b : Int × Raw} (hj : j < l.length) (hjk : j + 1 = k) (hk : k < l.length) (p : Nat) : ((l.set k a).set j b)[p]? = if p = j then some b else if p = k then some a else l[p]? := by
  rw [List.getElem?_set]
  by_cases h : j = p
  · subst h; rw [if_pos rfl, if_pos rfl, if_pos (by rw [List.length_set]; exact hj)]
  · rw [if_neg h, if_neg (fun e => h e.symm), List.getElem?_set]
    by_cases h2 : k = p
    · subst h2; rw [if_pos rfl, if_pos rfl, if_pos hk]
    · rw [if_neg h2, if_neg (fun e => h2 e.symm)]
theorem swap_perm {l : List (Int × Raw)} {j k : Nat} {a b : Int × Raw} (hjk : j + 1 = k) (hb : l[k]? = some b) (ha : l[j]? = some a) : ((l.set k a).set j b).Perm l := by
  subst hjk
  have hk := (List.getElem?_eq_some_iff.1 hb).1
  have e : l = l.take j ++ a :: b :: l.drop (j + 2) := by
    have h1 : l.drop j = a :: l.drop (j + 1) := by
      rw [List.drop_eq_getElem_cons (by omega)]
      congr 1
      exact (List.getElem?_eq_some_iff.1 ha).2
    have h2 : l.drop (j + 1) = b :: l.drop (j + 2) := by
      rw [List.drop_eq_getElem_cons (by omega)]
      congr 1
      exact (List.getElem?_eq_some_iff.1 hb).2
    conv => lhs; rw [← List.take_append_drop j l, h1, h2]
  have e2 : (l.set (j + 1) a).set j b = l.take j ++ b :: a :: l.drop (j + 2) := by
    apply List.ext_getElem?
    intro p
    rw [swap_get (by omega) rfl hk]
    have ht : (l.take j).length = j := by rw [List.length_take]; omega
    by_cases h1 : p < j
    · rw [if_neg (by omega), if_neg (by omega), List.getElem?_append_left (by omega), List.getElem?_take, if_pos h1]
    · rw [List.getElem?_append_right (by omega), ht]
      by_cases h2 : p = j
      · subst h2; rw [if_pos rfl, Nat.sub_self]; rfl
      · rw [if_neg h2]
        by_cases h3 : p = j + 1
        · subst h3; rw [if_pos rfl, show j + 1 - j = 1 from by omega]; rfl
        · rw [if_neg h3]
          obtain ⟨m, hm⟩ : ∃ m, p = j + 2 + m := ⟨p - (j + 2), by omega⟩
          subst hm
          rw [show j + 2 + m - j = m + 2 from by omega, List.getElem?_cons_succ, List.getElem?_cons_succ, List.getElem?_drop]
  rw [e2]
  conv => rhs; rw [e]
  exact List.Perm.append_left _ (List.Perm.swap _ _ _)
theorem ins_step {L out : List (Int × Raw)} {i j : Nat} {s t : Int × Raw} (h : InsI L out i (j + 1)) (hs : out[j + 1]? = some s) (ht : out[j]? = some t) (hlt : s.1 < t.1) : InsI L ((out.set (j + 1) t).set j s) i j := by
  have hl := h.lt
  have hle := h.le
  have get := fun p => swap_get (l := out) (j := j) (k := j + 1) (a := t) (b := s) (by omega) rfl (by omega) p
  refine ⟨(swap_perm rfl hs ht).trans h.pm, by omega, by rw [List.length_set, List.length_set]; exact hl, fun p q u v hpq hqi hp hq hu hv => ?_, fun q u v hq hqi hu hv => ?_⟩
  · rw [get, if_neg hp] at hu
    rw [get, if_neg hq] at hv
    by_cases h1 : p = j + 1
    · rw [if_pos h1] at hu
      rw [if_neg (by omega)] at hv
      cases hu
      exact h.so j q t v (by omega) hqi (by omega) (by omega) ht hv
    · rw [if_neg h1] at hu
      by_cases h2 : q = j + 1
      · rw [if_pos h2] at hv
        cases hv
        exact h.so p j u t (by omega) (by omega) h1 (by omega) hu ht
      · rw [if_neg h2] at hv
        exact h.so p q u v hpq hqi h1 h2 hu hv
  · rw [get, if_pos rfl] at hu
    cases hu
    rw [get, if_neg (by omega)] at hv
    by_cases h2 : q = j + 1
    · rw [if_pos h2] at hv
      cases hv
      omega
    · rw [if_neg h2] at hv
      exact h.bg q s v (by omega) hqi hs hv
theorem ins_done {L out : List (Int × Raw)} {i j : Nat} (h : InsI L out i j) (hd : j = 0 ∨ ∃ s t, out[j]? = some s ∧ out[j - 1]? = some t ∧ ¬ s.1 < t.1) : SoT out (i + 1) := fun p q s t hpq hqi hs ht => by
  by_cases h1 : p = j
  · subst h1; exact h.bg q s t hpq (by omega) hs ht
  by_cases h2 : q = j
  · subst h2
    rcases hd with h0 | ⟨s', t', h3, h4, h5⟩
    · omega
    · rw [ht] at h3; cases h3
      by_cases h6 : p = q - 1
      · subst h6; rw [hs] at h4; cases h4; omega
      · have := h.so p (q - 1) s t' (by omega) (by omega) h1 (by omega) hs h4
        omega
  · exact h.so p q s t hpq (by omega) h1 h2 hs ht
theorem isc_in {n : Nat} {L out : List (Int × Raw)} {i : Nat} {m : Int} (hl : L.length ≤ 1000000) (hp : out.Perm L) (hi : i < out.length) (hs : SoT out i) :
    ∃ out', loopG Tryz.prog (tab (n + 1)) 1 53 (livesOf 228) 4 isc_C4 (isc_h4 0 m out (i : Int) (i : Int)) = some (.exit 2, isc_o4a 0 m out' (i : Int)) ∧ out'.Perm L ∧ SoT out' (i + 1) := by
  have hlen : out.length = L.length := hp.length_eq
  obtain ⟨ex, t, h1, h2⟩ := loopG_Q (β := List (Int × Raw)) (P := Tryz.prog) (O := tab (n + 1)) (m := 1) (N := 53) (lives := livesOf 228) (r := 4) (C := isc_C4) (M := i) (enc := fun k o => isc_h4 0 m o (i : Int) ((i : Int) - (k : Int)))
    (fun k o => InsI L o i (i - k)) (fun ex t => ex = .exit 2 ∧ ∃ o, t = isc_o4a 0 m o (i : Int) ∧ o.Perm L ∧ SoT o (i + 1)) out
    ⟨hp, by omega, hi, fun p q s t hpq hqi hp' hq' hs' ht' => hs p q s t hpq (by omega) hs' ht', fun q s t hq hqi => by omega⟩ (by omega)
    (fun k o hk hI => by
      have hlo : o.length = L.length := hI.pm.length_eq
      have hlt := hI.lt
      obtain ⟨j, hj⟩ : ∃ j, i - k = j + 1 := ⟨i - k - 1, by omega⟩
      rw [hj] at hI
      have e1 : ((i : Int) - (k : Int)).toNat = j + 1 := by omega
      have hs' : o[j + 1]? = some (o[j + 1]'(by omega)) := List.getElem?_eq_getElem _
      have ht' : o[j]? = some (o[j]'(by omega)) := List.getElem?_eq_getElem _
      generalize o[j + 1]'(by omega) = s at hs'
      generalize o[j]'(by omega) = t at ht'
      obtain ⟨r, K, hr⟩ := lcm_c (n := n) (s := s) (t := t)
      have g1 : o[((i : Int) - (k : Int)).toNat]? = some (s.1, s.2) := by rw [e1]; exact hs'
      have g2 : o[((i : Int) - (k : Int)).toNat - 1]? = some (t.1, t.2) := by rw [e1]; exact ht'
      by_cases c : r < 0
      · refine .inl ⟨(o.set (j + 1) t).set j s, ?_, ?_⟩
        · have R := isc_r4_1 (n := n) (a1 := 0) (a2 := m) (i_1 := (i : Int)) (i_4 := (i : Int) - (k : Int)) (out_4 := o) (by omega) (by omega) (by omega) g1 (by omega) ⟨by omega, by omega⟩ (by omega) (by omega) g2 (by omega) K c
          rw [e1] at R
          have e2 : (i : Int) - (k : Int) - 1 = (i : Int) - ((k + 1 : Nat) : Int) := by omega
          rw [e2] at R
          exact R
        · rw [show i - (k + 1) = j from by omega]
          exact ins_step hI hs' ht' (hr.1 c)
      · refine .inr ⟨_, _, by simp, isc_x4_1 (n := n) (a1 := 0) (a2 := m) (i_1 := (i : Int)) (i_4 := (i : Int) - (k : Int)) (out_4 := o) (by omega) (by omega) (by omega) g1 (by omega) ⟨by omega, by omega⟩ (by omega) (by omega) g2 (by omega) K c, rfl, o, rfl, hI.pm, ins_done hI (.inr ⟨s, t, hs', ht', fun h => c (hr.2 h)⟩)⟩)
    (fun o hI => by
      rw [Nat.sub_self] at hI
      exact ⟨_, _, by simp, isc_x4_2 (n := n) (a1 := 0) (a2 := m) (i_1 := (i : Int)) (i_4 := (i : Int) - (i : Int)) (out_4 := o) (by omega), rfl, o, rfl, hI.pm, ins_done hI (.inl rfl)⟩)
  obtain ⟨rfl, o, rfl, h3, h4⟩ := h2
  have e : (i : Int) - ((0 : Nat) : Int) = (i : Int) := by omega
  rw [e] at h1
  exact ⟨o, h1, h3, h4⟩
theorem isc_c {n : Nat} {L : List (Int × Raw)} (hl : L.length ≤ 1000000) : ∃ R, runL (n + 1) 228 [.own 0 L.length, .lit (.int .i64 0), .lit (.int .i64 (L.length : Int)), .clo 94 []] [.row 82 4 (L.map termRC) 0] = some (.tup [], [(0, .row 82 4 (R.map termRC) 0)]) ∧ R.Perm L ∧ SoT R R.length := by
  obtain ⟨o, hL, h1, h2⟩ := loopG_R (O := tab (n + 1)) (P := Tryz.prog) (m := 1) (N := 53) (lives := livesOf 228) (r := 1) (C := isc_C1) (exN := .exit 0) (M := L.length - 1) (enc := fun k o => isc_h1 0 (L.length : Int) o (0 + 1 + (k : Int))) (out := fun o => isc_o1a o)
    (fun k o => o.Perm L ∧ SoT o (k + 1)) L ⟨List.Perm.refl _, fun p q s t hpq hq => by omega⟩ (by omega) (fun h => by cases h)
    (fun k o hk hI => by
      obtain ⟨h1, h2⟩ := hI
      have hlo : o.length = L.length := h1.length_eq
      obtain ⟨o', h3, h4, h5⟩ := isc_in (n := n) (L := L) (out := o) (i := k + 1) (m := (L.length : Int)) hl h1 (by omega) h2
      refine ⟨o', ?_, h4, h5⟩
      have e : ((k + 1 : Nat) : Int) = 0 + 1 + (k : Int) := by omega
      have e2 : (0 : Int) + 1 + ((k + 1 : Nat) : Int) = 0 + 1 + (k : Int) + 1 := by omega
      rw [e] at h3
      rw [e2]
      exact isc_r1_1 (n := n) (by omega) h3 ⟨by omega, by omega⟩)
    (fun o hI => isc_x1_1 (by omega))
  have hlo : o.length = L.length := h1.length_eq
  refine ⟨o, isc_f1 (n := n) ⟨by omega, by omega⟩ ?_, h1, fun p q s t hpq hq hs ht => h2 p q s t hpq (by omega) hs ht⟩
  have e : (0 : Int) + 1 + ((0 : Nat) : Int) = 0 + 1 := rfl
  exact hL
theorem srt_c {n : Nat} {L : List (Int × Raw)} (hl : L.length ≤ 19) : ∃ R, runL (n + 44) 93 [.own 0 L.length, .clo 94 []] [.row 82 4 (L.map termRC) 0] = some (.tup [], [(0, .row 82 4 (R.map termRC) 0)]) ∧ R.Perm L ∧ SoT R R.length := by
  obtain ⟨R, K, h1, h2⟩ := isc_c (n := n + 41) (L := L) (by omega)
  obtain ⟨_, A, _, _⟩ := loopG_R (O := tab (n + 43)) (P := Tryz.prog) (m := 1) (N := 63) (lives := livesOf 167) (r := 2) (C := stb_C2) (exN := .exit 0) (M := 0) (enc := fun _ (_ : Unit) => stb_h2 (L.length : Int) L 0 20) (out := fun _ => stb_o2a (L.length : Int) L 0) (fun _ _ => True ∧ True) () ⟨trivial, trivial⟩ (by omega) (fun h => by cases h) (fun i b hi => by omega) (fun b hI => stb_x2_1 (by omega))
  obtain ⟨_, B, _, _⟩ := loopG_R (O := tab (n + 43)) (P := Tryz.prog) (m := 1) (N := 63) (lives := livesOf 167) (r := 7) (C := stb_C7) (exN := .exit 2) (M := 0) (enc := fun _ (_ : Unit) => stb_h7 (L.length : Int) R 20) (out := fun _ => stb_o7a R) (fun _ _ => True ∧ True) () ⟨trivial, trivial⟩ (by omega) (fun h => by cases h) (fun i b hi => by omega) (fun b hI => stb_x7_1 (by omega))
  exact ⟨R, srt_f1 (n := n) (stb_f1 (n := n) (by have := h1.length_eq; omega) A K B), h1, h2⟩
end Go.Proofs.YtjpoanaoaeaneaaGreatDoor
