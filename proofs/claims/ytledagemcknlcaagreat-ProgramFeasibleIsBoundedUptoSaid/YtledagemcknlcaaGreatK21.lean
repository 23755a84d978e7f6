/- the least value of a program: the coefficients of sums of forms, and what the elimination of a program's rows yields, in plain words. relucertref07.Var, Sub: what each call returns. the least value: rows and flags in memory, step by step. relucertref27.Least: what the call returns. relucertlaw27.ProgramStrongDuality, ProgramFeasibleIsBounded: each call returns true. -/
import Derived.Test.YtledagemcknlcaaGreatK20
import Derived.Test.YtledagemcknlcaaGreatK14
import Derived.Test.YtledagemcknlcaaGreatK17
import Derived.Test.YtledagemcknlcaaGreatK15
import Derived.Test.YtledagemcknlcaaGreatK12
set_option linter.all false
namespace Go.Proofs.YtledagemcknlcaaGreat
open Go.RowKit

theorem put1_coef {v : Int} {q : Rat} {F : List (Int × Rat)} (u : Int) (h : ∀ t ∈ F, t.1 ≠ v) : coefV (put1 v q ++ F) u = if u = v then q else coefV F u := by
  unfold put1
  by_cases h0 : q = 0
  · rw [if_pos h0, List.nil_append]
    split
    · rename_i e; rw [e, coefV_none h, h0]
    · rfl
  · rw [if_neg h0]
    show (if v = u then q else coefV F u) = _
    by_cases e : u = v
    · rw [if_pos e, if_pos e.symm]
    · rw [if_neg e, if_neg (fun h => e h.symm)]
theorem SrtN.put {n : Nat} {F : List (Int × Rat)} {v : Int} {q : Rat} (h : SrtN F n) (h0 : 0 ≤ v) (h1 : v < n) (hl : ∀ x ∈ F, v < x.1) : SrtN (put1 v q ++ F) n := by
  unfold put1
  by_cases hq : q = 0
  · rw [if_pos hq]; exact h
  · rw [if_neg hq]
    have hm : ∀ x ∈ [(v, q)] ++ F, x = (v, q) ∨ x ∈ F := fun x hx => by simpa using hx
    exact ⟨⟨List.pairwise_cons.2 ⟨fun x hx => hl x hx, h.ord⟩, fun t ht => by rcases hm t ht with rfl | h9; exact h0; exact h.low t h9, fun t ht => by rcases hm t ht with rfl | h9; exact h1; exact h.high t h9⟩, fun t ht => by rcases hm t ht with rfl | h9; exact hq; exact h.nz t h9⟩
theorem SrtN.tl {n : Nat} {t : Int × Rat} {F : List (Int × Rat)} (h : SrtN (t :: F) n) : SrtN F n := ⟨h.toSrt.tail, fun u hu => h.nz u (by simp [hu])⟩
theorem SrtN.gt {n : Nat} {t : Int × Rat} {F : List (Int × Rat)} (h : SrtN (t :: F) n) : ∀ x ∈ F, t.1 < x.1 := (List.pairwise_cons.1 h.ord).1
theorem SrtN.cons_put {n : Nat} {t : Int × Rat} {F : List (Int × Rat)} (h : SrtN (t :: F) n) : put1 t.1 t.2 = [t] := by unfold put1; rw [if_neg (h.nz t (by simp))]
theorem plus_done {F : List (Int × Rat)} {v : Int} {c : Rat} (h : ∀ t ∈ F, t.1 ≠ v) (hz : ∀ t ∈ F, t.2 ≠ 0) : plusV true F v c = F := by
  induction F with
  | nil => rfl
  | cons t F ih =>
    rw [plusV_lt (h t (by simp)) (Or.inl rfl), ih (fun u hu => h u (by simp [hu])) (fun u hu => hz u (by simp [hu]))]
    unfold put1; rw [if_neg (hz t (by simp))]; rfl
theorem plus_srt {n : Nat} {v : Int} {c : Rat} (h0 : 0 ≤ v) (h1 : v < n) : ∀ {F : List (Int × Rat)}, SrtN F n → SrtN (plusV false F v c) n ∧ (∀ x ∈ plusV false F v c, x.1 = v ∨ ∃ y ∈ F, y.1 = x.1) ∧ ∀ u, coefV (plusV false F v c) u = coefV F u + if u = v then c else 0
  | [], h => by
    have e : plusV false [] v c = put1 v c ++ [] := by rw [List.append_nil]; rfl
    rw [e]
    refine ⟨h.put h0 h1 (fun x hx => by cases hx), fun x hx => ?_, fun u => ?_⟩
    · rw [List.append_nil] at hx; exact Or.inl (by rw [(put1_mem hx).1])
    · rw [put1_coef u (fun x hx => by cases hx)]
      show (if u = v then c else 0) = 0 + _
      grind
  | t :: F, h => by
    have hgt := h.gt
    by_cases e : t.1 = v
    · have hd : plusV true F v c = F := plus_done (fun x hx => by have := hgt x hx; omega) (fun x hx => h.nz x (by simp [hx]))
      rw [plusV_eq e, hd]
      refine ⟨h.tl.put (h.low t (by simp)) (h.high t (by simp)) hgt, fun x hx => ?_, fun u => ?_⟩
      · rcases List.mem_append.1 hx with h9 | h9
        · exact Or.inl (by rw [(put1_mem h9).1]; exact e)
        · exact Or.inr ⟨x, by simp [h9], rfl⟩
      · rw [put1_coef u (fun x hx => by have := hgt x hx; omega)]
        show _ = (if t.1 = u then t.2 else coefV F u) + _
        by_cases e2 : u = v
        · rw [if_pos (by omega), if_pos (by omega), if_pos e2]
        · rw [if_neg (by omega), if_neg (by omega), if_neg e2]; grind
    · by_cases e2 : v < t.1
      · have hd : plusV true F v c = F := plus_done (fun x hx => by have := hgt x hx; omega) (fun x hx => h.nz x (by simp [hx]))
        rw [plusV_gt e2, hd, h.cons_put]
        have hall : ∀ x ∈ [t] ++ F, v < x.1 := fun x hx => by
          rcases List.mem_cons.1 hx with rfl | h9
          · exact e2
          · have := hgt x h9; omega
        refine ⟨SrtN.put (F := [t] ++ F) h h0 h1 hall, fun x hx => ?_, fun u => ?_⟩
        · rcases List.mem_append.1 hx with h9 | h9
          · exact Or.inl (by rw [(put1_mem h9).1])
          · exact Or.inr ⟨x, h9, rfl⟩
        · rw [put1_coef u (fun x hx => by have := hall x hx; omega)]
          show (if u = v then c else coefV (t :: F) u) = coefV (t :: F) u + _
          by_cases e3 : u = v
          · rw [if_pos e3, if_pos e3, e3, coefV_none (F := t :: F) (fun x hx => by have := hall x hx; omega)]; grind
          · rw [if_neg e3, if_neg e3]; grind
      · obtain ⟨i1, i2, i3⟩ := plus_srt h0 h1 (c := c) h.tl
        rw [plusV_lt e (Or.inr (by omega)), h.cons_put]
        have hall : ∀ x ∈ plusV false F v c, t.1 < x.1 := fun x hx => by
          rcases i2 x hx with h9 | ⟨y, hy, h9⟩
          · omega
          · have := hgt y hy; omega
        have hp : put1 t.1 t.2 = [t] := h.cons_put
        refine ⟨?_, fun x hx => ?_, fun u => ?_⟩
        · have := SrtN.put (q := t.2) i1 (h.low t (by simp)) (h.high t (by simp)) hall
          rw [hp] at this; exact this
        · rcases List.mem_cons.1 hx with rfl | h9
          · exact Or.inr ⟨x, by simp, rfl⟩
          · rcases i2 x h9 with h8 | ⟨y, hy, h8⟩
            · exact Or.inl h8
            · exact Or.inr ⟨y, by simp [hy], h8⟩
        · show (if t.1 = u then t.2 else coefV (plusV false F v c) u) = (if t.1 = u then t.2 else coefV F u) + _
          by_cases e3 : t.1 = u
          · rw [if_pos e3, if_pos e3, if_neg (by omega)]; grind
          · rw [if_neg e3, if_neg e3]; exact i3 u
theorem add_srt {n : Nat} : ∀ {G F : List (Int × Rat)}, SrtN F n → SrtN G n → SrtN (addV F G) n ∧ ∀ u, coefV (addV F G) u = coefV F u + coefV G u
  | [], F, hF, _ => ⟨hF, fun u => by show coefV F u = coefV F u + 0; grind⟩
  | t :: G, F, hF, hG => by
    obtain ⟨h1, _, h2⟩ := plus_srt (c := t.2) (hG.low t (by simp)) (hG.high t (by simp)) hF
    obtain ⟨h3, h4⟩ := add_srt h1 hG.tl
    refine ⟨h3, fun u => ?_⟩
    show coefV (addV (plusV false F t.1 t.2) G) u = _
    rw [h4, h2]
    show _ = coefV F u + (if t.1 = u then t.2 else coefV G u)
    by_cases e : u = t.1
    · rw [e, if_pos rfl, if_pos rfl, coefV_none (F := G) (fun x hx => by have := hG.gt x hx; omega)]; grind
    · rw [if_neg e, if_neg (fun h => e h.symm)]; grind
theorem merge0_coef {n : Nat} {c : Rat} : ∀ {F : List (Int × Rat)}, SrtN F n → ∀ u, coefV (mergeV [] F c) u = coefV F u * c
  | [], _, u => by rw [mergeV_nil]; show (0 : Rat) = 0 * c; grind
  | t :: F, h, u => by
    rw [mergeV_b, put1_coef u (fun x hx => by
      obtain ⟨y, hy, rfl, _⟩ := merge0_mem hx
      have := h.gt y hy
      show y.1 ≠ t.1
      omega), merge0_coef h.tl u]
    show _ = (if t.1 = u then t.2 else coefV F u) * c
    by_cases e : u = t.1
    · rw [if_pos e, if_pos e.symm]
    · rw [if_neg e, if_neg (fun h => e h.symm)]
theorem SrtN.mono {n N : Nat} {F : List (Int × Rat)} (h : SrtN F n) (hn : n ≤ N) : SrtN F N := ⟨⟨h.ord, h.low, fun t ht => by have := h.high t ht; omega⟩, h.nz⟩
theorem formV_srtN {f : FD} {vars : Int} (hv : FormV f.ts f.k vars) {n : Nat} (hn : vars = (n : Int)) : SrtN (fm f.ts) n := by
  refine ⟨formV_srt hv hn, fun x hx => ?_⟩
  unfold fm at hx
  obtain ⟨t, ht, rfl⟩ := List.mem_map.1 hx
  obtain ⟨i, hi, e⟩ := List.mem_iff_getElem.1 ht
  exact fun h0 => (hv.1 i t (by rw [← e]; exact List.getElem?_eq_getElem hi)).2.2.2.1 (sgR_eq_zero.2 h0)

/-- the numbers of the row `variable n = objective`, and of all rows -/
def tQ (p : PD) (n u : Nat) : Rat := if u < n then -(cP p u) else if u = n then 1 else -(p.obj.k.q)
def allQ (p : PD) (n : Nat) : Nat → Nat → Rat
  | 0, u => tQ p n u
  | 1, u => -(tQ p n u)
  | i + 2, u => if u < n then aP p i u else if u = n then 0 else bP p i
theorem allQ_row (p : PD) (n i u : Nat) : allQ p n (i + 2) u = if u < n then aP p i u else if u = n then 0 else bP p i := rfl
theorem qv_t {p : PD} {n : Nat} {T : FD} (hv : PV p) (hn : p.vars = (n : Int)) (hT : sem T = (addV [((n : Int), (1 : Rat))] (mergeV [] (fm p.obj.ts) ((-1 : Int) : Rat)), 0 + p.obj.k.q * ((-1 : Int) : Rat))) : SrtN (fm T.ts) (n + 1) ∧ ∀ u, u ≤ n + 1 → qv T (n + 1) u = tQ p n u := by
  have h1 : fm T.ts = _ := congrArg Prod.fst hT
  have h2 : T.k.q = _ := congrArg Prod.snd hT
  have hs := (formV_srtN hv.obj hn).mono (Nat.le_succ n)
  have hu : SrtN [((n : Int), (1 : Rat))] (n + 1) := unit_srt (Nat.lt_succ_self n)
  obtain ⟨a1, a2⟩ := add_srt hu (merge0_srt (c := ((-1 : Int) : Rat)) hs)
  have hc : ((-1 : Int) : Rat) = -1 := rfl
  refine ⟨by rw [h1]; exact a1, fun u hu => ?_⟩
  unfold qv tQ cP
  by_cases e : u < n + 1
  · rw [if_pos e, coefT_fm, h1, a2, merge0_coef hs, hc, coefT_fm]
    show (if (n : Int) = (u : Int) then (1 : Rat) else 0) + _ = _
    by_cases e2 : u < n
    · rw [if_pos e2, if_neg (by omega)]; grind
    · have e3 : u = n := by omega
      subst e3
      rw [if_neg e2, if_pos rfl, if_pos rfl, coefV_none (F := fm p.obj.ts) (fun x hx => by have := (formV_srtN hv.obj hn).high x hx; omega)]; grind
  · rw [if_neg e, if_neg (by omega), if_neg (by omega), h2, hc]; grind
theorem qv_s {p : PD} {n : Nat} {T S : FD} (hT : SrtN (fm T.ts) (n + 1) ∧ ∀ u, u ≤ n + 1 → qv T (n + 1) u = tQ p n u) (hS : sem S = (mergeV [] (fm T.ts) ((-1 : Int) : Rat), T.k.q * ((-1 : Int) : Rat))) : ∀ u, u ≤ n + 1 → qv S (n + 1) u = -(tQ p n u) := by
  intro u hu
  have h1 : fm S.ts = _ := congrArg Prod.fst hS
  have h2 : S.k.q = _ := congrArg Prod.snd hS
  have hc : ((-1 : Int) : Rat) = -1 := rfl
  have h3 := hT.2 u hu
  rw [← h3]
  unfold qv
  split
  · rw [coefT_fm, h1, merge0_coef hT.1, coefT_fm, hc]; grind
  · rw [h2, hc]; grind
theorem qv_r {p : PD} {n i : Nat} {f : FD} (hv : PV p) (hn : p.vars = (n : Int)) (hf : p.rows[i]? = some f) : ∀ u, u ≤ n + 1 → qv f (n + 1) u = allQ p n (i + 2) u := by
  intro u hu
  have hs := formV_srtN (hv.rows i f hf) hn
  rw [allQ_row]
  unfold qv aP bP
  rw [hf]
  simp only [Option.map_some, Option.getD_some]
  by_cases e : u < n
  · rw [if_pos (by omega), if_pos e]
  · by_cases e2 : u = n
    · subst e2
      rw [if_pos (by omega), if_neg e, if_pos rfl, coefT_fm, coefV_none (fun x hx => by have := hs.high x hx; omega)]
    · rw [if_neg (by omega), if_neg e, if_neg e2]
theorem least_iff {p : PD} {n : Nat} {o : Nat → Nat → Rat} {E : List Nat} {l : List KRow} (h : Inv (p.rn + 2) (n + 2) o E l) (hE : ∀ j, j < n → j ∈ E) (hE2 : ∀ v ∈ E, v < n)
    (ho : ∀ i, i < p.rn + 2 → ∃ g : Rat, 0 < g ∧ ∀ u, u ≤ n + 1 → o i u = g * allQ p n i u) (t : Rat) :
    (∀ r ∈ l, 0 ≤ r.1 n * t + r.1 (n + 1)) ↔ ∃ x, FeasA p.rn n (aP p) (bP p) x ∧ objA n (cP p) p.obj.k.q x = t := by
  rw [h.project hE hE2 t]
  refine exists_congr fun x => ?_
  have key : ∀ i, i < p.rn + 2 → (0 ≤ (o i n * t + o i (n + 1)) + sumN (fun j => o i j * x j) n ↔ 0 ≤ (allQ p n i n * t + allQ p n i (n + 1)) + sumN (fun j => allQ p n i j * x j) n) := fun i hi => by
    obtain ⟨g, hg, he⟩ := ho i hi
    have e1 : sumN (fun j => o i j * x j) n = g * sumN (fun j => allQ p n i j * x j) n := by
      rw [← sumN_mul]
      exact sumN_congr (fun j hj => by rw [he j (by omega)]; grind)
    rw [e1, he n (by omega), he (n + 1) (by omega)]
    generalize sumN (fun j => allQ p n i j * x j) n = s
    generalize allQ p n i n = a
    generalize allQ p n i (n + 1) = b
    have e2 : g * a * t + g * b + g * s = g * (a * t + b + s) := by grind
    rw [e2]
    constructor
    · intro h9
      by_cases h8 : 0 ≤ a * t + b + s
      · exact h8
      · have := Rat.mul_pos hg (show 0 < -(a * t + b + s) by grind); grind
    · intro h9; exact Rat.mul_nonneg (Rat.le_of_lt hg) h9
  have kt : sumN (fun j => tQ p n j * x j) n = -(sumN (fun j => cP p j * x j) n) := by
    have e : sumN (fun j => tQ p n j * x j) n = sumN (fun j => -1 * (cP p j * x j)) n := sumN_congr (fun j hj => by unfold tQ; rw [if_pos hj]; grind)
    rw [e, sumN_mul]; grind
  have ks : sumN (fun j => allQ p n 1 j * x j) n = sumN (fun j => cP p j * x j) n := by
    have e : sumN (fun j => allQ p n 1 j * x j) n = sumN (fun j => -1 * (tQ p n j * x j)) n := sumN_congr (fun j hj => by show -(tQ p n j) * x j = _; grind)
    rw [e, sumN_mul, kt]; grind
  have k0 : (0 ≤ (allQ p n 0 n * t + allQ p n 0 (n + 1)) + sumN (fun j => allQ p n 0 j * x j) n) ↔ objA n (cP p) p.obj.k.q x ≤ t := by
    have e : (allQ p n 0 n * t + allQ p n 0 (n + 1)) + sumN (fun j => allQ p n 0 j * x j) n = t - objA n (cP p) p.obj.k.q x := by
      show (tQ p n n * t + tQ p n (n + 1)) + sumN (fun j => tQ p n j * x j) n = _
      rw [kt]
      unfold tQ objA
      rw [if_neg (by omega), if_pos rfl, if_neg (by omega), if_neg (by omega)]; grind
    rw [e]; constructor <;> (intro h9; grind)
  have k1 : (0 ≤ (allQ p n 1 n * t + allQ p n 1 (n + 1)) + sumN (fun j => allQ p n 1 j * x j) n) ↔ t ≤ objA n (cP p) p.obj.k.q x := by
    have e : (allQ p n 1 n * t + allQ p n 1 (n + 1)) + sumN (fun j => allQ p n 1 j * x j) n = objA n (cP p) p.obj.k.q x - t := by
      rw [ks]
      show (-(tQ p n n) * t + -(tQ p n (n + 1))) + _ = _
      unfold tQ objA
      rw [if_neg (by omega), if_pos rfl, if_neg (by omega), if_neg (by omega)]; grind
    rw [e]; constructor <;> (intro h9; grind)
  have k2 : ∀ i, (0 ≤ (allQ p n (i + 2) n * t + allQ p n (i + 2) (n + 1)) + sumN (fun j => allQ p n (i + 2) j * x j) n) ↔ 0 ≤ bP p i + sumN (fun j => aP p i j * x j) n := fun i => by
    have e1 : sumN (fun j => allQ p n (i + 2) j * x j) n = sumN (fun j => aP p i j * x j) n := sumN_congr (fun j hj => by rw [allQ_row, if_pos hj])
    have e : (allQ p n (i + 2) n * t + allQ p n (i + 2) (n + 1)) + sumN (fun j => allQ p n (i + 2) j * x j) n = bP p i + sumN (fun j => aP p i j * x j) n := by
      rw [e1, allQ_row, allQ_row, if_neg (by omega), if_pos rfl, if_neg (by omega), if_neg (by omega)]; grind
    rw [e]
  constructor
  · intro hx
    refine ⟨fun i hi => (k2 i).1 ((key (i + 2) (by omega)).1 (hx (i + 2) (by omega))), ?_⟩
    have a1 := k0.1 ((key 0 (by omega)).1 (hx 0 (by omega)))
    have a2 := k1.1 ((key 1 (by omega)).1 (hx 1 (by omega)))
    grind
  · rintro ⟨hF, hO⟩ i hi
    refine (key i hi).2 ?_
    rcases i with _ | _ | i
    · exact k0.2 (by rw [hO]; exact Rat.le_refl)
    · exact k1.2 (by rw [hO]; exact Rat.le_refl)
    · exact (k2 i).2 (hF i (by omega))
theorem leastG_of {F : (Nat → Rat) → Prop} {V : (Nat → Rat) → Rat} {P : Rat → Prop} {st : Int} {v : Rat} (hP : ∀ t, P t ↔ ∃ x, F x ∧ V x = t) (h : (st = 2 ∧ ∀ t, ¬ P t) ∨ (st = 3 ∧ ∀ B, ∃ t, P t ∧ t ≤ B) ∨ (st = 1 ∧ P v ∧ ∀ t, P t → v ≤ t)) : LeastG F V st v := by
  rcases h with ⟨h1, h2⟩ | ⟨h1, h2⟩ | ⟨h1, h2, h3⟩
  · exact Or.inr (Or.inl ⟨h1, fun x hx => h2 (V x) ((hP _).2 ⟨x, hx, rfl⟩)⟩)
  · refine Or.inr (Or.inr ⟨h1, fun B => ?_⟩)
    obtain ⟨t, ht, hB⟩ := h2 B
    obtain ⟨x, hx, rfl⟩ := (hP t).1 ht
    exact ⟨x, hx, hB⟩
  · exact Or.inl ⟨h1, (hP v).1 h2, fun x hx => h3 _ ((hP _).2 ⟨x, hx, rfl⟩)⟩
theorem holdT_iff {rs : List WD} {n : Nat} (t : Rat) : HoldT (rs.map (pairN n)) t ↔ ∀ r ∈ rs.map WD.k, 0 ≤ r.1 n * t + r.1 (n + 1) := by
  constructor
  · intro h q hq
    obtain ⟨r, hr, e⟩ := List.mem_map.1 hq
    have h1 := h (pairN n r) (List.mem_map.2 ⟨r, hr, rfl⟩)
    rw [← e]
    exact h1
  · intro h q hq
    obtain ⟨r, hr, e⟩ := List.mem_map.1 hq
    have h1 := h r.k (List.mem_map.2 ⟨r, hr, rfl⟩)
    rw [← e]
    exact h1
theorem LeastG.congr {F G : (Nat → Rat) → Prop} {V U : (Nat → Rat) → Rat} {st : Int} {v : Rat} (h : LeastG F V st v) (hF : ∀ x, F x ↔ G x) (hV : ∀ x, V x = U x) : LeastG G U st v := by
  obtain rfl : F = G := funext fun x => propext (hF x)
  obtain rfl : V = U := funext hV
  exact h
/-- the dual's own numbers -/
theorem dual_numbers {p d : PD} {w : World} (hd : d.In w) (h : IsDual p d) (dv : PV d) {n : Nat} (hn : p.vars = (n : Int)) (x : Nat → Rat) :
    (FeasA d.rn p.rn (aP d) (bP d) x ↔ FeasD p.rn n (aP p) (cP p) x) ∧ objA p.rn (cP d) d.obj.k.q x = objD p.rn (bP p) p.obj.k.q x := by
  obtain ⟨X, hX⟩ : ∃ X : Int → Rat, ∀ j : Nat, X (j : Int) = x j := ⟨fun z => x z.toNat, fun j => rfl⟩
  have hS : ∀ (f : FD), (∃ i : Nat, d.rows[i]? = some f) → evV (sem f).1 (sem f).2 X = f.k.q + sumN (fun j => coefT f.ts (j : Int) * x j) p.rn := fun f ⟨i, hf⟩ => by
    rw [evV_sum (formV_srt (dv.rows i f hf) h.vars)]
    refine congrArg (_ + ·) (sumN_congr fun j _ => ?_)
    rw [coefT_fm, hX]; rfl
  have hA : FeasA d.rn p.rn (aP d) (bP d) x ↔ ∀ S ∈ d.rows.map sem, 0 ≤ evV S.1 S.2 X := by
    constructor
    · intro hF S hS'
      obtain ⟨f, hf, rfl⟩ := List.mem_map.1 hS'
      obtain ⟨i, hi, e⟩ := List.mem_iff_getElem.1 hf
      have h1 : d.rows[i]? = some f := by rw [← e]; exact List.getElem?_eq_getElem hi
      have h2 := hF i (by have := hd.rows.len; omega)
      unfold aP bP at h2
      rw [h1] at h2
      simp only [Option.map_some, Option.getD_some] at h2
      rw [hS f ⟨i, h1⟩]
      exact h2
    · intro hF i hi
      have hl := hd.rows.len
      have h1 : d.rows[i]? = some (d.rows[i]'(by omega)) := List.getElem?_eq_getElem _
      have h2 := hF _ (List.mem_map.2 ⟨_, List.mem_of_getElem? h1, rfl⟩)
      rw [hS _ ⟨i, h1⟩] at h2
      unfold aP bP
      rw [h1]
      simp only [Option.map_some, Option.getD_some]
      exact h2
  have hF : ∀ j, evV (dualF p j).1 (dualF p j).2 X = -(cP p j) + sumN (fun i => aP p i j * x i) p.rn := fun j => by
    have := evV_colN (fun f : FD => coefT f.ts (j : Int)) p.rows p.rn (-(coefT p.obj.ts (j : Int))) X
    refine this.trans (congrArg (_ + ·) (sumN_congr fun i _ => by rw [hX]; rfl))
  have hG : ∀ j, evV (dualG p j).1 (dualG p j).2 X = ((-1 : Int) : Rat) * (-(cP p j) + sumN (fun i => aP p i j * x i) p.rn) := fun j => by
    rw [← hF j]
    unfold dualG
    rw [evV_merge0]
  have hc : ((-1 : Int) : Rat) = -1 := rfl
  have hm : p.vars.toNat = n := by omega
  refine ⟨?_, ?_⟩
  · rw [hA, h.rows, hm]
    constructor
    · intro hF'
      refine ⟨fun i hi => ?_, fun j hj => ?_⟩
      · have h1 := hF' ([((i : Int), (1 : Rat))], (0 : Rat)) (List.mem_append.2 (.inl (by unfold dualA; exact List.mem_map.2 ⟨i, by simpa using hi, rfl⟩)))
        rw [evV_cons, evV_nil, hX] at h1
        have e : (0 : Rat) + (1 : Rat) * x i = x i := by grind
        have h2 : (0 : Rat) ≤ 0 + 1 * x i := h1
        rwa [e] at h2
      · have hmm := dualF_mem (p := p) hj
        have h1 := hF' (dualF p j) (List.mem_append.2 (.inr hmm.1))
        have h2 := hF' (dualG p j) (List.mem_append.2 (.inr hmm.2))
        rw [hF] at h1
        rw [hG, hc] at h2
        grind
    · rintro ⟨h1, h2⟩ S hS'
      rcases List.mem_append.1 hS' with h9 | h9
      · obtain ⟨i, hi, rfl⟩ := dualA_mem h9
        rw [evV_cons, evV_nil, hX]
        have := h1 i hi
        show (0 : Rat) ≤ 0 + 1 * x i
        grind
      · obtain ⟨j, hj, rfl | rfl⟩ := dualB_mem h9
        · rw [hF, ← h2 j hj]; grind
        · rw [hG, hc, ← h2 j hj]; grind
  · have h1 : objA p.rn (cP d) d.obj.k.q x = evV (sem d.obj).1 (sem d.obj).2 X := by
      rw [evV_sum (formV_srt dv.obj h.vars)]
      refine congrArg (_ + ·) (sumN_congr fun j _ => ?_)
      show cP d j * x j = coefV (fm _) _ * _
      rw [hX, ← coefT_fm]; rfl
    rw [h1, h.obj]
    refine (evV_colN _ _ _ _ _).trans ?_
    unfold objD
    exact congrArg (_ + ·) (sumN_congr fun i _ => by rw [hX]; rfl)
end Go.Proofs.YtledagemcknlcaaGreat
namespace Go.Proofs.YtledagemcknlcaaGreat
open Go.RowKit

set_option maxRecDepth 100000 in
set_option maxHeartbeats 3200000 in
theorem fvar_c (w : World) (i : Nat) (hi : i ≤ 9223372036854775807) :
    Calls Tryz.prog 41 #[.int .i64 (i : Int)] w (RetFD 1 ([((i : Int), (1 : Rat))], (0 : Rat)) w) := by
  have hP := Pro1.mk' w #[.slice none 0 0, .bool false, .slice none 0 0, .slice none 0 0] 29
  go_enter Tryz.func41, Tryz.ntmps41
  go_upto_region 1 with (fail)
  generalize w.alloc (.cells #[.slice none 0 0, .bool false, .slice none 0 0, .slice none 0 0] 29) = W at *
  have hPb := hP.below
  have hB := hP.b0
  have HPS := Lib.hid hP.size
  clear hP
  go_wp2_with fail
  refine (frof_any W 1 (by omega) (by omega)).mono ?_
  rintro e w5 h5
  obtain ⟨r, rfl, hr, hro, hrq, hb5⟩ := h5.rd
  have HQ := Lib.hid hrq
  clear hrq h5
  have hwb : Below w.heap.size w w5 := hPb.trans (hb5.mono (by have := HPS.out; omega))
  have hb5' := hB.on hb5
  have k0 := hb5'.cell 0
  have k1 := hb5'.cell 1
  have k2 := hb5'.cell 2
  have k3 := hb5'.cell 3
  simp at k0 k1 k2 k3
  have kz := hb5'.lt
  have kf0 := hb5'.frozen 0
  have kf1 := hb5'.frozen 1
  have kf2 := hb5'.frozen 2
  have kf3 := hb5'.frozen 3
  have HX : Hid (((((w5.setCell ⟨w.heap.size, 0, none⟩ (.slice (some ⟨w5.heap.size, 0, none⟩) 1 1)).setCell ⟨w.heap.size, 1, none⟩ (.bool false)).setCell ⟨w.heap.size, 2, none⟩ (.slice none 0 0)).setCell ⟨w.heap.size, 3, none⟩ (.slice none 0 0)).heap.size = w5.heap.size) := (by simp [World.setCell] : ((((w5.setCell ⟨w.heap.size, 0, none⟩ (.slice (some ⟨w5.heap.size, 0, none⟩) 1 1)).setCell ⟨w.heap.size, 1, none⟩ (.bool false)).setCell ⟨w.heap.size, 2, none⟩ (.slice none 0 0)).setCell ⟨w.heap.size, 3, none⟩ (.slice none 0 0)).heap.size = w5.heap.size)
  have HR4 : Hid (r.In ((((w5.setCell ⟨w.heap.size, 0, none⟩ (.slice (some ⟨w5.heap.size, 0, none⟩) 1 1)).setCell ⟨w.heap.size, 1, none⟩ (.bool false)).setCell ⟨w.heap.size, 2, none⟩ (.slice none 0 0)).setCell ⟨w.heap.size, 3, none⟩ (.slice none 0 0))) := hr.set4 hb5' _ _ _ _ _ _ _ _ _ _
  have HB4 : Hid (Below w.heap.size w ((((w5.setCell ⟨w.heap.size, 0, none⟩ (.slice (some ⟨w5.heap.size, 0, none⟩) 1 1)).setCell ⟨w.heap.size, 1, none⟩ (.bool false)).setCell ⟨w.heap.size, 2, none⟩ (.slice none 0 0)).setCell ⟨w.heap.size, 3, none⟩ (.slice none 0 0))) := below_set4 hwb (Nat.le_refl _) _ _ _ _
  have HF : Hid (RetFD 1 ([((i : Int), (1 : Rat))], (0 : Rat)) w (.returned (.agg #[.slice (some ⟨w5.heap.size, 0, none⟩) 1 1, .bool false, .slice none 0 0, .slice none 0 0])) (((((w5.setCell ⟨w.heap.size, 0, none⟩ (.slice (some ⟨w5.heap.size, 0, none⟩) 1 1)).setCell ⟨w.heap.size, 1, none⟩ (.bool false)).setCell ⟨w.heap.size, 2, none⟩ (.slice none 0 0)).setCell ⟨w.heap.size, 3, none⟩ (.slice none 0 0)).alloc (.cells #[.int .i64 (i : Int), .bool r.neg, .slice r.a1 r.n1 r.c1, .slice r.a2 r.n2 r.c2] 52))) := by
    have h1 := HX.out
    have h2 := HR4.out
    have h3 := HB4.out
    clear HX HR4 HB4
    generalize (((w5.setCell ⟨w.heap.size, 0, none⟩ (.slice (some ⟨w5.heap.size, 0, none⟩) 1 1)).setCell ⟨w.heap.size, 1, none⟩ (.bool false)).setCell ⟨w.heap.size, 2, none⟩ (.slice none 0 0)).setCell ⟨w.heap.size, 3, none⟩ (.slice none 0 0) = X at *
    rw [← h1]
    have hal : Below X.heap.size X (X.alloc (.cells #[.int .i64 (i : Int), .bool r.neg, .slice r.a1 r.n1 r.c1, .slice r.a2 r.n2 r.c2] 52)) := (Below.refl _ _).alloc (Nat.le_refl _) _
    exact ⟨unitFD (some ⟨X.heap.size, 0, none⟩) i r, rfl, unit_in (Blk.new X _ _) (h2.on hal), unit_ok hro (by rw [HQ.out]; decide +kernel) (by omega), by rw [unit_sem, HQ.out]; rfl, h3.trans (hal.mono h3.size)⟩
  go_wp2_with fail
  exact bodyPost_ret (v := .agg #[.slice (some ⟨w5.heap.size, 0, none⟩) 1 1, .bool false, .slice none 0 0, .slice none 0 0]) (by simp [results, Tryz.results41, go_sem, *]) rfl HF.out
/-- the difference of two forms -/
def subV (f g : FD) : List (Int × Rat) × Rat := (addV (fm f.ts) (mergeV [] (fm g.ts) ((-1 : Int) : Rat)), f.k.q + g.k.q * ((-1 : Int) : Rat))
theorem neg_len {g s : FD} {w : World} {c : Rat} (hs : s.In w) (h : sem s = (mergeV [] (fm g.ts) c, g.k.q * c)) (hg : g.In w) : s.n ≤ g.n := by
  have h1 : fm s.ts = mergeV [] (fm g.ts) c := congrArg Prod.fst h
  rw [← fm_n hs, h1, ← fm_n hg]
  exact mergeV_len0 _ _
set_option maxRecDepth 100000 in
set_option maxHeartbeats 6400000 in
theorem fsub_c (w : World) {f g : FD} {m mg : Nat} (hf : f.In w) (hof : OkFD m f) (hg : g.In w) (hog : OkFD mg g) (hm : m + 65537 * (mg + 1 + 1 + 1) ≤ 68719476736) (hn : f.n + g.n ≤ 65535) :
    Calls Tryz.prog 40 #[.agg #[.slice f.ad f.n f.c, .bool f.k.neg, .slice f.k.a1 f.k.n1 f.k.c1, .slice f.k.a2 f.k.n2 f.k.c2], .agg #[.slice g.ad g.n g.c, .bool g.k.neg, .slice g.k.a1 g.k.n1 g.k.c1, .slice g.k.a2 g.k.n2 g.k.c2]] w (RetFD (m + 65537 * (mg + 1 + 1 + 1)) (subV f g) w) := by
  have hP := Pro3.mk' w #[.slice f.ad f.n f.c, .bool f.k.neg, .slice f.k.a1 f.k.n1 f.k.c1, .slice f.k.a2 f.k.n2 f.k.c2] #[.slice g.ad g.n g.c, .bool g.k.neg, .slice g.k.a1 g.k.n1 g.k.c1, .slice g.k.a2 g.k.n2 g.k.c2] #[.slice none 0 0, .bool false, .slice none 0 0, .slice none 0 0] 29 29 29
  go_enter Tryz.func40, Tryz.ntmps40
  go_upto_region 1 with (fail)
  generalize ((w.alloc (.cells #[.slice f.ad f.n f.c, .bool f.k.neg, .slice f.k.a1 f.k.n1 f.k.c1, .slice f.k.a2 f.k.n2 f.k.c2] 29)).alloc (.cells #[.slice g.ad g.n g.c, .bool g.k.neg, .slice g.k.a1 g.k.n1 g.k.c1, .slice g.k.a2 g.k.n2 g.k.c2] 29)).alloc (.cells #[.slice none 0 0, .bool false, .slice none 0 0, .slice none 0 0] 29) = W at *
  have HOF := Lib.hid hof
  have HOG := Lib.hid hog
  have hPb := hP.below
  have HPS := Lib.hid hP.size
  have fW := hf.on hPb
  have gW := hg.on hPb
  have hR : Blk W (w.heap.size + 1 + 1) 29 #[.slice none 0 0, .bool false, .slice none 0 0, .slice none 0 0] := hP.b2
  have k0 := hP.b0.cell 0
  have k1 := hP.b0.cell 1
  have k2 := hP.b0.cell 2
  have k3 := hP.b0.cell 3
  simp at k0 k1 k2 k3
  have kz := hP.b0.lt
  have y0 := hP.b1.cell 0
  have y1 := hP.b1.cell 1
  have y2 := hP.b1.cell 2
  have y3 := hP.b1.cell 3
  simp at y0 y1 y2 y3
  have yz := hP.b1.lt
  have r0 := hR.cell 0
  have r1 := hR.cell 1
  have r2 := hR.cell 2
  have r3 := hR.cell 3
  simp at r0 r1 r2 r3
  have rz := hR.lt
  have rf0 := hR.frozen 0
  have rf1 := hR.frozen 1
  have rf2 := hR.frozen 2
  have rf3 := hR.frozen 3
  have hU0 : Below W.heap.size W W.drew := Below.drew (Below.refl _ _)
  clear hP hof hog hf hg
  refine wp_region_T 5 (fun w' => w'.cell? ⟨w.heap.size, 0, none⟩ = some (.slice f.ad f.n f.c) ∧ w'.cell? ⟨w.heap.size, 1, none⟩ = some (.bool f.k.neg) ∧ w'.cell? ⟨w.heap.size, 2, none⟩ = some (.slice f.k.a1 f.k.n1 f.k.c1) ∧ w'.cell? ⟨w.heap.size, 3, none⟩ = some (.slice f.k.a2 f.k.n2 f.k.c2) ∧ w'.cell? ⟨w.heap.size + 1, 0, none⟩ = some (.slice g.ad g.n g.c) ∧ w'.cell? ⟨w.heap.size + 1, 1, none⟩ = some (.bool g.k.neg) ∧ w'.cell? ⟨w.heap.size + 1, 2, none⟩ = some (.slice g.k.a1 g.k.n1 g.k.c1) ∧ w'.cell? ⟨w.heap.size + 1, 3, none⟩ = some (.slice g.k.a2 g.k.n2 g.k.c2)) (by kernel_rfl) (by (try dsimp only); go_keep) (fun hHeld => ?_)
  refine wpT_take 0 (v := ?_) rfl (by kernel_rfl) (fun _ _ _ h => h) (by rfl) (by assumption) ?_ ?_
  rotate_left
  · (intro w9 hS9; (try dsimp only at hS9); go_simp; try with_reducible rfl)
  try simp only [Act.put, List.setIfInBounds_toArray, List.set_cons_zero, List.set_cons_succ]
  refine wpT_take 1 (v := ?_) rfl (by kernel_rfl) (fun _ _ _ h => h) (by rfl) (by assumption) ?_ ?_
  rotate_left
  · (intro w9 hS9; (try dsimp only at hS9); go_simp; try with_reducible rfl)
  try simp only [Act.put, List.setIfInBounds_toArray, List.set_cons_zero, List.set_cons_succ]
  refine wpT_only 2 rfl (by kernel_rfl) (fun K hK => ?_)
  go_simp
  go_at_call 19; refine (frof_any _ (-1) (by omega) (by omega)).mono ?_; rintro e w5 ⟨s8, a9, n9, c9, a10, n10, c10, rfl, g5, hb5'⟩; have hb5 : Below W.heap.size W w5 := hU0.trans hb5'; obtain ⟨hc5, hf5⟩ := bcell hb5
  go_wp2_with fail
  have hOld := hHeld
  clear hHeld
  refine hK.out _ _ ?_ (fun hHeld => ?_)
  · (try dsimp only); go_keep
  clear hOld hK K
  try simp only [Act.put, List.setIfInBounds_toArray, List.set_cons_zero, List.set_cons_succ]
  refine wpT_only 3 rfl (by kernel_rfl) (fun K hK => ?_)
  go_simp
  go_at_call 37; refine (fscale_c (m := mg) (mq := 1) _ (gW.on hb5) HOG.out g5 (by rw [H_mone]; omega) (by omega)).mono ?_; rintro e w6 ⟨s, rfl, hs6, hos, hss, hb6'⟩; have HSS := Lib.hid hss; clear hss; have hb6 : Below W.heap.size W w6 := hb5.trans (hb6'.mono hb5.size); obtain ⟨hc6, hf6⟩ := bcell hb6
  go_wp2_with fail
  have hOld := hHeld
  clear hHeld
  refine hK.out _ _ ?_ (fun hHeld => ?_)
  · (try dsimp only); go_keep
  clear hOld hK K
  try simp only [Act.put, List.setIfInBounds_toArray, List.set_cons_zero, List.set_cons_succ]
  refine wpT_only 4 rfl (by kernel_rfl) (fun K hK => ?_)
  go_simp
  go_at_call 36; refine (fadd_f (m := m) (mg := mg + 1 + 1) _ (fW.on hb6) HOF.out hs6 hos (by omega) (by have h9 := neg_len hs6 HSS.out (gW.on hb6); omega)).mono ?_; rintro e w7 ⟨h, rfl, hh7, hoh, hsh, hb7'⟩; have HSH := Lib.hid hsh; clear hsh; have hb7 : Below W.heap.size W w7 := hb6.trans (hb7'.mono hb6.size); obtain ⟨hc7, hf7⟩ := bcell hb7; have hR7 := hR.on hb7
  go_wp2_with fail
  have hOld := hHeld
  clear hHeld
  refine hK.out _ _ ?_ (fun hHeld => ?_)
  · (try dsimp only); go_keep
  clear hOld hK K
  try simp only [Act.put, List.setIfInBounds_toArray, List.set_cons_zero, List.set_cons_succ]
  refine wpT_last 5 rfl rfl (by kernel_rfl) (fun K hK => ?_)
  go_simp
  refine hK.out _ _ ?_
  clear hK K
  try simp only [Act.put, List.setIfInBounds_toArray, List.set_cons_zero, List.set_cons_succ]
  refine wpT_done (by kernel_rfl) ?_ _
  have HF : Hid (RetFD (m + 65537 * (mg + 1 + 1 + 1)) (subV f g) w (.returned (.agg #[.slice h.ad h.n h.c, .bool h.k.neg, .slice h.k.a1 h.k.n1 h.k.c1, .slice h.k.a2 h.k.n2 h.k.c2])) ((((w7.setCell ⟨w.heap.size + 1 + 1, 0, none⟩ (.slice h.ad h.n h.c)).setCell ⟨w.heap.size + 1 + 1, 1, none⟩ (.bool h.k.neg)).setCell ⟨w.heap.size + 1 + 1, 2, none⟩ (.slice h.k.a1 h.k.n1 h.k.c1)).setCell ⟨w.heap.size + 1 + 1, 3, none⟩ (.slice h.k.a2 h.k.n2 h.k.c2))) := by
    refine ⟨h, rfl, hh7.set4 hR7 _ _ _ _ _ _ _ _ _ _, hoh, ?_, below_set4 (hPb.trans (hb7.mono (by have := HPS.out; omega))) (by omega) _ _ _ _⟩
    have e := HSH.out
    have h1 : fm s.ts = _ := congrArg Prod.fst HSS.out
    have h2 : s.k.q = _ := congrArg Prod.snd HSS.out
    rw [e, h1, h2]; rfl
  go_wp2_with fail
  exact bodyPost_ret (v := .agg #[.slice h.ad h.n h.c, .bool h.k.neg, .slice h.k.a1 h.k.n1 h.k.c1, .slice h.k.a2 h.k.n2 h.k.c2]) (by simp [results, Tryz.results40, go_sem, *]) rfl HF.out
end Go.Proofs.YtledagemcknlcaaGreat
namespace Go.Proofs.YtledagemcknlcaaGreat
open Go.RowKit

theorem Row.lit {w : World} {t : TypeId} (Qc : Value → Prop) (size n : Nat) {cs : Array Value} (hn : n ≤ maxLen) (hcs : cs.size = n * size) (hQ : ∀ x ∈ cs, Qc x) : Row Qc (w.alloc (.cells cs t)) w.heap.size t size (.slice (some ⟨w.heap.size, 0, none⟩) n n) n cs.toList := by
  have h : (w.alloc (.cells cs t)).heap[w.heap.size]? = some (.cells cs t (0, 0)) := heap_alloc_new ..
  refine ⟨⟨by simp [hcs], .inr ⟨w.heap.size, n, cs, rfl, Nat.le_refl _, h, Nat.le_refl _, hn, hcs, by rw [← hcs, ← Array.length_toList, List.take_length]⟩⟩, fun g cur t' p hg hc x hx => ?_⟩
  simp only [Value.ownBlock, Option.some.injEq] at hg
  subst hg
  rw [h] at hc
  cases hc
  exact hQ x hx
theorem fcells_get2 {fs : List FD} {i : Nat} {f : FD} (h : fs[i]? = some f) : (fcells fs)[i * 4]? = some (.slice f.ad f.n f.c) ∧ (fcells fs)[i * 4 + 1]? = some (.bool f.k.neg) ∧ (fcells fs)[i * 4 + 2]? = some (.slice f.k.a1 f.k.n1 f.k.c1) ∧ (fcells fs)[i * 4 + 3]? = some (.slice f.k.a2 f.k.n2 f.k.c2) := by
  induction fs generalizing i with
  | nil => cases h
  | cons u fs ih =>
    have e : fcells (u :: fs) = .slice u.ad u.n u.c :: .bool u.k.neg :: .slice u.k.a1 u.k.n1 u.k.c1 :: .slice u.k.a2 u.k.n2 u.k.c2 :: fcells fs := rfl
    rw [e]
    cases i with
    | zero => cases h; exact ⟨rfl, rfl, rfl, rfl⟩
    | succ i =>
      have := ih (i := i) h
      rw [show (i + 1) * 4 = i * 4 + 4 by omega]
      exact this
theorem fcells_len2 (fs : List FD) : (fcells fs).length = fs.length * 4 := by
  induction fs with
  | nil => rfl
  | cons t ts ih => simp [fcells, List.flatMap_cons] at *; omega
theorem RowsR.flat {w : World} {ad : Option Addr} {n c : Nat} {fs : List FD} (h : RowsR w ad n c fs) (h0 : 0 < n) : ∃ a, ad = some a ∧ ∀ j u, (fcells fs)[j]? = some u → w.cell? (a.add j) = some u := by
  obtain ⟨b, o, rfl, _, hc⟩ := h.cells h0
  refine ⟨_, rfl, fun j u hu => ?_⟩
  rw [addr_plus]
  have hj := (List.getElem?_eq_some_iff.1 hu).1
  rw [fcells_len2] at hj
  have hi : j / 4 < fs.length := by omega
  have ht : fs[j / 4]? = some (fs[j / 4]'hi) := List.getElem?_eq_getElem _
  obtain ⟨e0, e1, e2, e3⟩ := hc _ _ ht
  obtain ⟨f0, f1, f2, f3⟩ := fcells_get2 ht
  have hk : j % 4 = 0 ∨ j % 4 = 1 ∨ j % 4 = 2 ∨ j % 4 = 3 := by omega
  rcases hk with hk | hk | hk | hk
  · have e : j = j / 4 * 4 := by omega
    rw [← e] at f0 e0; rw [e0, ← f0, hu]
  · have e : j = j / 4 * 4 + 1 := by omega
    rw [← e] at f1; rw [f1] at hu; cases hu; rw [show o + j = o + j / 4 * 4 + 1 by omega]; exact e1
  · have e : j = j / 4 * 4 + 2 := by omega
    rw [← e] at f2; rw [f2] at hu; cases hu; rw [show o + j = o + j / 4 * 4 + 2 by omega]; exact e2
  · have e : j = j / 4 * 4 + 3 := by omega
    rw [← e] at f3; rw [f3] at hu; cases hu; rw [show o + j = o + j / 4 * 4 + 3 by omega]; exact e3
/-- flags of the call's own -/
def bcells (ds : List Bool) : Array Value := (ds.map Value.bool).toArray
theorem bcells_get (xs : List Bool) (i : Nat) : (bcells xs)[i]? = xs[i]?.map Value.bool := by simp [bcells]
theorem bcells_set (xs : List Bool) (i : Nat) (x : Bool) : (bcells xs).setIfInBounds i (.bool x) = bcells (xs.set i x) := by
  apply Array.ext_getElem?
  intro j
  simp only [bcells, List.setIfInBounds_toArray, List.map_set]
theorem bcells_made (n : Nat) : madeCells #[.bool false] n = bcells (List.replicate n false) := by
  apply Array.ext_getElem?
  intro j
  simp [madeCells, bcells]
  by_cases h : j < n
  · simp [h, Nat.mod_one]
  · simp [h]
theorem bb_cell {w : World} {g : Nat} {t : TypeId} {xs : List Bool} (h : Blk w g t (bcells xs)) {i : Nat} {x : Bool} (hx : xs[i]? = some x) : w.cell? ⟨g, i, none⟩ = some (.bool x) := by
  rw [h.cell, bcells_get, hx]; rfl
theorem bb_set {w : World} {g : Nat} {t : TypeId} {xs : List Bool} (h : Blk w g t (bcells xs)) (i : Nat) (x : Bool) : Blk (w.setCell ⟨g, i, none⟩ (.bool x)) g t (bcells (xs.set i x)) := by
  have := h.set_ i (.bool x)
  rwa [bcells_set] at this
theorem bb_not {w : World} {g : Nat} {t : TypeId} {xs : List Bool} (h : Blk w g t (bcells xs)) {k : Nat} {v : Value} (hv : w.cell? ⟨g, k, none⟩ = some v) : ∃ b, v = .bool b := by
  rw [h.cell, bcells_get] at hv
  rcases e : xs[k]? with _ | x
  · rw [e] at hv; cases hv
  · rw [e] at hv; cases hv; exact ⟨x, rfl⟩
theorem Tryz.infoBool : (Tryz.prog.info? 4).map (fun i => (i.zero, i.size, i.bytes)) = some (some (.bool false), 1, 1) := by kernel_rfl
theorem Tryz.mkBools (n : Int) (k : Nat) (h : n = k) (h1 : n ≤ 17592186044416) (w : World) :
    (Instr.makeSlice 71 (.int .i64 n) (.int .i64 n)).run Tryz.prog w = .ok (.slice (some ⟨w.heap.size, 0, none⟩) k k) (w.alloc (.cells (madeCells #[.bool false] k) 4)) := by
  subst h
  exact run_make_row' (P := Tryz.prog) 71 4 (.bool false) 1 Tryz.underlying71 Tryz.infoBool rfl .i64 .i64 k (by omega) (by omega) w
theorem IntR.setB {w : World} {g k : Nat} {t : TypeId} {bs : List Bool} {ad : Option Addr} {n c : Nat} {xs : List Int} (h : IntR w ad n c xs) (hB : Blk w g t (bcells bs)) (v : Value) : IntR (w.setCell ⟨g, k, none⟩ v) ad n c xs :=
  ⟨h.len, h.cap, fun h0 => by
    obtain ⟨b, o, e, hlt, hc⟩ := h.cells h0
    have hl := h.len
    have hne : b ≠ g := fun h9 => by
      subst h9
      obtain ⟨x, hx⟩ := bb_not hB (hc 0 (xs[0]'(by omega)) (List.getElem?_eq_getElem _))
      cases hx
    exact ⟨b, o, e, by simpa [World.setCell] using hlt, fun i x hx => (World.cell?_setCell_far _ _ _ _ (fun h9 => hne h9.symm)).trans (hc i x hx)⟩⟩
theorem WsR.setB {w : World} {g k : Nat} {t : TypeId} {bs : List Bool} {ad : Option Addr} {n c : Nat} {rs : List WD} (h : WsR w ad n c rs) (hB : Blk w g t (bcells bs)) (v : Value) : WsR (w.setCell ⟨g, k, none⟩ v) ad n c rs :=
  ⟨h.len, h.cap, fun i r hr => IntR.setB (h.ok i r hr) hB v, fun h0 => by
    obtain ⟨b, o, e, hlt, hc⟩ := h.cells h0
    have hl := h.len
    have hne : b ≠ g := fun h9 => by
      subst h9
      obtain ⟨x, hx⟩ := bb_not hB (hc 0 (rs[0]'(by omega)) (List.getElem?_eq_getElem _)).1
      cases hx
    refine ⟨b, o, e, by simpa [World.setCell] using hlt, fun i r hr => ?_⟩
    obtain ⟨e0, e1⟩ := hc i r hr
    exact ⟨(World.cell?_setCell_far _ _ _ _ (fun h9 => hne h9.symm)).trans e0, (World.cell?_setCell_far _ _ _ _ (fun h9 => hne h9.symm)).trans e1⟩⟩
theorem shl_one {i : Nat} (h : i ≤ 61) : IntKind.u64.wrap ((2 : Int) ^ i) = ((2 ^ i : Nat) : Int) := by
  have h1 : (2 : Nat) ^ i < 18446744073709551616 := Nat.lt_of_lt_of_le (Nat.pow_lt_pow_right (by omega) (show i < 62 by omega)) (by decide)
  have h2 : (((2 : Nat) ^ i : Nat) : Int) = (2 : Int) ^ i := by rw [Int.natCast_pow]; rfl
  rw [← h2]
  generalize (2 : Nat) ^ i = z at *
  exact IntWalk.u64_in _ (by omega)
/-- which variables are eliminated -/
structure DoneL (n k : Nat) (ds : List Bool) (E : List Nat) : Prop where
  len : ds.length = n
  cnt : ds.count true + 1 = k
  el : E.length + 1 = k
  mem : ∀ j, ds[j]? = some true → j ∈ E
  low : ∀ v ∈ E, v < n
theorem DoneL.start (n : Nat) : DoneL n 1 (List.replicate n false) [] :=
  ⟨by simp, by simp [List.count_replicate], rfl, (fun j h => by
    rw [List.getElem?_replicate] at h
    split at h <;> cases h), (fun v h => by cases h)⟩
theorem DoneL.step {n k v : Nat} {ds : List Bool} {E : List Nat} (h : DoneL n k ds E) (hv : ds[v]? = some false) : DoneL n (k + 1) (ds.set v true) (v :: E) := by
  obtain ⟨hlt, he⟩ := List.getElem?_eq_some_iff.1 hv
  refine ⟨by rw [List.length_set]; exact h.len, ?_, by rw [List.length_cons, h.el], fun j hj => ?_, fun u hu => ?_⟩
  · have := h.cnt
    rw [List.count, List.countP_set hlt, he]
    rw [List.count] at this
    simp only [Bool.false_eq_true, if_false, beq_self_eq_true, if_true, Nat.sub_zero, show ((false == true) = true) = False by simp]
    omega
  · by_cases e : j = v
    · simp [e]
    · rw [List.getElem?_set_ne (fun h9 => e h9.symm)] at hj
      simp [h.mem j hj]
  · rcases List.mem_cons.1 hu with rfl | h9
    · rw [← h.len]; exact hlt
    · exact h.low u h9
theorem DoneL.all {n k : Nat} {ds : List Bool} {E : List Nat} (h : DoneL n k ds E) : (∀ j, j < n → ds[j]? = some true) ↔ k = n + 1 := by
  have h1 := h.cnt
  have h2 := h.len
  constructor
  · intro ha
    have : ds.count true = ds.length := List.count_eq_length.2 fun b hb => by
      obtain ⟨j, hj, e⟩ := List.mem_iff_getElem.1 hb
      have h3 := ha j (by omega)
      rw [List.getElem?_eq_getElem hj, e] at h3
      cases h3; rfl
    omega
  · intro hk j hj
    have : ds.count true = ds.length := by omega
    have h3 := List.count_eq_length.1 this (ds[j]'(by omega)) (List.getElem_mem _)
    rw [List.getElem?_eq_getElem (by omega), ← h3]
/-- the choice of a variable under way -/
def BestI (ds : List Bool) (n v : Nat) (bb : Int) : Prop := (bb = -1 ∧ ∀ j, j < v → ds[j]? = some true) ∨ (∃ b : Nat, bb = (b : Int) ∧ b < n ∧ ds[b]? = some false)
theorem BestI.start (ds : List Bool) (n : Nat) : BestI ds n 0 (-1) := Or.inl ⟨rfl, fun j hj => by omega⟩
theorem BestI.skip {ds : List Bool} {n v : Nat} {bb : Int} (h : BestI ds n v bb) (hv : ds[v]? = some true) : BestI ds n (v + 1) bb := by
  rcases h with ⟨h1, h2⟩ | h
  · exact Or.inl ⟨h1, fun j hj => by
      by_cases e : j = v
      · rw [e]; exact hv
      · exact h2 j (by omega)⟩
  · exact Or.inr h
theorem BestI.stay {ds : List Bool} {n v : Nat} {b : Nat} (h : b < n) (hb : ds[b]? = some false) : BestI ds n v (b : Int) := Or.inr ⟨b, rfl, h, hb⟩
theorem BestI.fin {ds : List Bool} {n k : Nat} {E : List Nat} {bb : Int} (h : BestI ds n n bb) (hd : DoneL n k ds E) (hk : k ≤ n) : ∃ b : Nat, bb = (b : Int) ∧ b < n ∧ ds[b]? = some false := by
  rcases h with ⟨_, h2⟩ | h
  · have := hd.all.1 h2; omega
  · exact h
/-- the rows of the program as integers, so far -/
def Den (n : Nat) (fs : List FD) (os : List WD) : Prop :=
  ∀ (i : Nat) (f : FD) (r : WD), fs[i]? = some f → os[i]? = some r → r.b = 2 ^ i ∧ ∃ g : Rat, 0 < g ∧ ∀ u, u ≤ n + 1 → ((r.at u : Int) : Rat) = g * qv f (n + 1) u
theorem Den.add {n i : Nat} {fs : List FD} {os : List WD} {f : FD} {r : WD} (h : Den n fs os) (hl : os.length = i) (hf : fs[i]? = some f) (hb : r.b = 2 ^ i) (hg : ∃ g : Rat, 0 < g ∧ ∀ u, u ≤ n + 1 → ((r.at u : Int) : Rat) = g * qv f (n + 1) u) : Den n fs (os ++ [r]) := by
  intro j f' r' hf' hr'
  rcases Nat.lt_or_ge j os.length with h9 | h9
  · rw [List.getElem?_append_left h9] at hr'
    exact h j f' r' hf' hr'
  · rw [List.getElem?_append_right h9] at hr'
    have e : j = i := by
      have := (List.getElem?_eq_some_iff.1 hr').1
      simp at this
      omega
    subst e
    rw [show j - os.length = 0 by omega] at hr'
    cases hr'
    rw [hf] at hf'
    cases hf'
    exact ⟨hb, hg⟩
/-- what the elimination starts from -/
theorem den_inv {p : PD} {n : Nat} {T S : FD} {os : List WD} (hv : PV p) (hn : p.vars = (n : Int)) (hrl : p.rows.length = p.rn) (hT : SrtN (fm T.ts) (n + 1) ∧ ∀ u, u ≤ n + 1 → qv T (n + 1) u = tQ p n u) (hS : ∀ u, u ≤ n + 1 → qv S (n + 1) u = -(tQ p n u))
    (h : Den n (T :: S :: p.rows) os) (hl : os.length = p.rn + 2) : ∃ o, Inv (p.rn + 2) (n + 2) o [] (os.map WD.k) ∧ ∀ i, i < p.rn + 2 → ∃ g : Rat, 0 < g ∧ ∀ u, u ≤ n + 1 → o i u = g * allQ p n i u := by
  have hq : ∀ (i : Nat) (f : FD), (T :: S :: p.rows)[i]? = some f → ∀ u, u ≤ n + 1 → qv f (n + 1) u = allQ p n i u := fun i f hf u hu => by
    rcases i with _ | _ | i
    · cases hf; exact hT.2 u hu
    · cases hf; exact hS u hu
    · exact qv_r hv hn hf u hu
  have hr : ∀ i, i < p.rn + 2 → ∃ r f, os[i]? = some r ∧ (T :: S :: p.rows)[i]? = some f := fun i hi => ⟨_, _, List.getElem?_eq_getElem (by omega), List.getElem?_eq_getElem (by simp; omega)⟩
  refine ⟨fun i u => ((os[i]?.map fun r => ((r.at u : Int) : Rat)).getD 0), Inv.start (fun q hq' => ?_) (fun i hi => ?_), fun i hi => ?_⟩
  · obtain ⟨r, hm, rfl⟩ := List.mem_map.1 hq'
    obtain ⟨i, hi, e⟩ := List.mem_iff_getElem.1 hm
    have h1 : os[i]? = some r := by rw [← e]; exact List.getElem?_eq_getElem hi
    obtain ⟨r', f, h2, h3⟩ := hr i (by omega)
    rw [h1] at h2
    cases h2
    exact ⟨i, by omega, (h i f r h3 h1).1, fun u _ => by show ((r.at u : Int) : Rat) = _; rw [h1]; rfl⟩
  · obtain ⟨r, f, h2, h3⟩ := hr i hi
    exact ⟨r.k, List.mem_map.2 ⟨r, List.mem_of_getElem? h2, rfl⟩, (h i f r h3 h2).1⟩
  · obtain ⟨r, f, h2, h3⟩ := hr i hi
    obtain ⟨_, g, hg, he⟩ := h i f r h3 h2
    exact ⟨g, hg, fun u hu => by show ((os[i]?.map fun r => ((r.at u : Int) : Rat)).getD 0) = _; rw [h2]; show ((r.at u : Int) : Rat) = _; rw [he u hu, hq i f h3 u hu]⟩
/-- The call returns the status and the least value of the program. -/
def RetLeast (p : PD) (n : Nat) (w : World) (e : Ending) (w' : World) : Prop :=
  ∃ (st : Int) (x : RQ), e = .returned (.tuple #[.int .i64 st, .agg #[.bool x.s, .slice x.a x.n x.c, .slice x.a' x.n' x.c']]) ∧ x.C w' ∧ H x.q ≤ 2 ∧ Below w.heap.size w w' ∧
    (st = 0 ∨ LeastG (FeasA p.rn n (aP p) (bP p)) (objA n (cP p) p.obj.k.q) st x.q)
theorem least_fin {p : PD} {n : Nat} {o : Nat → Nat → Rat} {E : List Nat} {ds : List Bool} {rs : List WD} {st : Int} {v : Rat} (h : Inv (p.rn + 2) (n + 2) o E (rs.map WD.k)) (hd : DoneL n (n + 1) ds E)
    (ho : ∀ i, i < p.rn + 2 → ∃ g : Rat, 0 < g ∧ ∀ u, u ≤ n + 1 → o i u = g * allQ p n i u)
    (hr : (st = 2 ∧ ∀ t, ¬ HoldT (rs.map (pairN n)) t) ∨ (st = 3 ∧ ∀ B, ∃ t, HoldT (rs.map (pairN n)) t ∧ t ≤ B) ∨ (st = 1 ∧ HoldT (rs.map (pairN n)) v ∧ ∀ t, HoldT (rs.map (pairN n)) t → v ≤ t)) :
    LeastG (FeasA p.rn n (aP p) (bP p)) (objA n (cP p) p.obj.k.q) st v :=
  leastG_of (P := HoldT (rs.map (pairN n))) (fun t => (holdT_iff t).trans (least_iff h (fun j hj => hd.mem j (hd.all.2 rfl j hj)) hd.low ho t)) hr
end Go.Proofs.YtledagemcknlcaaGreat
namespace Go.Proofs.YtledagemcknlcaaGreat
open Go.RowKit

def tS (n : Nat) (obj : FD) : List (Int × Rat) × Rat := (addV [((n : Int), (1 : Rat))] (mergeV [] (fm obj.ts) ((-1 : Int) : Rat)), 0 + obj.k.q * ((-1 : Int) : Rat))
theorem one_n {u : FD} {w : World} {v : Int} {c k : Rat} (hu : u.In w) (h : sem u = ([(v, c)], k)) : u.n = 1 := by
  have h1 : fm u.ts = [(v, c)] := congrArg Prod.fst h
  rw [← fm_n hu, h1]; rfl
theorem t_sem {u t obj : FD} {n : Nat} (hu : sem u = ([((n : Int), (1 : Rat))], (0 : Rat))) (ht : sem t = subV u obj) : sem t = tS n obj := by
  have h1 : fm u.ts = _ := congrArg Prod.fst hu
  have h2 : u.k.q = _ := congrArg Prod.snd hu
  rw [ht]
  unfold subV tS
  rw [h1, h2]
def TCut (W : World) (n : Nat) (obj : FD) (M : Nat) (s5 : Value) (wx : World) : Prop :=
  ∃ B T U, s5 = .pointer (some ⟨B, 0, none⟩) ∧ W.heap.size ≤ B ∧ Blk U B 29 #[.slice T.ad T.n T.c, .bool T.k.neg, .slice T.k.a1 T.k.n1 T.k.c1, .slice T.k.a2 T.k.n2 T.k.c2] ∧ FD.In T U ∧ OkFD M T ∧ sem T = tS n obj ∧ Below W.heap.size W U ∧ U = wx
theorem two_rows {w : World} {T S : FD} {rows : List FD} (hT : T.In w) (hS : S.In w) (hr : ∀ (i : Nat) (f : FD), rows[i]? = some f → f.In w) : ∀ (i : Nat) (f : FD), (T :: S :: rows)[i]? = some f → f.In w := fun i f hf => by
  rcases i with _ | _ | i
  · cases hf; exact hT
  · cases hf; exact hS
  · exact hr i f hf
theorem two_ok {M : Nat} {T S : FD} {rows : List FD} (hT : OkFD M T) (hS : OkFD M S) (hr : ∀ (i : Nat) (f : FD), rows[i]? = some f → OkFD M f) : ∀ (i : Nat) (f : FD), (T :: S :: rows)[i]? = some f → OkFD M f := fun i f hf => by
  rcases i with _ | _ | i
  · cases hf; exact hT
  · cases hf; exact hS
  · exact hr i f hf
set_option maxRecDepth 100000 in
set_option maxHeartbeats 25600000 in
theorem least_aux (w : World) {n : Nat} {ra : Option Addr} {rn rc : Nat} {rows : List FD} {obj : FD} {m : Nat} (h : PD.In (⟨(n : Int), ra, rn, rc, rows, obj⟩ : PD) w) (hv : PV (⟨(n : Int), ra, rn, rc, rows, obj⟩ : PD)) (ho : OkPD m (⟨(n : Int), ra, rn, rc, rows, obj⟩ : PD)) (hm : m ≤ 64) (hno : obj.n ≤ 60000) (hnn : n ≤ 50) :
    Calls Tryz.prog 11 #[.agg #[.int .i64 (n : Int), .slice ra rn rc, .slice obj.ad obj.n obj.c, .bool obj.k.neg, .slice obj.k.a1 obj.k.n1 obj.k.c1, .slice obj.k.a2 obj.k.n2 obj.k.c2]] w (RetLeast (⟨(n : Int), ra, rn, rc, rows, obj⟩ : PD) n w) := by
  have hP := Pro2.mk' w #[.int .i64 (n : Int), .slice ra rn rc, .slice obj.ad obj.n obj.c, .bool obj.k.neg, .slice obj.k.a1 obj.k.n1 obj.k.c1, .slice obj.k.a2 obj.k.n2 obj.k.c2] #[.bool false, .slice none 0 0, .slice none 0 0] 31 27
  obtain ⟨i0, hi0, hz0, hz1, hz2⟩ := info_parts Tryz.infoAffine
  have HI := Lib.hid (And.intro hi0 (And.intro hz0 (And.intro hz1 hz2)))
  clear hi0 hz0 hz1 hz2
  have HRN : rn ≤ 4096 := ho.rn
  go_enter Tryz.func11, Tryz.ntmps11
  go_upto_region 1 with (fail)
  generalize (w.alloc (.cells #[.int .i64 (n : Int), .slice ra rn rc, .slice obj.ad obj.n obj.c, .bool obj.k.neg, .slice obj.k.a1 obj.k.n1 obj.k.c1, .slice obj.k.a2 obj.k.n2 obj.k.c2] 31)).alloc (.cells #[.bool false, .slice none 0 0, .slice none 0 0] 27) = W at *
  have hpB := hP.b0
  have hR := hP.b1
  have hPb := hP.below
  have HPS := Lib.hid hP.size
  have pW := h.on hPb
  have HO := Lib.hid ho
  have HV := Lib.hid hv
  have HRL : Hid (rows.length = rn) := h.rows.len
  clear hv ho
  have k0 := hpB.cell 0
  have k1 := hpB.cell 1
  have k2 := hpB.cell 2
  have k3 := hpB.cell 3
  have k4 := hpB.cell 4
  have k5 := hpB.cell 5
  simp at k0 k1 k2 k3 k4 k5
  have kz := hpB.lt
  clear hP
  go_upto_region 2 with (fail)
  go_cut [5] (fun s5 wx => TCut W n obj (1 + 65537 * (m + 1 + 1 + 1)) s5 wx)
  case first =>
    refine wp_region_mono [Spc.det (.int .i64 (n : Int)), Spc.fd (fun f => .agg #[.slice f.ad f.n f.c, .bool f.k.neg, .slice f.k.a1 f.k.n1 f.k.c1, .slice f.k.a2 f.k.n2 f.k.c2]) 1 ([((n : Int), (1 : Rat))], (0 : Rat)), Spc.det (.pointer (some ⟨w.heap.size, 2, none⟩)), Spc.det (.agg #[.slice obj.ad obj.n obj.c, .bool obj.k.neg, .slice obj.k.a1 obj.k.n1 obj.k.c1, .slice obj.k.a2 obj.k.n2 obj.k.c2]), Spc.fd (fun f => .agg #[.slice f.ad f.n f.c, .bool f.k.neg, .slice f.k.a1 f.k.n1 f.k.c1, .slice f.k.a2 f.k.n2 f.k.c2]) (1 + 65537 * (m + 1 + 1 + 1)) (tS n obj), Spc.box W.heap.size 29 #[.slice none 0 0, .bool false, .slice none 0 0, .slice none 0 0], .any] 6 (A := ?_) (by kernel_rfl) (by kernel_rfl) (by kernel_rfl) ?_ ⟨fun hs u w9 hw9 hd9 K9 hK9 => ?_, fun hs u w9 hw9 hd9 K9 hK9 => ?_, fun hs u w9 hw9 hd9 K9 hK9 => ?_, fun hs u w9 hw9 hd9 K9 hK9 => ?_, fun hs u w9 hw9 hd9 K9 hK9 => ?_, fun hs u w9 hw9 hd9 K9 hK9 => ?_, fun hs u w9 hw9 hd9 K9 hK9 => ?_, trivial⟩ ?_ ?_
    rotate_left
    · (intro u; simp only [allPut, Act.put, List.setIfInBounds_toArray, List.set_cons_zero, List.set_cons_succ, Nat.zero_add, Nat.reduceAdd]; rfl)
    · clear hs
      obtain ⟨hc9, hf9⟩ := bcell hw9
      clear hd9
      go_simp
      exact hK9.out _ _ _ rfl (Below.refl _ _) rfl
    · clear hs
      obtain ⟨hc9, hf9⟩ := bcell hw9
      simp only [depsOk, Region.binds, if_true, and_true, List.getD_cons_zero, List.getD_cons_succ, Spc.det, Spc.any] at hd9
      generalize u 0 = x0 at hd9 hK9 ⊢
      obtain rfl := hd9
      go_simp
      go_at_call 41
      refine (fvar_c w9 n (by omega)).mono ?_
      rintro e w5 ⟨u, rfl, hu, hou, hsu, hb⟩
      exact hK9.out _ _ _ ⟨u, rfl, hu, hou, hsu⟩ hb rfl
    · clear hs
      obtain ⟨hc9, hf9⟩ := bcell hw9
      clear hd9
      go_simp
      exact hK9.out _ _ _ rfl (Below.refl _ _) rfl
    · clear hs
      obtain ⟨hc9, hf9⟩ := bcell hw9
      simp only [depsOk, Region.binds, if_true, and_true, List.getD_cons_zero, List.getD_cons_succ, Spc.det, Spc.any] at hd9
      generalize u 2 = x2 at hd9 hK9 ⊢
      obtain rfl := hd9
      go_simp
      exact hK9.out _ _ _ rfl (Below.refl _ _) rfl
    · clear hs
      obtain ⟨hc9, hf9⟩ := bcell hw9
      simp only [depsOk, Region.binds, if_true, and_true, List.getD_cons_zero, List.getD_cons_succ, Spc.det, Spc.any] at hd9
      generalize u 1 = x1 at hd9 hK9 ⊢
      generalize u 3 = x3 at hd9 hK9 ⊢
      obtain ⟨⟨u, rfl, hu, hou, hsu⟩, rfl, _⟩ := hd9
      go_simp
      go_at_call 40
      refine (fsub_c w9 (g := obj) (m := 1) (mg := m) hu hou (pW.obj.on hw9) HO.out.obj (by omega) (by have := one_n hu hsu; omega)).mono ?_
      rintro e w5 ⟨t, rfl, ht, hot, hst, hb⟩
      exact hK9.out _ _ _ ⟨t, rfl, ht, hot, t_sem hsu hst⟩ hb rfl
    · clear hs
      obtain ⟨hc9, hf9⟩ := bcell hw9
      clear hd9
      go_simp
      exact hK9.out _ _ _ ⟨w9.heap.size, rfl, hw9.size, Blk.new _ _ _⟩ ((Below.refl _ _).alloc (Nat.le_refl _) _) rfl
    · exact absurd rfl hs
    · intro hs; exact absurd hs (by decide)
    · intro o9 ho9 u w9 hw9 hsp9
      cases ho9
      obtain ⟨hc9, hf9⟩ := bcell hw9
      have q0 := hsp9 0 (by decide) (by decide)
      have q1 := hsp9 1 (by decide) (by decide)
      have q2 := hsp9 2 (by decide) (by decide)
      have q3 := hsp9 3 (by decide) (by decide)
      have q4 := hsp9 4 (by decide) (by decide)
      have q5 := hsp9 5 (by decide) (by decide)
      simp only [List.getD_cons_zero, List.getD_cons_succ, Spc.det] at q0 q1 q2 q3 q4 q5
      clear hsp9
      generalize u 0 = x0 at q0 ⊢
      subst q0
      generalize u 1 = x1 at q1 ⊢
      generalize u 2 = x2 at q2 ⊢
      subst q2
      generalize u 3 = x3 at q3 ⊢
      subst q3
      generalize u 4 = x4 at q4 ⊢
      generalize u 5 = x5 at q5 ⊢
      obtain ⟨t, rfl, ht, hot, hst⟩ := q4
      obtain ⟨B, rfl, hB, hb⟩ := q5
      refine wpOp_step rfl (fun K8 hK8 => ?_)
      have b0 := hb.cell 0
      have b1 := hb.cell 1
      have b2 := hb.cell 2
      have b3 := hb.cell 3
      have f0 := hb.frozen 0
      have f1 := hb.frozen 1
      have f2 := hb.frozen 2
      have f3 := hb.frozen 3
      simp at b0 b1 b2 b3
      go_simp
      refine hK8 _ _ ?_
      clear hK8 K8
      go_wp2_with fail
      go_meet
      exact ⟨B, t, _, rfl, hB, hb.set4 _ _ _ _, ht.set4 hb _ _ _ _ _ _ _ _ _ _, hot, hst, below_set4 hw9 hB _ _ _ _, rfl⟩
  case rest =>
    obtain ⟨B, T, X, rfl, hB, hbB, hT, hoT, hsT, hbX, rfl⟩ := hcut
    have HOT := Lib.hid hoT
    have HST := Lib.hid hsT
    clear hoT hsT
    have pX := pW.on hbX
    have hpX := hpB.on hbX
    have hRX := hR.on hbX
    have hwX : Below w.heap.size w X := hPb.trans (hbX.mono (by have := HPS.out; omega))
    have hU0 : Below X.heap.size X X.drew := Below.drew (Below.refl _ _)
    clear k0 k1 k2 k3 k4 k5 kz pW hpB hR
    have k1 := hpX.cell 1
    simp at k1
    have kz := hpX.lt
    have y0 := hbB.cell 0
    have y1 := hbB.cell 1
    have y2 := hbB.cell 2
    have y3 := hbB.cell 3
    simp at y0 y1 y2 y3
    have yz := hbB.lt
    go_upto_region 3 with (fail)
    refine wp_region_T 8 (fun w' => w'.cell? ⟨B, 0, none⟩ = some (.slice T.ad T.n T.c) ∧ w'.cell? ⟨B, 1, none⟩ = some (.bool T.k.neg) ∧ w'.cell? ⟨B, 2, none⟩ = some (.slice T.k.a1 T.k.n1 T.k.c1) ∧ w'.cell? ⟨B, 3, none⟩ = some (.slice T.k.a2 T.k.n2 T.k.c2) ∧ w'.cell? ⟨w.heap.size, 1, none⟩ = some (.slice ra rn rc)) (by kernel_rfl) (by (try dsimp only); go_keep) (fun hHeld => ?_)
    refine wpT_take 0 (v := ?_) rfl (by kernel_rfl) (fun _ _ _ h => h) (by rfl) (by assumption) ?_ ?_
    rotate_left
    · (intro w9 hS9; (try dsimp only at hS9); go_simp; try with_reducible rfl)
    try simp only [Act.put, List.setIfInBounds_toArray, List.set_cons_zero, List.set_cons_succ]
    refine wpT_take 1 (v := ?_) rfl (by kernel_rfl) (fun _ _ _ h => h) (by rfl) (by assumption) ?_ ?_
    rotate_left
    · (intro w9 hS9; (try dsimp only at hS9); go_simp; try with_reducible rfl)
    try simp only [Act.put, List.setIfInBounds_toArray, List.set_cons_zero, List.set_cons_succ]
    refine wpT_take 5 (v := ?_) rfl (by kernel_rfl) (fun _ _ _ h => h) (by rfl) (by assumption) ?_ ?_
    rotate_left
    · (intro w9 hS9; (try dsimp only at hS9); go_simp; try with_reducible rfl)
    try simp only [Act.put, List.setIfInBounds_toArray, List.set_cons_zero, List.set_cons_succ]
    refine wpT_take 6 (v := ?_) rfl (by kernel_rfl) (fun _ _ _ h => h) (by rfl) (by assumption) ?_ ?_
    rotate_left
    · (intro w9 hS9; (try dsimp only at hS9); go_simp; try with_reducible rfl)
    try simp only [Act.put, List.setIfInBounds_toArray, List.set_cons_zero, List.set_cons_succ]
    refine wpT_only 2 rfl (by kernel_rfl) (fun K hK => ?_)
    go_simp
    go_at_call 19; refine (frof_any _ (-1) (by omega) (by omega)).mono ?_; rintro e w5 ⟨s8, a9, n9, c9, a10, n10, c10, rfl, g5, hb5'⟩; have hb5 : Below X.heap.size X w5 := hU0.trans hb5'; obtain ⟨hc5, hf5⟩ := bcell hb5
    go_wp2_with fail
    have hOld := hHeld
    clear hHeld
    refine hK.out _ _ ?_ (fun hHeld => ?_)
    · (try dsimp only); go_keep
    clear hOld hK K
    try simp only [Act.put, List.setIfInBounds_toArray, List.set_cons_zero, List.set_cons_succ]
    refine wpT_only 3 rfl (by kernel_rfl) (fun K hK => ?_)
    go_simp
    go_at_call 37; refine (fscale_c (m := (1 + 65537 * (m + 1 + 1 + 1))) (mq := 1) _ (hT.on hb5) HOT.out g5 (by rw [H_mone]; omega) (by omega)).mono ?_; rintro e w6 ⟨S, rfl, hs6, hos, hss, hb6'⟩; have HSS := Lib.hid hss; have HOS := Lib.hid hos; clear hss hos; have hb6 : Below X.heap.size X w6 := hb5.trans (hb6'.mono hb5.size); obtain ⟨hc6, hf6⟩ := bcell hb6; have hal : Below w6.heap.size w6 (w6.alloc (.cells #[.slice T.ad T.n T.c, .bool T.k.neg, .slice T.k.a1 T.k.n1 T.k.c1, .slice T.k.a2 T.k.n2 T.k.c2, .slice S.ad S.n S.c, .bool S.k.neg, .slice S.k.a1 S.k.n1 S.k.c1, .slice S.k.a2 S.k.n2 S.k.c2] 29)) := (Below.refl _ _).alloc (Nat.le_refl _) _; have hRow : Row NotI (w6.alloc (.cells #[.slice T.ad T.n T.c, .bool T.k.neg, .slice T.k.a1 T.k.n1 T.k.c1, .slice T.k.a2 T.k.n2 T.k.c2, .slice S.ad S.n S.c, .bool S.k.neg, .slice S.k.a1 S.k.n1 S.k.c1, .slice S.k.a2 S.k.n2 S.k.c2] 29)) w6.heap.size 29 4 (.slice (some ⟨w6.heap.size, 0, none⟩) 2 2) 2 (fcells [T, S]) := Row.lit (w := w6) NotI 4 2 (by simp only [maxLen]; omega) rfl (fun x hx => fcells_notI [T, S] x (Array.mem_toList_iff.2 hx)); have hba : Below X.heap.size X (w6.alloc (.cells #[.slice T.ad T.n T.c, .bool T.k.neg, .slice T.k.a1 T.k.n1 T.k.c1, .slice T.k.a2 T.k.n2 T.k.c2, .slice S.ad S.n S.c, .bool S.k.neg, .slice S.k.a1 S.k.n1 S.k.c1, .slice S.k.a2 S.k.n2 S.k.c2] 29)) := hb6.trans (hal.mono hb6.size); have HRF := Lib.hid ((pX.on hba).rows); obtain ⟨hca, hfa⟩ := bcell hba
    go_wp2_with fail
    have hOld := hHeld
    clear hHeld
    refine hK.out _ _ ?_ (fun hHeld => ?_)
    · (try dsimp only); go_keep
    clear hOld hK K
    try simp only [Act.put, List.setIfInBounds_toArray, List.set_cons_zero, List.set_cons_succ]
    refine wpT_only 4 rfl (by kernel_rfl) (fun K hK => ?_)
    go_simp
    have hOld := hHeld
    clear hHeld
    refine hK.out _ _ ?_ (fun hHeld => ?_)
    · (try dsimp only); go_keep
    clear hOld hK K
    try simp only [Act.put, List.setIfInBounds_toArray, List.set_cons_zero, List.set_cons_succ]
    refine wpT_only 7 rfl (by kernel_rfl) (fun K hK => ?_)
    refine step_row_any rfl (.tmp 27) (.tmp 29) _ rfl w6.heap.size 29 i0 (.agg #[.slice none 0 0, .bool false, .slice none 0 0, .slice none 0 0]) 4 80 Tryz.underlying22 HI.out.1 HI.out.2.1 HI.out.2.2.1 HI.out.2.2.2 rfl (by omega) (.slice (some ⟨w6.heap.size, 0, none⟩) 2 2) 2 (fcells [T, S]) rfl hRow ra rn rc (fcells rows) rfl (by rw [fcells_len2, HRL.out]) (fun h9 => HRF.out.flat h9) (fun u hu => fcells_one rows u hu) (by simp only [maxLen]; omega) (by omega) (by simp) affine_zero (fun u hu => fcells_notI rows u hu) ?_; intro v7 w7 hr7 hg7 ho7; obtain ⟨ad7, c7, rfl⟩ := hr7.shape; have hb7a : Below w6.heap.size (w6.alloc (.cells #[.slice T.ad T.n T.c, .bool T.k.neg, .slice T.k.a1 T.k.n1 T.k.c1, .slice T.k.a2 T.k.n2 T.k.c2, .slice S.ad S.n S.c, .bool S.k.neg, .slice S.k.a1 S.k.n1 S.k.c1, .slice S.k.a2 S.k.n2 S.k.c2] 29)) w7 := hRow.below hg7 (by simp); have hb7 : Below X.heap.size X w7 := hb6.trans ((hal.trans hb7a).mono hb6.size); obtain ⟨hc7, hf7⟩ := bcell hb7
    have hOld := hHeld
    clear hHeld
    refine hK.out _ _ ?_ (fun hHeld => ?_)
    · (try dsimp only); go_keep
    clear hOld hK K
    try simp only [Act.put, List.setIfInBounds_toArray, List.set_cons_zero, List.set_cons_succ]
    refine wpT_last 8 rfl rfl (by kernel_rfl) (fun K hK => ?_)
    go_simp
    refine hK.out _ _ ?_
    clear hK K
    try simp only [Act.put, List.setIfInBounds_toArray, List.set_cons_zero, List.set_cons_succ]
    refine wpT_done (by kernel_rfl) ?_ _
    have hT7 := hT.on hb7
    have hs7 := hs6.on (hal.trans hb7a)
    have hA : RowsR w7 ad7 (2 + rn) c7 (T :: S :: rows) := Row.forms (fs := T :: S :: rows) hr7 (two_rows hT7 hs7 (fun i f hf => (pX.on hb7).rows.ok i f hf))
    have HOF : Hid (∀ (i : Nat) (f : FD), (T :: S :: rows)[i]? = some f → OkFD ((1 + 65537 * (m + 1 + 1 + 1)) + 1 + 1) f) := two_ok (HOT.out.mono (by omega)) HOS.out (fun i f hf => (HO.out.rows i f hf).mono (by omega))
    have hw7 : Below w.heap.size w w7 := hwX.trans (hb7.mono hwX.size)
    have hR7 := hRX.on hb7
    have hp7 := hpX.on hb7
    have HQT := Lib.hid (qv_t (p := (⟨(n : Int), ra, rn, rc, rows, obj⟩ : PD)) (n := n) HV.out rfl HST.out)
    have HQS := Lib.hid (qv_s (p := (⟨(n : Int), ra, rn, rc, rows, obj⟩ : PD)) (n := n) (T := T) (S := S) HQT.out HSS.out)
    have HRT : Hid (Blk w7 (w.heap.size + 1) 27 #[.bool false, .slice none 0 0, .slice none 0 0]) := hR7
    obtain ⟨na, hna⟩ : ∃ na, na = 2 + rn := ⟨_, rfl⟩
    rw [← hna] at hA ⊢
    have HNA := Lib.hid hna
    clear hna hr7 hg7 ho7 hs6 hs7 hT7 hb7 hb7a hal hT hRow HRF hba hca hfa hb6 hb5 hc5 hf5 hc6 hf6 hc7 hf7 g5 k1 kz y0 y1 y2 y3 yz pX hpX hRX hwX hbB hbX hU0
    by_cases h62 : 62 < na
    · have d1 : decide (62 < na) = true := decide_eq_true h62
      have d2 : decide ((62 : Int) < (na : Int)) = true := decide_eq_true (by omega)
      have r0 := hR7.cell 0
      have r1 := hR7.cell 1
      have r2 := hR7.cell 2
      simp at r0 r1 r2
      have rz := hR7.lt
      have rf0 := hR7.frozen 0
      have rf1 := hR7.frozen 1
      have rf2 := hR7.frozen 2
      go_wp2_with fail
      exact bodyPost_ret (v := .tuple #[.int .i64 0, .agg #[.bool false, .slice none 0 0, .slice none 0 0]]) (by simp [results, Tryz.results11, go_sem, *]) rfl
        ⟨0, ⟨false, none, 0, 0, none, 0, 0, 0⟩, rfl, ratC_zero _, (by show H 0 ≤ 2; rw [H_zero]; omega), below_box27 hw7 (by omega) _ _ _, Or.inl rfl⟩
    have d1 : decide (62 < na) = false := decide_eq_false h62
    have d2 : decide ((62 : Int) < (na : Int)) = false := decide_eq_false (by omega)
    obtain ⟨j0, hj0, hy0, hy1, hy2⟩ := info_parts Tryz.infoRow
    have HJ := Lib.hid (And.intro hj0 (And.intro hy0 (And.intro hy1 hy2)))
    clear hj0 hy0 hy1 hy2
    go_wp2_with fail
    clear d1 d2
    go_loopw [7, 8] (fun s7 s8 wr => ∃ i mad mc os, i ≤ na ∧ s8 = .int .i64 (i : Nat) ∧ s7 = .slice mad i mc ∧ WOut w7 wr (n + 2) mad i mc os ∧ Hid (Den n (T :: S :: rows) os)) (fun _ i _ => na - (intOf i).toNat)
    case atStart => exact ⟨0, none, 0, [], by omega, rfl, rfl, WOut.nil _ _ _ (Below.refl _ _), ((fun i f r _ h9 => by cases h9) : Den n (T :: S :: rows) [])⟩
    case round =>
      obtain ⟨i, mad, mc, os, hi, rfl, rfl, hW, HD⟩ := hrel
      have hRr := hR7.on hW.below
      have hwr := hw7.trans (hW.below.mono hw7.size)
      by_cases hlt : i < na
      · obtain ⟨b, o, f, rfl, hbl, HF, gf, r0, r1, r2, r3⟩ := (hA.on hW.below).at_ (i := i) hlt
        have lo : decide ((i : Int) < 0) = false := decide_eq_false (by omega)
        have hi' : decide ((na : Int) ≤ (i : Int)) = false := decide_eq_false (by omega)
        have HC : Hid (Calls Tryz.prog 42 #[.agg #[.slice f.ad f.n f.c, .bool f.k.neg, .slice f.k.a1 f.k.n1 f.k.c1, .slice f.k.a2 f.k.n2 f.k.c2], .int .i64 ((n : Int) + 1)] wr (RetDen f (n + 1) wr)) := dense_c wr (N := n + 1) gf (HOF.out i f HF.out) (by omega) (by omega)
        go_wp2_with fail
        refine HC.out.mono ?_
        rintro e w5 ⟨ok, cad, cn, cc, xs, rfl, hb5, hrd⟩
        have HRD := Lib.hid hrd
        have hW5 := hW.on hb5
        have hR5 := hRr.on hb5
        have hw5 := hwr.trans (hb5.mono hwr.size)
        clear hrd r0 r1 r2 r3 HC
        rcases ok with _ | _
        · have r0 := hR5.cell 0
          have r1 := hR5.cell 1
          have r2 := hR5.cell 2
          simp at r0 r1 r2
          have rz := hR5.lt
          have rf0 := hR5.frozen 0
          have rf1 := hR5.frozen 1
          have rf2 := hR5.frozen 2
          go_wp2_with fail
          exact bodyPost_ret (v := .tuple #[.int .i64 0, .agg #[.bool false, .slice none 0 0, .slice none 0 0]]) (by simp [results, Tryz.results11, go_sem, *]) rfl
            ⟨0, ⟨false, none, 0, 0, none, 0, 0, 0⟩, rfl, ratC_zero _, (by show H 0 ≤ 2; rw [H_zero]; omega), below_box27 hw5 (by omega) _ _ _, Or.inl rfl⟩
        · obtain ⟨hI, hcn, hbd, g, hg, he⟩ := HRD.out rfl
          subst hcn
          have HLO : Hid (os.length = i) := (by have := hW.row.own.1; rw [wcells_len] at this; omega : os.length = i)
          have h2i : (2 : Nat) ^ i < 18446744073709551616 := Nat.lt_of_lt_of_le (Nat.pow_lt_pow_right (by omega) (show i < 62 by omega)) (by decide)
          have HOW : Hid (OkW (n + 2) ⟨cad, n + 1 + 1, cc, xs, 2 ^ i⟩) := ⟨rfl, hbd, h2i⟩
          have HDA : Hid (Den n (T :: S :: rows) (os ++ [⟨cad, n + 1 + 1, cc, xs, 2 ^ i⟩])) := HD.out.add HLO.out HF.out rfl ⟨g, hg, fun u hu => he u (by omega)⟩
          have hin5 : WD.In ⟨cad, n + 1 + 1, cc, xs, 2 ^ i⟩ w5 := hI
          have hsh := shl_one (show i ≤ 61 by omega)
          obtain ⟨z, hz⟩ : ∃ z : Nat, z = 2 ^ i := ⟨_, rfl⟩
          rw [← hz] at hsh HOW HDA hin5 h2i
          have HZ := Lib.hid hz
          clear hz hI hbd he HRD
          have hal : Below w5.heap.size w5 (w5.alloc (.cells #[.slice cad (n + 1 + 1) cc, .int .u64 (z : Int)] 70)) := (Below.refl _ _).alloc (Nat.le_refl _) _
          have hW6 := hW5.on hal
          have hin := WD.In.on hin5 hal
          clear hal
          go_upto_region 13 with (fail)
          go_wp2_with (at_builtin; refine wpList_row _ rfl (.tmp 54) (.tmp 59) _ rfl w7.heap.size 70 j0 (.agg #[.slice none 0 0, .int .u64 0]) 2 32 Tryz.underlying64 HJ.out.1 HJ.out.2.1 HJ.out.2.2.1 HJ.out.2.2.2 rfl (by omega) (.slice mad i mc) i (wcells os) rfl hW6.row ⟨w5.heap.size, 0, none⟩ 1 1 [.slice cad (n + 1 + 1) cc, .int .u64 (z : Int)] rfl rfl (cells_news w5 #[.slice cad (n + 1 + 1) cc, .int .u64 (z : Int)] _) (wcells_one [⟨cad, n + 1 + 1, cc, xs, z⟩]) (by simp only [maxLen]; omega) (by omega) hW6.below.size (by omega) wrow_zero (wcells_notZ [⟨cad, n + 1 + 1, cc, xs, z⟩]) ?_; intro v7 w8 hr8 hg8 ho8; obtain ⟨ad8, c8, rfl⟩ := hr8.shape; have hW7 := hW6.app (r := ⟨cad, n + 1 + 1, cc, xs, z⟩) hg8 hr8 hin HOW.out)
          go_roundw
          case rel => exact ⟨i + 1, _, _, _, by omega, by go_num, rfl, hW7, HDA⟩
          case measure => simp [intOf]; omega
      · have HE := Lib.hid (show i = na by omega)
        obtain ⟨wo, hwo⟩ : ∃ wo : World, wo = wr := ⟨_, rfl⟩
        subst hwo
        have HLO : Hid (os.length = rn + 2) := (by have := hW.row.own.1; rw [wcells_len] at this; have := HE.out; have := HNA.out; omega : os.length = rn + 2)
        obtain ⟨O, hO1, hO2⟩ := den_inv (p := (⟨(n : Int), ra, rn, rc, rows, obj⟩ : PD)) (n := n) HV.out rfl HRL.out HQT.out HQS.out HD.out HLO.out
        have HO1 := Lib.hid hO1
        have HO2 := Lib.hid hO2
        have hWs := hW.row.ws hW.all.out
        have HOW := hW.ok
        have hmk := Tryz.mkBools (n : Int) n rfl (by omega)
        have hQ := Pro1.mk' wo (madeCells #[.bool false] n) 4
        clear hO1 hO2 HD hW
        go_upto_region 15 with (fail)
        generalize wo.alloc (.cells (madeCells #[.bool false] n) 4) = Z at *
        have hD0 := hQ.b0
        rw [bcells_made] at hD0
        have hZb := hQ.below
        have hW0 := hWs.on hZb
        clear hQ hmk hWs
        go_wp2_with fail
        go_loopw [7, 12] (fun s7 s12 wx => ∃ k mad m mc rs ds E, 1 ≤ k ∧ k ≤ n + 1 ∧ s12 = .int .i64 (k : Nat) ∧ s7 = .slice mad m mc ∧ WsR wx mad m mc rs ∧ Hid (∀ (i : Nat) (r : WD), rs[i]? = some r → OkW (n + 2) r) ∧ m + 20000 ≤ 62 + 20000 * k ∧ Blk wx wo.heap.size 4 (bcells ds) ∧ Hid (DoneL n k ds E) ∧ Hid (Inv (rn + 2) (n + 2) O E (rs.map WD.k)) ∧ Below wo.heap.size wo wx) (fun _ k _ => n + 1 - (intOf k).toNat)
        case atStart => exact ⟨1, _, _, _, os, _, [], by omega, by omega, rfl, rfl, hW0, HOW, by have := HE.out; omega, hD0, DoneL.start n, HO1, hZb⟩
        case round =>
          clear hW0 hD0 HOW HO1 HLO hZb
          obtain ⟨k, mad, m, mc, rs, ds, E, hk1, hkn, rfl, rfl, hW, HOW, hmb, hDk, HDL, HIV, hbr⟩ := hrel
          obtain ⟨wq, hwq⟩ : ∃ wq : World, wq = wr := ⟨_, rfl⟩
          subst hwq
          have HML : Hid (rs.length = m) := hW.len
          have hwq2 := hwr.trans (hbr.mono hwr.size)
          have hRq := hRr.below hbr (by have := hRr.lt; omega)
          by_cases hle : k ≤ n
          · go_wp2_with fail
            go_loopw [13, 14] (fun s13 s14 wx => ∃ v bb, v ≤ n ∧ s14 = .int .i64 (v : Nat) ∧ s13 = .int .i64 bb ∧ Hid (BestI ds n v bb) ∧ Below wq.heap.size wq wx) (fun _ v _ => n - (intOf v).toNat)
            case atStart => exact ⟨0, -1, by omega, rfl, rfl, BestI.start ds n, Below.refl _ _⟩
            case round =>
              obtain ⟨v, bb, hvn, rfl, rfl, HB, hbv⟩ := hrel
              have hWv := hW.on hbv
              have hDv := hDk.on hbv
              by_cases hlt2 : v < n
              · obtain ⟨x, hx⟩ : ∃ x, ds[v]? = some x := ⟨ds[v]'(by have := HDL.out.len; omega), List.getElem?_eq_getElem _⟩
                have c0 := bb_cell hDv hx
                have cz := hDv.lt
                have lo : decide ((v : Int) < 0) = false := decide_eq_false (by omega)
                have hi' : decide ((n : Int) ≤ (v : Int)) = false := decide_eq_false (by omega)
                have HX := Lib.hid hx
                clear hx
                rcases x with _ | _
                · have HBV : Hid (BestI ds n (v + 1) (v : Int)) := BestI.stay hlt2 HX.out
                  rcases HB.out with ⟨rfl, _⟩ | ⟨b, rfl, hbn, hdb⟩
                  · clear HB
                    go_wp2_with fail
                    go_roundw
                    case rel => exact ⟨v + 1, (v : Int), by omega, by go_num, rfl, HBV, hbv⟩
                    case measure => simp [intOf]; omega
                  · clear HB
                    have HBB : Hid (BestI ds n (v + 1) (b : Int)) := BestI.stay hbn hdb
                    have d3 : decide ((b : Int) < 0) = false := decide_eq_false (by omega)
                    clear hdb
                    go_wp2_with fail
                    refine (pairs_c wr (K := n + 2) hWv HOW.out (by omega) (show v < n + 2 by omega) (by omega)).mono ?_
                    rintro e w5 ⟨rfl, hb5⟩
                    generalize nPos rs v * nNeg rs v = P1
                    go_wp2_with fail
                    refine (pairs_c w5 (K := n + 2) (hWv.on hb5) HOW.out (by omega) (show b < n + 2 by omega) (by omega)).mono ?_
                    rintro e w6 ⟨rfl, hb6⟩
                    have hb6v := hbv.trans ((hb5.trans (hb6.mono hb5.size)).mono hbv.size)
                    generalize nPos rs b * nNeg rs b = P2
                    clear c0 cz hb5 hb6 hDv hWv hbv
                    by_cases hpp : P1 < P2
                    · have d1 : decide (P1 < P2) = true := decide_eq_true hpp
                      have d2 : decide ((P1 : Int) < (P2 : Int)) = true := decide_eq_true (by omega)
                      go_wp2_with fail
                      go_roundw
                      case rel => exact ⟨v + 1, (v : Int), by omega, by go_num, rfl, HBV, hb6v⟩
                      case measure => simp [intOf]; omega
                    · have d1 : decide (P1 < P2) = false := decide_eq_false hpp
                      have d2 : decide ((P1 : Int) < (P2 : Int)) = false := decide_eq_false (by omega)
                      go_wp2_with fail
                      go_roundw
                      case rel => exact ⟨v + 1, (b : Int), by omega, by go_num, rfl, HBB, hb6v⟩
                      case measure => simp [intOf]; omega
                · have HBS := Lib.hid (HB.out.skip HX.out)
                  clear HB
                  go_wp2_with fail
                  go_roundw
                  case rel => exact ⟨v + 1, bb, by omega, by go_num, rfl, HBS, hbv⟩
                  case measure => simp [intOf]; omega
              · have HE2 := Lib.hid (show v = n by omega)
                have hB2 : BestI ds n n bb := by have := HB.out; rw [HE2.out] at this; exact this
                obtain ⟨b, rfl, hbn, hdb⟩ := hB2.fin HDL.out hle
                have HDB := Lib.hid hdb
                have hRv := hRq.on hbv
                have hwv := hwq2.trans (hbv.mono hwq2.size)
                have hbrv := hbr.trans (hbv.mono hbr.size)
                clear HB hdb hB2
                go_wp2_with fail
                refine (pairs_c wr (K := n + 2) hWv HOW.out (by omega) (show b < n + 2 by omega) (by omega)).mono ?_
                rintro e w5 ⟨rfl, hb5⟩
                have hW5 := hWv.on hb5
                have hD5 := hDv.on hb5
                have hR5 := hRv.on hb5
                have hw5 := hwv.trans (hb5.mono hwv.size)
                have hbr5 := hbrv.trans (hb5.mono hbrv.size)
                obtain ⟨P1, hP1⟩ : ∃ P1, P1 = nPos rs b * nNeg rs b := ⟨_, rfl⟩
                rw [← hP1]
                have HP1 := Lib.hid hP1
                clear hP1 hWv hDv hRv hwv hbrv hb5
                by_cases hpp : 20000 < P1
                · have d1 : decide (20000 < P1) = true := decide_eq_true hpp
                  have d2 : decide ((20000 : Int) < (P1 : Int)) = true := decide_eq_true (by omega)
                  have r0 := hR5.cell 0
                  have r1 := hR5.cell 1
                  have r2 := hR5.cell 2
                  simp at r0 r1 r2
                  have rz := hR5.lt
                  have rf0 := hR5.frozen 0
                  have rf1 := hR5.frozen 1
                  have rf2 := hR5.frozen 2
                  go_wp2_with fail
                  exact bodyPost_ret (v := .tuple #[.int .i64 0, .agg #[.bool false, .slice none 0 0, .slice none 0 0]]) (by simp [results, Tryz.results11, go_sem, *]) rfl
                    ⟨0, ⟨false, none, 0, 0, none, 0, 0, 0⟩, rfl, ratC_zero _, (by show H 0 ≤ 2; rw [H_zero]; omega), below_box27 hw5 (by omega) _ _ _, Or.inl rfl⟩
                · have d1 : decide (20000 < P1) = false := decide_eq_false hpp
                  have d2 : decide ((20000 : Int) < (P1 : Int)) = false := decide_eq_false (by omega)
                  go_wp2_with fail
                  refine (eliminate_c w5 (K := n + 2) (v := b) (k := k) hW5 HOW.out (by omega) (by omega) (by omega) (by omega) (by have := HP1.out; omega)).mono ?_
                  rintro e w6 ⟨ok, ad6, m6, mc6, os6, rfl, hb6, hre⟩
                  have HRE := Lib.hid hre
                  clear hre d1 d2
                  have hD6 := hD5.on hb6
                  have hR6 := hR5.on hb6
                  have hw6 := hw5.trans (hb6.mono hw5.size)
                  have hbr6 := hbr5.trans (hb6.mono hbr5.size)
                  rcases ok with _ | _
                  · have r0 := hR6.cell 0
                    have r1 := hR6.cell 1
                    have r2 := hR6.cell 2
                    simp at r0 r1 r2
                    have rz := hR6.lt
                    have rf0 := hR6.frozen 0
                    have rf1 := hR6.frozen 1
                    have rf2 := hR6.frozen 2
                    go_wp2_with fail
                    exact bodyPost_ret (v := .tuple #[.int .i64 0, .agg #[.bool false, .slice none 0 0, .slice none 0 0]]) (by simp [results, Tryz.results11, go_sem, *]) rfl
                      ⟨0, ⟨false, none, 0, 0, none, 0, 0, 0⟩, rfl, ratC_zero _, (by show H 0 ≤ 2; rw [H_zero]; omega), below_box27 hw6 (by omega) _ _ _, Or.inl rfl⟩
                  · obtain ⟨hW6, ho6, hl6, he6⟩ := HRE.out rfl
                    have HO6 : Hid (∀ (i : Nat) (r : WD), os6[i]? = some r → OkW (n + 2) r) := ho6
                    have HIV6 : Hid (Inv (rn + 2) (n + 2) O (b :: E) (os6.map WD.k)) := HIV.out.step (by have := HNA.out; omega) (by omega) HDL.out.el.symm he6
                    have HDS : Hid (DoneL n (k + 1) (ds.set b true) (b :: E)) := HDL.out.step HDB.out
                    have hm6 : m6 + 20000 ≤ 62 + 20000 * (k + 1) := by
                      have := hW6.len
                      have := HML.out
                      have := HP1.out
                      omega
                    have lo : decide ((b : Int) < 0) = false := decide_eq_false (by omega)
                    have hi' : decide ((n : Int) ≤ (b : Int)) = false := decide_eq_false (by omega)
                    have c0 := bb_cell hD6 HDB.out
                    have cf := hD6.frozen b
                    have cz := hD6.lt
                    have hW8 := hW6.setB (k := b) hD6 (.bool true)
                    have hD8 := bb_set hD6 b true
                    have hbr8 : Below wo.heap.size wo (w6.setCell ⟨wo.heap.size, b, none⟩ (.bool true)) := hbr6.setCell (p := ⟨wo.heap.size, _, none⟩) (Nat.le_refl _) _
                    clear ho6 hl6 he6 HRE
                    go_wp2_with fail
                    go_roundw
                    case rel => exact ⟨k + 1, _, _, _, _, _, _, by omega, by omega, by go_num, rfl, hW8, HO6, hm6, hD8, HDS, HIV6, hbr8⟩
                    case measure => simp [intOf]; omega
          · have HE2 := Lib.hid (show k = n + 1 by omega)
            go_wp2_with fail
            refine (ends_c wq (K := n + 2) (v := n) hW HOW.out (by omega) (by omega) (by omega)).mono ?_
            rintro e w6 ⟨st, x, rfl, gx, hHx, hb6, hre⟩
            have HL : Hid (LeastG (FeasA (⟨(n : Int), ra, rn, rc, rows, obj⟩ : PD).rn n (aP (⟨(n : Int), ra, rn, rc, rows, obj⟩ : PD)) (bP (⟨(n : Int), ra, rn, rc, rows, obj⟩ : PD))) (objA n (cP (⟨(n : Int), ra, rn, rc, rows, obj⟩ : PD)) (⟨(n : Int), ra, rn, rc, rows, obj⟩ : PD).obj.k.q) st x.q) := least_fin HIV.out (by have := HDL.out; rw [HE2.out] at this; exact this) HO2.out hre
            have hR6 := hRq.on hb6
            have hw6 := hwq2.trans (hb6.mono hwq2.size)
            have HHX := Lib.hid hHx
            clear hre hHx
            have r0 := hR6.cell 0
            have r1 := hR6.cell 1
            have r2 := hR6.cell 2
            simp at r0 r1 r2
            have rz := hR6.lt
            have rf0 := hR6.frozen 0
            have rf1 := hR6.frozen 1
            have rf2 := hR6.frozen 2
            go_wp2_with fail
            exact bodyPost_ret (v := .tuple #[.int .i64 st, .agg #[.bool x.s, .slice x.a x.n x.c, .slice x.a' x.n' x.c']]) (by simp [results, Tryz.results11, go_sem, *]) rfl
              ⟨st, x, rfl, RatC.inR gx hR6 _ _ _, HHX.out, below_box27 hw6 (by omega) _ _ _, Or.inr HL.out⟩
end Go.Proofs.YtledagemcknlcaaGreat
namespace Go.Proofs.YtledagemcknlcaaGreat
open Go.RowKit

theorem least_c (w : World) (p : PD) {n m : Nat} (hn : p.vars = (n : Int)) (h : p.In w) (hv : PV p) (ho : OkPD m p) (hm : m ≤ 64) (hno : p.obj.n ≤ 60000) (hnn : n ≤ 50) :
    Calls Tryz.prog 11 #[.agg #[.int .i64 p.vars, .slice p.ra p.rn p.rc, .slice p.obj.ad p.obj.n p.obj.c, .bool p.obj.k.neg, .slice p.obj.k.a1 p.obj.k.n1 p.obj.k.c1, .slice p.obj.k.a2 p.obj.k.n2 p.obj.k.c2]] w (RetLeast p n w) := by
  obtain ⟨v, ra, rn, rc, rows, obj⟩ := p
  have hn' : v = (n : Int) := hn
  subst hn'
  exact least_aux w h hv ho hm hno hnn
theorem SmPr.okp {p : PD} {w : World} (h : SmPr p) (hp : p.In w) : OkPD 3 p ∧ p.obj.n ≤ 60000 := ⟨h.ok hp, by have := h.obj.n; omega⟩
theorem dualB_len (p : PD) : ∀ k, (dualB p k).length = 2 * k := fun k => by
  induction k with
  | zero => rfl
  | succ k ih => rw [dualB, List.length_append, ih]; simp; omega
theorem dual_small {p d : PD} {w : World} {n : Nat} (hn : p.vars = (n : Int)) (hd : d.In w) (h : IsDual p d) (hrn : p.rn ≤ 8) (hn4 : n ≤ 4) (ho : OkFD 13 d.obj) (hr : ∀ (i : Nat) (f : FD), d.rows[i]? = some f → OkFD 13 f) : PV d ∧ OkPD 13 d ∧ d.obj.n ≤ 60000 := by
  have h1 := hd.rows.len
  have h2 := congrArg List.length h.rows
  rw [List.length_map, List.length_append, dualB_len] at h2
  have h3 : (dualA p.rn).length = p.rn := by simp [dualA]
  have hdn : d.rn ≤ 4096 := by omega
  refine ⟨dual_pv h (by omega) hdn ho hr, ⟨hr, ho, hdn⟩, ?_⟩
  have h4 : fm d.obj.ts = _ := congrArg Prod.fst h.obj
  have h5 := fm_n hd.obj
  rw [h4] at h5
  have h6 := colN_len (fun f : FD => f.k.q) p.rows p.rn
  have h7 : (dualO p).1.length = (colN (fun f : FD => f.k.q) p.rows p.rn).length := rfl
  omega
/-- what the two least values say of each other -/
theorem strong_pd {p d : PD} {w : World} {n : Nat} {st st' : Int} {v v' : Rat} (hn : p.vars = (n : Int)) (hd : d.In w) (h : IsDual p d) (dv : PV d)
    (hp : LeastG (FeasA p.rn n (aP p) (bP p)) (objA n (cP p) p.obj.k.q) st v) (hdl : LeastG (FeasA d.rn p.rn (aP d) (bP d)) (objA p.rn (cP d) d.obj.k.q) st' v') :
    (st = 1 ∧ st' = 1 ∧ v + v' = 0) ∨ (st = 3 ∧ st' = 2) ∨ (st = 2 ∧ st' ≠ 1) := by
  have h1 := strong_A hp (hdl.congr (fun x => (dual_numbers hd h dv hn x).1) (fun x => (dual_numbers hd h dv hn x).2))
  rcases hp with ⟨e, _⟩ | ⟨e, _⟩ | ⟨e, _⟩
  · exact Or.inl ⟨e, h1.1 e⟩
  · exact Or.inr (Or.inr ⟨e, h1.2.2 e⟩)
  · exact Or.inr (Or.inl ⟨e, h1.2.1 e⟩)
theorem bound_pd {p : PD} {w : World} {n : Nat} {st : Int} {v : Rat} {xs : List RD} (hn : p.vars = (n : Int)) (hp : p.In w) (hx : FeasS p xs) (h : LeastG (FeasA p.rn n (aP p) (bP p)) (objA n (cP p) p.obj.k.q) st v) : (st = 1 ∧ v ≤ valQ p xs) ∨ st = 3 := by
  have hF : FeasA p.rn n (aP p) (bP p) (xP xs) := fun i hi => prog_row hp hx hn i hi
  have hV : valQ p xs = objA n (cP p) p.obj.k.q (xP xs) := by
    unfold valQ
    rw [if_pos ⟨hx.pv, hx.len⟩, prog_val hp hx.pv hn]
    rfl
  rcases h with ⟨e, _, h3⟩ | ⟨e, h2⟩ | ⟨e, _⟩
  · exact Or.inl ⟨e, by rw [hV]; exact h3 _ hF⟩
  · exact absurd hF (h2 _)
  · exact Or.inr e
set_option maxRecDepth 100000 in
set_option maxHeartbeats 12800000 in
theorem strong_law (w : World) (p : PD) (hp : p.In w) (hf : FewP p) (hrn : p.rn ≤ 9223372036854775807) :
    Calls Tryz.prog 4 #[.agg #[.int .i64 p.vars, .slice p.ra p.rn p.rc, .slice p.obj.ad p.obj.n p.obj.c, .bool p.obj.k.neg, .slice p.obj.k.a1 p.obj.k.n1 p.obj.k.c1, .slice p.obj.k.a2 p.obj.k.n2 p.obj.k.c2]] w (RetB true w) := by
  have hP := Pro1.mk' w #[.int .i64 p.vars, .slice p.ra p.rn p.rc, .slice p.obj.ad p.obj.n p.obj.c, .bool p.obj.k.neg, .slice p.obj.k.a1 p.obj.k.n1 p.obj.k.c1, .slice p.obj.k.a2 p.obj.k.n2 p.obj.k.c2] 31
  go_enter Tryz.func4, Tryz.ntmps4
  go_upto_region 1 with (fail)
  generalize w.alloc (.cells #[.int .i64 p.vars, .slice p.ra p.rn p.rc, .slice p.obj.ad p.obj.n p.obj.c, .bool p.obj.k.neg, .slice p.obj.k.a1 p.obj.k.n1 p.obj.k.c1, .slice p.obj.k.a2 p.obj.k.n2 p.obj.k.c2] 31) = W at *
  have hB := hP.b0
  have hPb := hP.below
  have HPS := Lib.hid hP.size
  have pW := hp.on hPb
  have HF := Lib.hid hf
  clear hP hp hf
  go_wp2_with fail
  refine (awake_c W).mono ?_
  rintro e U ⟨rfl, hbU⟩
  have pU := pW.on hbU
  have hBU := hB.on hbU
  have hwU : Below w.heap.size w U := hPb.trans (hbU.mono (by have := HPS.out; omega))
  clear pW hB
  have k0 := hBU.cell 0
  have k1 := hBU.cell 1
  have k2 := hBU.cell 2
  have k3 := hBU.cell 3
  have k4 := hBU.cell 4
  have k5 := hBU.cell 5
  simp at k0 k1 k2 k3 k4 k5
  have kz := hBU.lt
  go_wp2_with fail
  refine (small_c U p pU HF.out hrn).mono ?_
  rintro e U1 ⟨rfl, hb1⟩
  have hw1 := hwU.trans (hb1.mono hwU.size)
  have hB1 := hBU.on hb1
  clear k0 k1 k2 k3 k4 k5 kz
  have k0 := hB1.cell 0
  have k1 := hB1.cell 1
  have k2 := hB1.cell 2
  have k3 := hB1.cell 3
  have k4 := hB1.cell 4
  have k5 := hB1.cell 5
  simp at k0 k1 k2 k3 k4 k5
  have kz := hB1.lt
  by_cases e1 : SmPr p
  rotate_left
  · rw [decide_eq_false e1]
    clear e1
    go_wp2_with fail
    go_ret
    exact ⟨rfl, hw1⟩
  rw [decide_eq_true e1]
  have HS := Lib.hid e1
  have hv0 := e1.pv.v0
  have hv4 := e1.vars
  have hr8 := e1.rows.1
  clear e1
  obtain ⟨n, hn⟩ : ∃ n : Nat, p.vars = (n : Int) := ⟨p.vars.toNat, by omega⟩
  have HN := Lib.hid hn
  by_cases ev : 2 < p.vars
  · have d1 : decide (2 < p.vars) = true := decide_eq_true ev
    clear hn
    go_wp2_with fail
    go_ret
    exact ⟨rfl, hw1⟩
  have d1 : decide (2 < p.vars) = false := decide_eq_false ev
  have hn4 : n ≤ 4 := by omega
  clear hn hv0 hv4
  by_cases er : 4 < p.rn
  · have d3 : decide (4 < p.rn) = true := decide_eq_true er
    have d4 : decide ((4 : Int) < (p.rn : Int)) = true := decide_eq_true (by omega)
    go_wp2_with fail
    go_ret
    exact ⟨rfl, hw1⟩
  have d3 : decide (4 < p.rn) = false := decide_eq_false er
  have d4 : decide ((4 : Int) < (p.rn : Int)) = false := decide_eq_false (by omega)
  have p1 := pU.on hb1
  have HOP := Lib.hid (HS.out.okp p1)
  go_wp2_with fail
  refine (dual_c U1 p (m := 3) p1 HF.out HS.out.pv HOP.out.1 (by omega) (by omega) (by omega) (by have := HN.out; omega)).mono ?_
  rintro e U4 ⟨d, rfl, d4', HD1, HD2, HD3, HD4, HD5, hb4⟩
  have HID : Hid (IsDual p d) := ⟨HD3, HD4, HD5⟩
  have HDS := Lib.hid (dual_small HN.out d4' HID.out (by omega) hn4 HD2 HD1)
  clear HD1 HD2 HD3 HD4 HD5 d1 d3 d4
  go_upto_region 6 with (fail)
  have hQ := Pro1.mk' U4 #[.int .i64 d.vars, .slice d.ra d.rn d.rc, .slice d.obj.ad d.obj.n d.obj.c, .bool d.obj.k.neg, .slice d.obj.k.a1 d.obj.k.n1 d.obj.k.c1, .slice d.obj.k.a2 d.obj.k.n2 d.obj.k.c2] 31
  generalize U4.alloc (.cells #[.int .i64 d.vars, .slice d.ra d.rn d.rc, .slice d.obj.ad d.obj.n d.obj.c, .bool d.obj.k.neg, .slice d.obj.k.a1 d.obj.k.n1 d.obj.k.c1, .slice d.obj.k.a2 d.obj.k.n2 d.obj.k.c2] 31) = V4 at *
  have hb14 := hb4.trans (hQ.below.mono hb4.size)
  have hB4 := hB1.on hb14
  have p4 := p1.on hb14
  have d4 := d4'.on hQ.below
  have hD4 := hQ.b0
  have hw4 : Below w.heap.size w V4 := hw1.trans (hb14.mono hw1.size)
  clear hB1 p1 hQ hb14 hb4 d4' k0 k1 k2 k3 k4 k5 kz
  have k0 := hB4.cell 0
  have k1 := hB4.cell 1
  have k2 := hB4.cell 2
  have k3 := hB4.cell 3
  have k4 := hB4.cell 4
  have k5 := hB4.cell 5
  simp at k0 k1 k2 k3 k4 k5
  have kz := hB4.lt
  have l0 := hD4.cell 0
  have l1 := hD4.cell 1
  have l2 := hD4.cell 2
  have l3 := hD4.cell 3
  have l4 := hD4.cell 4
  have l5 := hD4.cell 5
  simp at l0 l1 l2 l3 l4 l5
  have lz := hD4.lt
  go_wp2_with fail
  refine (least_c V4 p HN.out p4 HS.out.pv HOP.out.1 (by omega) HOP.out.2 (by omega)).mono ?_
  rintro e U5 ⟨st, x, rfl, gx, hHx, hb5, hlx⟩
  have HLX := Lib.hid hlx
  clear hlx
  go_upto_region 9 with (fail)
  have hQ := Pro1.mk' U5 #[.bool x.s, .slice x.a x.n x.c, .slice x.a' x.n' x.c'] 27
  generalize U5.alloc (.cells #[.bool x.s, .slice x.a x.n x.c, .slice x.a' x.n' x.c'] 27) = V5 at *
  have hb45 := hb5.trans (hQ.below.mono hb5.size)
  have hD5 := hD4.on hb45
  have d5 := d4.on hb45
  have gx5 : RatC V5 x.s x.a x.n x.c x.a' x.n' x.c' x.q := RatC.on gx hQ.below
  have hX5 := hQ.b0
  have hw5 : Below w.heap.size w V5 := hw4.trans (hb45.mono hw4.size)
  clear hD4 d4 p4 hB4 hQ hb45 hb5 gx k0 k1 k2 k3 k4 k5 kz l0 l1 l2 l3 l4 l5 lz
  have l0 := hD5.cell 0
  have l1 := hD5.cell 1
  have l2 := hD5.cell 2
  have l3 := hD5.cell 3
  have l4 := hD5.cell 4
  have l5 := hD5.cell 5
  simp at l0 l1 l2 l3 l4 l5
  have lz := hD5.lt
  go_wp2_with fail
  refine (least_c V5 d HID.out.vars d5 HDS.out.1 HDS.out.2.1 (by omega) HDS.out.2.2 (by omega)).mono ?_
  rintro e U6 ⟨st', y, rfl, gy, hHy, hb6, hly⟩
  have HLY := Lib.hid hly
  clear hly
  go_upto_region 10 with (fail)
  have hQ := Pro1.mk' U6 #[.bool y.s, .slice y.a y.n y.c, .slice y.a' y.n' y.c'] 27
  generalize U6.alloc (.cells #[.bool y.s, .slice y.a y.n y.c, .slice y.a' y.n' y.c'] 27) = V6 at *
  have hb56 := hb6.trans (hQ.below.mono hb6.size)
  have gx6 := gx5.on hb56
  have gy6 : RatC V6 y.s y.a y.n y.c y.a' y.n' y.c' y.q := RatC.on gy hQ.below
  have hX6 := hX5.on hb56
  have hY6 := hQ.b0
  have hw6 : Below w.heap.size w V6 := hw5.trans (hb56.mono hw5.size)
  have HDI := Lib.hid d5
  clear hD5 hX5 gx5 gy hQ hb56 hb6 l0 l1 l2 l3 l4 l5 lz
  have k0 := hX6.cell 0
  have k1 := hX6.cell 1
  have k2 := hX6.cell 2
  simp at k0 k1 k2
  have kz := hX6.lt
  have l0 := hY6.cell 0
  have l1 := hY6.cell 1
  have l2 := hY6.cell 2
  simp at l0 l1 l2
  have lz := hY6.lt
  by_cases z1 : st = 0
  · subst z1
    go_wp2_with fail
    go_ret
    exact ⟨rfl, hw6⟩
  have d1 : decide (st = 0) = false := decide_eq_false z1
  by_cases z2 : st' = 0
  · subst z2
    go_wp2_with fail
    go_ret
    exact ⟨rfl, hw6⟩
  have d2 : decide (st' = 0) = false := decide_eq_false z2
  rcases strong_pd HN.out HDI.out HID.out HDS.out.1 (HLX.out.resolve_left z1) (HLY.out.resolve_left z2) with ⟨rfl, rfl, hxy⟩ | ⟨rfl, rfl⟩ | ⟨rfl, h1⟩
  · have HXY := Lib.hid hxy
    clear hxy z1 z2
    go_wp2_with fail
    refine (fradd_c V6 gx6 gy6 (by omega) (by omega)).mono ?_
    rintro e U9 ⟨s3, a3, n3, c3, b3, m3, d3, rfl, q9, hb9⟩
    rw [HXY.out] at q9
    go_wp2_with fail
    refine (fsign_c U9 q9 (by rw [H_zero]; omega)).mono ?_
    rintro e U10 ⟨rfl, hb10⟩
    have hg : sgR (0 : Rat) = 0 := rfl
    rw [hg]
    have hw10 := hw6.trans ((hb9.trans (hb10.mono hb9.size)).mono hw6.size)
    go_wp2_with fail
    go_ret
    exact ⟨rfl, hw10⟩
  · clear z1 z2
    go_wp2_with fail
    go_ret
    exact ⟨rfl, hw6⟩
  · have d3 : (st' != 1) = true := bne_iff_ne.2 h1
    have d4 : (st' == 0) = false := beq_eq_false_iff_ne.2 z2
    clear z1 z2
    go_wp2_with fail
    go_ret
    exact ⟨rfl, hw6⟩

set_option maxRecDepth 100000 in
set_option maxHeartbeats 12800000 in
theorem bounded_law (w : World) (p : PD) {ad : Option Addr} {nx c : Nat} {xs : List RD} (hp : p.In w) (hf : FewP p) (hrn : p.rn ≤ 9223372036854775807) (hx : PtR w ad nx c xs) (hnx : nx ≤ 9223372036854775807) (hl : LenP xs) :
    Calls Tryz.prog 5 #[.agg #[.int .i64 p.vars, .slice p.ra p.rn p.rc, .slice p.obj.ad p.obj.n p.obj.c, .bool p.obj.k.neg, .slice p.obj.k.a1 p.obj.k.n1 p.obj.k.c1, .slice p.obj.k.a2 p.obj.k.n2 p.obj.k.c2], .slice ad nx c] w (RetB true w) := by
  have hP := Pro1.mk' w #[.int .i64 p.vars, .slice p.ra p.rn p.rc, .slice p.obj.ad p.obj.n p.obj.c, .bool p.obj.k.neg, .slice p.obj.k.a1 p.obj.k.n1 p.obj.k.c1, .slice p.obj.k.a2 p.obj.k.n2 p.obj.k.c2] 31
  go_enter Tryz.func5, Tryz.ntmps5
  go_upto_region 1 with (fail)
  generalize w.alloc (.cells #[.int .i64 p.vars, .slice p.ra p.rn p.rc, .slice p.obj.ad p.obj.n p.obj.c, .bool p.obj.k.neg, .slice p.obj.k.a1 p.obj.k.n1 p.obj.k.c1, .slice p.obj.k.a2 p.obj.k.n2 p.obj.k.c2] 31) = W at *
  have hB := hP.b0
  have hPb := hP.below
  have HPS := Lib.hid hP.size
  have pW := hp.on hPb
  have xW := hx.on hPb
  have HL := Lib.hid hl
  clear hx hl
  have HF := Lib.hid hf
  clear hP hp hf
  go_wp2_with fail
  refine (awake_c W).mono ?_
  rintro e U ⟨rfl, hbU⟩
  have pU := pW.on hbU
  have xU := xW.on hbU
  clear xW
  have hBU := hB.on hbU
  have hwU : Below w.heap.size w U := hPb.trans (hbU.mono (by have := HPS.out; omega))
  clear pW hB
  have k0 := hBU.cell 0
  have k1 := hBU.cell 1
  have k2 := hBU.cell 2
  have k3 := hBU.cell 3
  have k4 := hBU.cell 4
  have k5 := hBU.cell 5
  simp at k0 k1 k2 k3 k4 k5
  have kz := hBU.lt
  go_wp2_with fail
  refine (small_c U p pU HF.out hrn).mono ?_
  rintro e U1 ⟨rfl, hb1⟩
  have hw1 := hwU.trans (hb1.mono hwU.size)
  have hB1 := hBU.on hb1
  clear k0 k1 k2 k3 k4 k5 kz
  have k0 := hB1.cell 0
  have k1 := hB1.cell 1
  have k2 := hB1.cell 2
  have k3 := hB1.cell 3
  have k4 := hB1.cell 4
  have k5 := hB1.cell 5
  simp at k0 k1 k2 k3 k4 k5
  have kz := hB1.lt
  by_cases e1 : SmPr p
  rotate_left
  · rw [decide_eq_false e1]
    clear e1
    go_wp2_with fail
    go_ret
    exact ⟨rfl, hw1⟩
  rw [decide_eq_true e1]
  have HS := Lib.hid e1
  have hv0 := e1.pv.v0
  have hv4 := e1.vars
  have hr8 := e1.rows.1
  clear e1
  obtain ⟨n, hn⟩ : ∃ n : Nat, p.vars = (n : Int) := ⟨p.vars.toNat, by omega⟩
  have HN := Lib.hid hn
  by_cases ev : 2 < p.vars
  · have d1 : decide (2 < p.vars) = true := decide_eq_true ev
    clear hn
    go_wp2_with fail
    go_ret
    exact ⟨rfl, hw1⟩
  have d1 : decide (2 < p.vars) = false := decide_eq_false ev
  have hn4 : n ≤ 4 := by omega
  clear hn hv0 hv4
  go_wp2_with fail
  refine (smallpoint_c U1 (xU.on hb1) hnx HL.out).mono ?_
  rintro e U2 ⟨rfl, hb2⟩
  have hb12 := hb1.trans (hb2.mono hb1.size)
  have hw2 := hw1.trans (hb2.mono hw1.size)
  by_cases e2 : SmP nx xs
  rotate_left
  · rw [decide_eq_false e2]
    clear e2
    go_wp2_with fail
    go_ret
    exact ⟨rfl, hw2⟩
  rw [decide_eq_true e2]
  have HX := Lib.hid (smp_ok xU e2)
  have hn8 : nx ≤ 8 := e2.1
  clear e2
  have hB2 := hBU.on hb12
  have p2 := pU.on hb12
  have x2 := xU.on hb12
  have HOP := Lib.hid (HS.out.okp p2)
  have HLP := Lib.hid HS.out.lim
  have HL4 : Hid (LimP 4 p) := (⟨⟨HLP.out.obj.n, fun i t ht => (HLP.out.obj.ts i t ht).mono (by omega), HLP.out.obj.k.mono (by omega)⟩, fun i f hf => ⟨(HLP.out.rows i f hf).n, fun j t ht => ((HLP.out.rows i f hf).ts j t ht).mono (by omega), (HLP.out.rows i f hf).k.mono (by omega)⟩⟩ : LimP 4 p)
  clear d1 k0 k1 k2 k3 k4 k5 kz hBU pU xU hB1 hb12
  have k0 := hB2.cell 0
  have k1 := hB2.cell 1
  have k2 := hB2.cell 2
  have k3 := hB2.cell 3
  have k4 := hB2.cell 4
  have k5 := hB2.cell 5
  simp at k0 k1 k2 k3 k4 k5
  have kz := hB2.lt
  go_wp2_with fail
  refine (pfeas_c U2 p (m := 4) p2 HL4.out (by omega) x2 HX.out (by omega)).mono ?_
  rintro e U3 ⟨rfl, hb3⟩
  have hw3 := hw2.trans (hb3.mono hw2.size)
  by_cases e5 : FeasS p xs
  rotate_left
  · rw [decide_eq_false e5]
    clear e5
    go_wp2_with fail
    go_ret
    exact ⟨rfl, hw3⟩
  rw [decide_eq_true e5]
  have HFX := Lib.hid e5
  clear e5
  have hB3 := hB2.on hb3
  have p3 := p2.on hb3
  have x3 := x2.on hb3
  clear k0 k1 k2 k3 k4 k5 kz hB2 p2 x2 hb3
  have k0 := hB3.cell 0
  have k1 := hB3.cell 1
  have k2 := hB3.cell 2
  have k3 := hB3.cell 3
  have k4 := hB3.cell 4
  have k5 := hB3.cell 5
  simp at k0 k1 k2 k3 k4 k5
  have kz := hB3.lt
  go_wp2_with fail
  refine (least_c U3 p HN.out p3 HS.out.pv HOP.out.1 (by omega) HOP.out.2 (by omega)).mono ?_
  rintro e U5 ⟨st, x, rfl, gx, hHx, hb5, hlx⟩
  have HLX := Lib.hid hlx
  clear hlx
  go_upto_region 6 with (fail)
  have hQ := Pro1.mk' U5 #[.bool x.s, .slice x.a x.n x.c, .slice x.a' x.n' x.c'] 27
  generalize U5.alloc (.cells #[.bool x.s, .slice x.a x.n x.c, .slice x.a' x.n' x.c'] 27) = V5 at *
  have hb35 := hb5.trans (hQ.below.mono hb5.size)
  have hB5 := hB3.on hb35
  have p5 := p3.on hb35
  have x5 := x3.on hb35
  have gx5 : RatC V5 x.s x.a x.n x.c x.a' x.n' x.c' x.q := RatC.on gx hQ.below
  have hX5 := hQ.b0
  have hw5 : Below w.heap.size w V5 := hw3.trans (hb35.mono hw3.size)
  clear hB3 p3 x3 hQ hb35 hb5 gx k0 k1 k2 k3 k4 k5 kz
  have k0 := hB5.cell 0
  have k1 := hB5.cell 1
  have k2 := hB5.cell 2
  have k3 := hB5.cell 3
  have k4 := hB5.cell 4
  have k5 := hB5.cell 5
  simp at k0 k1 k2 k3 k4 k5
  have kz := hB5.lt
  have HV : Hid (H (valQ p xs) ≤ 8600000000) := valQ_H (m := 4) p5 HL4.out (by omega) HX.out
  have HE1 : Hid (valE p xs = 0) := HFX.out.valE
  go_wp2_with fail
  refine (pvalue_c V5 p (m := 4) p5 HL4.out (by omega) x5 HX.out (by omega)).mono ?_
  rintro e U7 ⟨s1, a1, n1, c1, b1, m1, e1, rfl, q7, hb7⟩
  rw [HE1.out]
  go_upto_region 7 with (fail)
  have hQ := Pro1.mk' U7 #[.bool s1, .slice a1 n1 c1, .slice b1 m1 e1] 27
  generalize U7.alloc (.cells #[.bool s1, .slice a1 n1 c1, .slice b1 m1 e1] 27) = V7 at *
  have hb57 := hb7.trans (hQ.below.mono hb7.size)
  have hX7 := hX5.on hb57
  have gx7 := gx5.on hb57
  have q7 := q7.on hQ.below
  have hV7 := hQ.b0
  have hw7 : Below w.heap.size w V7 := hw5.trans (hb57.mono hw5.size)
  have HPI := Lib.hid p5
  clear hB5 x5 hQ hb57 hb7 hX5 gx5 k0 k1 k2 k3 k4 k5 kz
  have k0 := hX7.cell 0
  have k1 := hX7.cell 1
  have k2 := hX7.cell 2
  simp at k0 k1 k2
  have kz := hX7.lt
  have l0 := hV7.cell 0
  have l1 := hV7.cell 1
  have l2 := hV7.cell 2
  simp at l0 l1 l2
  have lz := hV7.lt
  by_cases z1 : st = 0
  · subst z1
    go_wp2_with fail
    go_ret
    exact ⟨rfl, hw7⟩
  have d1 : decide (st = 0) = false := decide_eq_false z1
  rcases bound_pd HN.out HPI.out HFX.out (HLX.out.resolve_left z1) with ⟨rfl, hle⟩ | rfl
  · have HLE := Lib.hid hle
    clear hle z1
    go_wp2_with fail
    refine (frcmp_c V7 gx7 q7 (by omega) (by have := HV.out; omega)).mono ?_
    rintro e U8 ⟨rfl, hb8⟩
    have hsg : sgR (x.q - valQ p xs) ≤ 0 := sgR_le (by have := HLE.out; grind)
    generalize sgR (x.q - valQ p xs) = sg at *
    have d2 : decide (sg ≤ 0) = true := decide_eq_true hsg
    have hw8 := hw7.trans (hb8.mono hw7.size)
    go_wp2_with fail
    go_ret
    exact ⟨rfl, hw8⟩
  · clear z1
    go_wp2_with fail
    go_ret
    exact ⟨rfl, hw7⟩
end Go.Proofs.YtledagemcknlcaaGreat
