/- Farkas' lemma over the rational numbers, in plain words. Elimination with Kohler's rule: vectors of least support, in plain words. Least values of linear programs, and strong duality, in plain words. -/
import Derived.Test.YtledagemcknlcaaGreatK0
set_option linter.all false
namespace Go.Proofs.YtledagemcknlcaaGreat

/-- sums of non-negative multiples -/
inductive Cone (R : (Nat → Rat) × Rat → Prop) : (Nat → Rat) × Rat → Prop
  | base (r : (Nat → Rat) × Rat) (h : R r) : Cone R r
  | zero : Cone R (fun _ => 0, 0)
  | add (r s : (Nat → Rat) × Rat) (h : Cone R r) (k : Cone R s) : Cone R (fun j => r.1 j + s.1 j, r.2 + s.2)
  | mul (c : Rat) (r : (Nat → Rat) × Rat) (hc : 0 ≤ c) (h : Cone R r) : Cone R (fun j => c * r.1 j, c * r.2)
theorem Cone.sub {R R' : (Nat → Rat) × Rat → Prop} (h : ∀ r, R r → Cone R' r) {r : (Nat → Rat) × Rat} (hr : Cone R r) : Cone R' r := by
  induction hr with
  | base r hr => exact h r hr
  | zero => exact .zero
  | add r s _ _ h1 h2 => exact .add _ _ h1 h2
  | mul c r hc _ h1 => exact .mul _ _ hc h1
theorem Cone.coef {R : (Nat → Rat) × Rat → Prop} {n : Nat} (h : ∀ r, R r → r.1 n = 0) {r : (Nat → Rat) × Rat} (hr : Cone R r) : r.1 n = 0 := by
  induction hr with
  | base r hr => exact h r hr
  | zero => rfl
  | add r s _ _ h1 h2 => show r.1 n + s.1 n = 0; rw [h1, h2]; grind
  | mul c r hc _ h1 => show c * r.1 n = 0; rw [h1]; grind
theorem between {L U : List Rat} (h : ∀ l ∈ L, ∀ u ∈ U, l ≤ u) : ∃ y, (∀ l ∈ L, l ≤ y) ∧ ∀ u ∈ U, y ≤ u := by
  have top : ∀ L : List Rat, L ≠ [] → ∃ m ∈ L, ∀ l ∈ L, l ≤ m := by
    intro L
    induction L with
    | nil => intro h; exact absurd rfl h
    | cons a L ih =>
      intro _
      rcases L with _ | ⟨b, L⟩
      · exact ⟨a, by simp, fun l hl => by simp at hl; subst hl; exact Rat.le_refl⟩
      · obtain ⟨m, hm, hall⟩ := ih (by simp)
        by_cases hc : a ≤ m
        · exact ⟨m, by simp [hm], fun l hl => by
            rcases List.mem_cons.1 hl with rfl | hl
            · exact hc
            · exact hall l hl⟩
        · exact ⟨a, by simp, fun l hl => by
            rcases List.mem_cons.1 hl with rfl | hl
            · exact Rat.le_refl
            · have := hall l hl; grind⟩
  have bot : ∀ L : List Rat, L ≠ [] → ∃ m ∈ L, ∀ l ∈ L, m ≤ l := by
    intro L hL
    obtain ⟨m, hm, hall⟩ := top (L.map fun x => -x) (by simpa using hL)
    obtain ⟨x, hx, rfl⟩ := List.mem_map.1 hm
    exact ⟨x, hx, fun l hl => by have := hall (-l) (List.mem_map.2 ⟨l, hl, rfl⟩); grind⟩
  by_cases hL : L = []
  · by_cases hU : U = []
    · exact ⟨0, by simp [hL], by simp [hU]⟩
    · obtain ⟨m, hm, hall⟩ := bot U hU
      exact ⟨m, by simp [hL], hall⟩
  · obtain ⟨m, hm, hall⟩ := top L hL
    exact ⟨m, hall, fun u hu => h m hm u hu⟩
/-- the value of a row at a point of n numbers -/
def rowv (n : Nat) (r : (Nat → Rat) × Rat) (x : Nat → Rat) : Rat := r.2 + sumN (fun j => r.1 j * x j) n
theorem rowv_succ (n : Nat) (r : (Nat → Rat) × Rat) (x : Nat → Rat) : rowv (n + 1) r x = rowv n r x + r.1 n * x n := by
  unfold rowv
  simp only [sumN]
  grind
theorem rowv_congr {n : Nat} {r : (Nat → Rat) × Rat} {x y : Nat → Rat} (h : ∀ j, j < n → x j = y j) : rowv n r x = rowv n r y := by
  unfold rowv
  rw [sumN_congr (fun j hj => by rw [h j hj])]
theorem rowv_add (n : Nat) (r s : (Nat → Rat) × Rat) (x : Nat → Rat) : rowv n (fun j => r.1 j + s.1 j, r.2 + s.2) x = rowv n r x + rowv n s x := by
  unfold rowv
  have : sumN (fun j => (r.1 j + s.1 j) * x j) n = sumN (fun j => r.1 j * x j) n + sumN (fun j => s.1 j * x j) n := by
    rw [← sumN_add]; exact sumN_congr (fun j _ => by grind)
  rw [this]; grind
theorem rowv_mul (n : Nat) (c : Rat) (r : (Nat → Rat) × Rat) (x : Nat → Rat) : rowv n (fun j => c * r.1 j, c * r.2) x = c * rowv n r x := by
  unfold rowv
  have : sumN (fun j => c * r.1 j * x j) n = c * sumN (fun j => r.1 j * x j) n := by
    rw [← sumN_mul]; exact sumN_congr (fun j _ => by grind)
  rw [this]; grind
/-- two rows without variable n -/
def pairUp (n : Nat) (p q : (Nat → Rat) × Rat) : (Nat → Rat) × Rat := (fun j => -(q.1 n) * p.1 j + p.1 n * q.1 j, -(q.1 n) * p.2 + p.1 n * q.2)
theorem rowv_pair (m n : Nat) (p q : (Nat → Rat) × Rat) (x : Nat → Rat) : rowv m (pairUp n p q) x = -(q.1 n) * rowv m p x + p.1 n * rowv m q x := by
  have h := rowv_add m (fun j => -(q.1 n) * p.1 j, -(q.1 n) * p.2) (fun j => p.1 n * q.1 j, p.1 n * q.2) x
  rw [rowv_mul, rowv_mul] at h
  exact h
theorem farkas : ∀ (n : Nat) (rows : List ((Nat → Rat) × Rat)), (∃ x : Nat → Rat, ∀ r ∈ rows, 0 ≤ rowv n r x) ∨ ∃ r, Cone (fun r => r ∈ rows) r ∧ (∀ j, j < n → r.1 j = 0) ∧ r.2 < 0
  | 0, rows => by
    by_cases h : ∃ r ∈ rows, r.2 < 0
    · obtain ⟨r, hr, h0⟩ := h
      exact .inr ⟨r, .base r hr, fun j hj => by omega, h0⟩
    · refine .inl ⟨fun _ => 0, fun r hr => ?_⟩
      have : ¬ r.2 < 0 := fun h0 => h ⟨r, hr, h0⟩
      unfold rowv
      simp only [sumN]
      grind
  | n + 1, rows => by
    have key := farkas n (rows.filter (fun r => decide (r.1 n = 0)) ++ (rows.filter (fun r => decide (0 < r.1 n))).flatMap fun p => (rows.filter (fun r => decide (r.1 n < 0))).map fun q => pairUp n p q)
    rcases key with ⟨x, hx⟩ | ⟨r, hr, hz, hneg⟩
    · left
      have hp : ∀ p ∈ rows, 0 < p.1 n → ∀ q ∈ rows, q.1 n < 0 → 0 ≤ -(q.1 n) * rowv n p x + p.1 n * rowv n q x := fun p hp h1 q hq h2 => by
        rw [← rowv_pair]
        refine hx _ (List.mem_append.2 (.inr (List.mem_flatMap.2 ⟨p, ?_, List.mem_map.2 ⟨q, ?_, rfl⟩⟩)))
        · exact List.mem_filter.2 ⟨hp, by simpa using h1⟩
        · exact List.mem_filter.2 ⟨hq, by simpa using h2⟩
      obtain ⟨y, hl, hu⟩ := between (L := (rows.filter (fun r => decide (0 < r.1 n))).map fun p => -(rowv n p x) / p.1 n) (U := (rows.filter (fun r => decide (r.1 n < 0))).map fun q => -(rowv n q x) / q.1 n) (by
        intro l hl u hu
        obtain ⟨p, hp', rfl⟩ := List.mem_map.1 hl
        obtain ⟨q, hq', rfl⟩ := List.mem_map.1 hu
        obtain ⟨hp1, hp2⟩ := List.mem_filter.1 hp'
        obtain ⟨hq1, hq2⟩ := List.mem_filter.1 hq'
        have hp2 : 0 < p.1 n := by simpa using hp2
        have hq2 : q.1 n < 0 := by simpa using hq2
        have h := hp p hp1 hp2 q hq1 hq2
        generalize rowv n p x = a at *
        generalize rowv n q x = b at *
        generalize p.1 n = s at *
        generalize q.1 n = t at *
        have h1 : s ≠ 0 := by grind
        have h2 : t ≠ 0 := by grind
        have e1 : -a / s = (-(a * t)) / (s * t) := by grind
        have e2 : -b / t = (-(b * s)) / (s * t) := by grind
        have hst : 0 < s * (-t) := Rat.mul_pos hp2 (by grind)
        have e3 : (-b / t - -a / s) * (s * (-t)) = -t * a + s * b := by grind
        rcases @Rat.le_total (-a / s) (-b / t) with h9 | h9
        · exact h9
        · have h8 : 0 ≤ -a / s - -b / t := by grind
          have h7 : 0 ≤ (-a / s - -b / t) * (s * (-t)) := Rat.mul_nonneg h8 (by grind)
          have h6 : (-a / s - -b / t) * (s * (-t)) = -(-t * a + s * b) := by grind
          have h5 : -t * a + s * b = 0 := by grind
          have h4 : (-b / t - -a / s) * (s * (-t)) = 0 := by rw [e3, h5]
          have h3 : -b / t - -a / s = 0 := by
            rcases Rat.mul_eq_zero.1 h4 with h | h
            · exact h
            · grind
          grind)
      refine ⟨fun j => if j = n then y else x j, fun r hr => ?_⟩
      rw [rowv_succ, rowv_congr (y := x) (fun j hj => by rw [if_neg (by omega)]), if_pos rfl]
      by_cases h0 : r.1 n = 0
      · have := hx r (List.mem_append.2 (.inl (List.mem_filter.2 ⟨hr, by simpa using h0⟩)))
        rw [h0]; grind
      · by_cases h1 : 0 < r.1 n
        · have h2 := hl (-(rowv n r x) / r.1 n) (List.mem_map.2 ⟨r, List.mem_filter.2 ⟨hr, by simpa using h1⟩, rfl⟩)
          have h3 : 0 ≤ (y - -(rowv n r x) / r.1 n) * r.1 n := Rat.mul_nonneg (by grind) (by grind)
          have h4 : (y - -(rowv n r x) / r.1 n) * r.1 n = rowv n r x + r.1 n * y := by grind
          grind
        · have h1' : r.1 n < 0 := by grind
          have h2 := hu (-(rowv n r x) / r.1 n) (List.mem_map.2 ⟨r, List.mem_filter.2 ⟨hr, by simpa using h1'⟩, rfl⟩)
          have h3 : 0 ≤ (-(rowv n r x) / r.1 n - y) * (-(r.1 n)) := Rat.mul_nonneg (by grind) (by grind)
          have h4 : (-(rowv n r x) / r.1 n - y) * (-(r.1 n)) = rowv n r x + r.1 n * y := by grind
          grind
    · right
      refine ⟨r, hr.sub (fun s hs => ?_), fun j hj => ?_, hneg⟩
      · rcases List.mem_append.1 hs with h | h
        · exact .base s (List.mem_filter.1 h).1
        · obtain ⟨p, hp, h2⟩ := List.mem_flatMap.1 h
          obtain ⟨q, hq, rfl⟩ := List.mem_map.1 h2
          obtain ⟨hp1, hp2⟩ := List.mem_filter.1 hp
          obtain ⟨hq1, hq2⟩ := List.mem_filter.1 hq
          have hp2 : 0 < p.1 n := by simpa using hp2
          have hq2 : q.1 n < 0 := by simpa using hq2
          exact .add _ _ (.mul (-(q.1 n)) p (by grind) (.base p hp1)) (.mul (p.1 n) q (by grind) (.base q hq1))
      · rcases Nat.lt_or_ge j n with h | h
        · exact hz j h
        · have e : j = n := by omega
          subst e
          refine Cone.coef (fun s hs => ?_) hr
          rcases List.mem_append.1 hs with h | h
          · have := (List.mem_filter.1 h).2; simpa using this
          · obtain ⟨p, hp, h2⟩ := List.mem_flatMap.1 h
            obtain ⟨q, hq, rfl⟩ := List.mem_map.1 h2
            show -(q.1 j) * p.1 j + p.1 j * q.1 j = 0
            grind
/-- a cone over a family of m rows -/
theorem Cone.fam {m : Nat} {a : Nat → Nat → Rat} {b : Nat → Rat} {r : (Nat → Rat) × Rat} (h : Cone (fun r => ∃ i, i < m ∧ r = (a i, b i)) r) :
    ∃ l : Nat → Rat, (∀ i, 0 ≤ l i) ∧ (∀ j, r.1 j = sumN (fun i => l i * a i j) m) ∧ r.2 = sumN (fun i => l i * b i) m := by
  induction h with
  | base r hr =>
    obtain ⟨k, hk, rfl⟩ := hr
    refine ⟨fun i => if i = k then 1 else 0, fun i => by dsimp only; split <;> grind, fun j => ?_, ?_⟩
    · rw [sumN_single hk (fun i _ hi => by dsimp only; rw [if_neg hi]; grind)]; dsimp only; rw [if_pos rfl]; grind
    · rw [sumN_single hk (fun i _ hi => by dsimp only; rw [if_neg hi]; grind)]; dsimp only; rw [if_pos rfl]; grind
  | zero => exact ⟨fun _ => 0, fun _ => Rat.le_refl, fun j => by rw [sumN_congr (g := fun _ => 0) (fun i _ => by grind), sumN_zero], by rw [sumN_congr (g := fun _ => 0) (fun i _ => by grind), sumN_zero]⟩
  | add r s _ _ h1 h2 =>
    obtain ⟨l1, p1, q1, s1⟩ := h1
    obtain ⟨l2, p2, q2, s2⟩ := h2
    refine ⟨fun i => l1 i + l2 i, fun i => by have := p1 i; have := p2 i; grind, fun j => ?_, ?_⟩
    · show r.1 j + s.1 j = _
      rw [q1 j, q2 j, ← sumN_add]; exact sumN_congr (fun i _ => by grind)
    · show r.2 + s.2 = _
      rw [s1, s2, ← sumN_add]; exact sumN_congr (fun i _ => by grind)
  | mul c r hc _ h1 =>
    obtain ⟨l1, p1, q1, s1⟩ := h1
    refine ⟨fun i => c * l1 i, fun i => Rat.mul_nonneg hc (p1 i), fun j => ?_, ?_⟩
    · show c * r.1 j = _
      rw [q1 j, ← sumN_mul]; exact sumN_congr (fun i _ => by grind)
    · show c * r.2 = _
      rw [s1, ← sumN_mul]; exact sumN_congr (fun i _ => by grind)
/-- a family of m rows over n variables: a point, or non-negative numbers that refute them -/
theorem farkas_fam (m n : Nat) (a : Nat → Nat → Rat) (b : Nat → Rat) : (∃ x : Nat → Rat, ∀ i, i < m → 0 ≤ b i + sumN (fun j => a i j * x j) n) ∨ ∃ l : Nat → Rat, (∀ i, 0 ≤ l i) ∧ (∀ j, j < n → sumN (fun i => l i * a i j) m = 0) ∧ sumN (fun i => l i * b i) m < 0 := by
  rcases farkas n ((List.range m).map fun i => (a i, b i)) with ⟨x, hx⟩ | ⟨r, hr, hz, hn⟩
  · exact .inl ⟨x, fun i hi => hx _ (List.mem_map.2 ⟨i, by simpa using hi, rfl⟩)⟩
  · right
    obtain ⟨l, h1, h2, h3⟩ := Cone.fam (m := m) (a := a) (b := b) (hr.sub (fun s hs => by
      obtain ⟨i, hi, rfl⟩ := List.mem_map.1 hs
      exact .base _ ⟨i, by simpa using hi, rfl⟩))
    exact ⟨l, h1, fun j hj => by rw [← h2 j]; exact hz j hj, by rw [← h3]; exact hn⟩
end Go.Proofs.YtledagemcknlcaaGreat
namespace Go.Proofs.YtledagemcknlcaaGreat

theorem ratdiv_pos {a b : Rat} (ha : 0 < a) (hb : 0 < b) : 0 < a / b := by
  by_cases h : 0 < a / b
  · exact h
  · have h1 : 0 ≤ -(a / b) * b := Rat.mul_nonneg (by grind) (by grind)
    have h2 : -(a / b) * b = -a := by grind
    grind
/-- a combination of m rows -/
def cmb (M : Nat) (o : Nat → Nat → Rat) (l : Nat → Rat) (v : Nat) : Rat := sumN (fun i => l i * o i v) M
theorem cmb_add (M : Nat) (o : Nat → Nat → Rat) (l m : Nat → Rat) (v : Nat) : cmb M o (fun i => l i + m i) v = cmb M o l v + cmb M o m v := by
  unfold cmb; rw [← sumN_add]; exact sumN_congr (fun i _ => by grind)
theorem cmb_mul (M : Nat) (o : Nat → Nat → Rat) (c : Rat) (m : Nat → Rat) (v : Nat) : cmb M o (fun i => c * m i) v = c * cmb M o m v := by
  unfold cmb; rw [← sumN_mul]; exact sumN_congr (fun i _ => by grind)
theorem cmb_sub (M : Nat) (o : Nat → Nat → Rat) (l m : Nat → Rat) (t : Rat) (v : Nat) : cmb M o (fun i => l i - t * m i) v = cmb M o l v - t * cmb M o m v := by
  have h1 := cmb_mul M o (-t) m v
  have h2 := cmb_add M o l (fun i => -t * m i) v
  have e : (fun i => l i - t * m i) = fun i => l i + -t * m i := by funext i; grind
  rw [e, h2, h1]; grind
structure InC (M : Nat) (o : Nat → Nat → Rat) (E : List Nat) (l : Nat → Rat) : Prop where
  nn : ∀ i, 0 ≤ l i
  off : ∀ i, M ≤ i → l i = 0
  zero : ∀ v ∈ E, cmb M o l v = 0
def Nz (l : Nat → Rat) : Prop := ∃ i, l i ≠ 0
def SubS (l m : Nat → Rat) : Prop := ∀ i, l i ≠ 0 → m i ≠ 0
structure MinS (M : Nat) (o : Nat → Nat → Rat) (E : List Nat) (l : Nat → Rat) : Prop where
  inC : InC M o E l
  nz : Nz l
  least : ∀ m, InC M o E m → Nz m → SubS m l → SubS l m
def cntS (l : Nat → Rat) : Nat → Nat
  | 0 => 0
  | n + 1 => cntS l n + if l n = 0 then 0 else 1
theorem cntS_le {l m : Nat → Rat} (h : SubS m l) : ∀ n, cntS m n ≤ cntS l n
  | 0 => Nat.le_refl _
  | n + 1 => by
    have ih := cntS_le h n
    rw [cntS, cntS]
    by_cases h0 : m n = 0
    · rw [if_pos h0]; split <;> omega
    · rw [if_neg h0, if_neg (h n h0)]; omega
theorem cntS_lt {l m : Nat → Rat} (h : SubS m l) {k : Nat} (h1 : l k ≠ 0) (h2 : m k = 0) : ∀ n, k < n → cntS m n < cntS l n
  | 0, hk => by omega
  | n + 1, hk => by
    rw [cntS, cntS]
    by_cases e : k = n
    · subst e
      have := cntS_le h k
      rw [if_pos h2, if_neg h1]; omega
    · have ih := cntS_lt h h1 h2 n (by omega)
      by_cases h0 : m n = 0
      · rw [if_pos h0]; split <;> omega
      · rw [if_neg h0, if_neg (h n h0)]; omega
theorem argmin {P : Nat → Prop} (f : Nat → Rat) : ∀ (M : Nat), (∃ i, i < M ∧ P i) → ∃ k, k < M ∧ P k ∧ ∀ i, i < M → P i → f k ≤ f i
  | 0, ⟨i, hi, _⟩ => by omega
  | M + 1, ⟨i, hi, hp⟩ => by
    by_cases h : ∃ i, i < M ∧ P i
    · obtain ⟨k, hk, hpk, hmin⟩ := argmin f M h
      by_cases hM : P M ∧ f M ≤ f k
      · refine ⟨M, by omega, hM.1, fun j hj hpj => ?_⟩
        by_cases e : j = M
        · subst e; exact Rat.le_refl
        · have := hmin j (by omega) hpj; have := hM.2; grind
      · refine ⟨k, by omega, hpk, fun j hj hpj => ?_⟩
        by_cases e : j = M
        · subst e
          have : ¬ f j ≤ f k := fun h9 => hM ⟨hpj, h9⟩
          grind
        · exact hmin j (by omega) hpj
    · have e : i = M := by
        by_cases e : i = M
        · exact e
        · exact absurd ⟨i, by omega, hp⟩ h
      subst e
      exact ⟨i, by omega, hp, fun j hj hpj => by
        by_cases e : j = i
        · subst e; exact Rat.le_refl
        · exact absurd ⟨j, by omega, hpj⟩ h⟩
theorem cut {M : Nat} {o : Nat → Nat → Rat} {E : List Nat} {l n : Nat → Rat} (hl : InC M o E l) (h0 : ∀ i, M ≤ i → n i = 0) (hz : ∀ v ∈ E, cmb M o n v = 0) (hs : SubS n l) (hp : ∃ i, 0 < n i) :
    ∃ t, 0 < t ∧ InC M o E (fun i => l i - t * n i) ∧ SubS (fun i => l i - t * n i) l ∧ ∃ k, k < M ∧ l k ≠ 0 ∧ l k - t * n k = 0 := by
  obtain ⟨i0, hi0⟩ := hp
  have hi0M : i0 < M := by
    rcases Nat.lt_or_ge i0 M with h | h
    · exact h
    · have := h0 i0 h; grind
  obtain ⟨k, hk, hpk, hmin⟩ := argmin (P := fun i => 0 < n i) (fun i => l i / n i) M ⟨i0, hi0M, hi0⟩
  have hlk : l k ≠ 0 := hs k (by grind)
  have hlk0 := hl.nn k
  have hpk' : 0 < n k := hpk
  refine ⟨l k / n k, ?_, ⟨fun i => ?_, fun i hi => ?_, fun v hv => ?_⟩, fun i hi hli => ?_, k, hk, hlk, ?_⟩
  · have h1 : 0 < l k := by grind
    exact ratdiv_pos h1 hpk'
  · have ht : 0 ≤ l k / n k := Rat.le_of_lt (ratdiv_pos (by grind) hpk')
    have hli := hl.nn i
    by_cases hn : 0 < n i
    · have hiM : i < M := by
        rcases Nat.lt_or_ge i M with h | h
        · exact h
        · have := h0 i h; grind
      have h1 := hmin i hiM hn
      have h2 : 0 ≤ (l i / n i - l k / n k) * n i := Rat.mul_nonneg (by grind) (by grind)
      have h3 : (l i / n i - l k / n k) * n i = l i - l k / n k * n i := by grind
      show 0 ≤ l i - l k / n k * n i
      grind
    · have h2 : 0 ≤ l k / n k * (-(n i)) := Rat.mul_nonneg ht (by grind)
      show 0 ≤ l i - l k / n k * n i
      grind
  · show l i - l k / n k * n i = 0
    rw [hl.off i hi, h0 i hi]; grind
  · rw [cmb_sub, hl.zero v hv, hz v hv]; grind
  · refine hi ?_
    have hni : n i = 0 := by
      by_cases h9 : n i = 0
      · exact h9
      · exact absurd hli (hs i h9)
    show l i - l k / n k * n i = 0
    rw [hli, hni]; grind
  · grind
theorem MinS.uniq {M : Nat} {o : Nat → Nat → Rat} {E : List Nat} {l m : Nat → Rat} (h : MinS M o E l) (hm : InC M o E m) (hn : Nz m) (hs : SubS m l) : ∃ c, 0 < c ∧ ∀ i, l i = c * m i := by
  obtain ⟨i0, hi0⟩ := hn
  have hi0' : 0 < m i0 := by have := hm.nn i0; grind
  obtain ⟨t, ht, hc, hsub, k, hk, hlk, hz⟩ := cut h.inC hm.off hm.zero hs ⟨i0, hi0'⟩
  refine ⟨t, ht, fun i => ?_⟩
  by_cases h9 : Nz (fun i => l i - t * m i)
  · exact absurd hz (h.least _ hc h9 hsub k hlk)
  · by_cases e : l i - t * m i = 0
    · grind
    · exact absurd ⟨i, e⟩ h9
theorem exists_min {M : Nat} {o : Nat → Nat → Rat} {E : List Nat} : ∀ (d : Nat) {l : Nat → Rat}, cntS l M ≤ d → InC M o E l → Nz l → ∃ m, MinS M o E m ∧ SubS m l := by
  intro d
  induction d with
  | zero =>
    intro l hd hl hn
    obtain ⟨i, hi⟩ := hn
    have hiM : i < M := by
      rcases Nat.lt_or_ge i M with h | h
      · exact h
      · exact absurd (hl.off i h) hi
    have := cntS_lt (m := fun _ => 0) (l := l) (fun j hj => absurd rfl hj) hi rfl M hiM
    omega
  | succ d ih =>
    intro l hd hl hn
    by_cases h : ∃ m, InC M o E m ∧ Nz m ∧ SubS m l ∧ ¬ SubS l m
    · obtain ⟨m, h1, h2, h3, h4⟩ := h
      have : ∃ k, l k ≠ 0 ∧ m k = 0 := by
        refine Classical.byContradiction fun h9 => h4 fun i hi h0 => h9 ⟨i, hi, h0⟩
      obtain ⟨k, hk1, hk2⟩ := this
      have hkM : k < M := by
        rcases Nat.lt_or_ge k M with h | h
        · exact h
        · exact absurd (hl.off k h) hk1
      obtain ⟨m', h5, h6⟩ := ih (by have := cntS_lt h3 hk1 hk2 M hkM; omega) h1 h2
      exact ⟨m', h5, fun i hi => h3 i (h6 i hi)⟩
    · exact ⟨l, ⟨hl, hn, fun m h1 h2 h3 => Classical.byContradiction fun h4 => h ⟨m, h1, h2, h3, h4⟩⟩, fun i hi => hi⟩
/-- what holds of the vectors of least support, and of sums, holds of all -/
theorem dec_min {M : Nat} {o : Nat → Nat → Rat} {E : List Nat} {P : (Nat → Rat) → Prop} (hadd : ∀ m m', P m → P m' → P (fun i => m i + m' i)) (hmul : ∀ c m, 0 < c → P m → P (fun i => c * m i)) :
    ∀ (d : Nat) {l : Nat → Rat}, cntS l M ≤ d → InC M o E l → Nz l → (∀ m, MinS M o E m → SubS m l → P m) → P l := by
  intro d
  induction d with
  | zero =>
    intro l hd hl hn _
    obtain ⟨i, hi⟩ := hn
    have hiM : i < M := by
      rcases Nat.lt_or_ge i M with h | h
      · exact h
      · exact absurd (hl.off i h) hi
    have := cntS_lt (m := fun _ => 0) (l := l) (fun j hj => absurd rfl hj) hi rfl M hiM
    omega
  | succ d ih =>
    intro l hd hl hn hb
    obtain ⟨m, hm, hs⟩ := exists_min (M := M) (o := o) (E := E) (cntS l M) (Nat.le_refl _) hl hn
    obtain ⟨i0, hi0⟩ := hm.nz
    have hi0' : 0 < m i0 := by have := hm.inC.nn i0; grind
    obtain ⟨t, ht, hc, hsub, k, hk, hlk, hz⟩ := cut hl hm.inC.off hm.inC.zero hs ⟨i0, hi0'⟩
    have hPm := hmul t m ht (hb m hm hs)
    by_cases h9 : Nz (fun i => l i - t * m i)
    · have h1 := ih (l := fun i => l i - t * m i) (by have := cntS_lt hsub hlk hz M hk; omega) hc h9 (fun m' h1 h2 => hb m' h1 (fun i hi => hsub i (h2 i hi)))
      have h2 := hadd _ _ h1 hPm
      have e : (fun i => (fun i => l i - t * m i) i + (fun i => t * m i) i) = l := by funext i; dsimp only; grind
      rw [e] at h2
      exact h2
    · have e : (fun i => t * m i) = l := by
        funext i
        by_cases e : l i - t * m i = 0
        · grind
        · exact absurd ⟨i, e⟩ h9
      rw [e] at hPm
      exact hPm
/-- a sum over a list -/
def sumL (f : Nat → Rat) : List Nat → Rat
  | [] => 0
  | i :: I => f i + sumL f I
theorem sumL_congr {f g : Nat → Rat} {I : List Nat} (h : ∀ i ∈ I, f i = g i) : sumL f I = sumL g I := by
  induction I with
  | nil => rfl
  | cons a I ih => rw [sumL, sumL, h a (by simp), ih (fun i hi => h i (by simp [hi]))]
theorem sumL_zero {f : Nat → Rat} {I : List Nat} (h : ∀ i ∈ I, f i = 0) : sumL f I = 0 := by
  induction I with
  | nil => rfl
  | cons a I ih => rw [sumL, h a (by simp), ih (fun i hi => h i (by simp [hi]))]; grind
theorem sumL_erase {f : Nat → Rat} {I : List Nat} {p : Nat} (h : p ∈ I) : sumL f I = f p + sumL f (I.erase p) := by
  induction I with
  | nil => cases h
  | cons a I ih =>
    by_cases e : a = p
    · subst e; simp [sumL]
    · have : p ∈ I := by rcases List.mem_cons.1 h with h | h; exact absurd h.symm e; exact h
      rw [List.erase_cons_tail (by simpa using e), sumL, sumL, ih this]; grind
theorem sumL_append (f : Nat → Rat) (I J : List Nat) : sumL f (I ++ J) = sumL f I + sumL f J := by
  induction I with
  | nil => show _ = 0 + _; grind
  | cons a I ih => show f a + sumL f (I ++ J) = f a + sumL f I + _; rw [ih]; grind
theorem sumL_range (f : Nat → Rat) (M : Nat) : sumL f (List.range M) = sumN f M := by
  induction M with
  | zero => rfl
  | succ M ih => rw [List.range_succ, sumL_append, ih]; show sumN f M + (f M + 0) = sumN f M + f M; grind
theorem sumL_filter {f : Nat → Rat} {p : Nat → Bool} (I : List Nat) (h : ∀ i ∈ I, p i = false → f i = 0) : sumL f (I.filter p) = sumL f I := by
  induction I with
  | nil => rfl
  | cons a I ih =>
    have ih' := ih (fun i hi => h i (by simp [hi]))
    rcases hp : p a with _ | _
    · rw [List.filter_cons_of_neg (by simp [hp]), ih', sumL, h a (by simp) hp]; grind
    · rw [List.filter_cons_of_pos hp, sumL, sumL, ih']
theorem sumL_add (f g : Nat → Rat) (I : List Nat) : sumL (fun i => f i + g i) I = sumL f I + sumL g I := by
  induction I with
  | nil => show (0 : Rat) = 0 + 0; grind
  | cons a I ih => simp only [sumL, ih]; grind
theorem sumL_mul (c : Rat) (f : Nat → Rat) (I : List Nat) : sumL (fun i => c * f i) I = c * sumL f I := by
  induction I with
  | nil => show (0 : Rat) = c * 0; grind
  | cons a I ih => simp only [sumL, ih]; grind
/-- more vectors than coordinates are dependent -/
theorem dep : ∀ (E : List Nat) (o : Nat → Nat → Rat) (I : List Nat), I.Nodup → E.length < I.length → ∃ n : Nat → Rat, (∀ i, i ∉ I → n i = 0) ∧ (∃ i, n i ≠ 0) ∧ ∀ v ∈ E, sumL (fun i => n i * o i v) I = 0
  | [], o, I, hI, hl => by
    rcases I with _ | ⟨a, I⟩
    · simp at hl
    · exact ⟨fun i => if i = a then 1 else 0, fun i hi => by dsimp only; rw [if_neg (fun e => hi (by simp [e]))], ⟨a, by dsimp only; rw [if_pos rfl]; decide +kernel⟩, fun v hv => by cases hv⟩
  | v :: E, o, I, hI, hl => by
    simp only [List.length_cons] at hl
    by_cases h : ∃ p ∈ I, o p v ≠ 0
    · obtain ⟨p, hp, hpv⟩ := h
      obtain ⟨n, h1, ⟨i0, h2⟩, h3⟩ := dep E (fun i u => o i u - o i v / o p v * o p u) (I.erase p) (hI.erase p) (by rw [List.length_erase_of_mem hp]; omega)
      have hnp : n p = 0 := h1 p (fun h9 => by have := hI.mem_erase_iff.1 h9; exact this.1 rfl)
      have hne : ∀ i, i ∈ I.erase p → i ≠ p := fun i hi e => by subst e; exact (hI.mem_erase_iff.1 hi).1 rfl
      refine ⟨fun i => if i = p then -(sumL (fun i => n i * o i v) (I.erase p)) / o p v else n i, fun i hi => ?_, ⟨i0, ?_⟩, fun u hu => ?_⟩
      · dsimp only
        rw [if_neg (fun e => hi (by rw [e]; exact hp))]
        exact h1 i (fun h9 => hi (List.mem_of_mem_erase h9))
      · dsimp only
        rw [if_neg (fun e => h2 (by rw [e]; exact hnp))]
        exact h2
      · rw [sumL_erase hp]
        dsimp only
        have e2 : sumL (fun i => (if i = p then -(sumL (fun i => n i * o i v) (I.erase p)) / o p v else n i) * o i u) (I.erase p) = sumL (fun i => n i * o i u) (I.erase p) := sumL_congr (fun i hi => by rw [if_neg (hne i hi)])
        rw [if_pos rfl, e2]
        rcases List.mem_cons.1 hu with rfl | hu
        · grind
        · have h4 := h3 u hu
          have e : sumL (fun i => n i * (o i u - o i v / o p v * o p u)) (I.erase p) = sumL (fun i => n i * o i u) (I.erase p) + -(o p u / o p v) * sumL (fun i => n i * o i v) (I.erase p) := by
            rw [← sumL_mul, ← sumL_add]
            exact sumL_congr (fun i _ => by grind)
          rw [e] at h4
          generalize sumL (fun i => n i * o i u) (I.erase p) = A at *
          generalize sumL (fun i => n i * o i v) (I.erase p) = B at *
          grind
    · have hz : ∀ i ∈ I, o i v = 0 := fun i hi => Classical.byContradiction fun h9 => h ⟨i, hi, h9⟩
      obtain ⟨n, h1, h2, h3⟩ := dep E o I hI (by omega)
      refine ⟨n, h1, h2, fun u hu => ?_⟩
      rcases List.mem_cons.1 hu with rfl | hu
      · exact sumL_zero (fun i hi => by rw [hz i hi]; grind)
      · exact h3 u hu
theorem cntS_filter (l : Nat → Rat) : ∀ M, ((List.range M).filter (fun i => decide (l i ≠ 0))).length = cntS l M
  | 0 => rfl
  | M + 1 => by
    rw [List.range_succ, List.filter_append, List.length_append, cntS_filter l M, cntS]
    by_cases h : l M = 0
    · rw [if_pos h, List.filter_cons_of_neg (by simpa using h)]; simp
    · rw [if_neg h, List.filter_cons_of_pos (by simpa using h)]; simp
theorem MinS.size {M : Nat} {o : Nat → Nat → Rat} {E : List Nat} {l : Nat → Rat} (h : MinS M o E l) : cntS l M ≤ E.length + 1 := by
  refine Classical.byContradiction fun hc => ?_
  obtain ⟨s0, hs0⟩ := h.nz
  have hs0M : s0 < M := by
    rcases Nat.lt_or_ge s0 M with h9 | h9
    · exact h9
    · exact absurd (h.inC.off s0 h9) hs0
  have hmem : s0 ∈ (List.range M).filter (fun i => decide (l i ≠ 0)) := List.mem_filter.2 ⟨by simpa using hs0M, by simpa using hs0⟩
  have hnd : ((List.range M).filter (fun i => decide (l i ≠ 0))).Nodup := List.nodup_range.filter _
  obtain ⟨n, h1, ⟨i0, h2⟩, h3⟩ := dep E o (((List.range M).filter (fun i => decide (l i ≠ 0))).erase s0) (hnd.erase s0) (by rw [List.length_erase_of_mem hmem, cntS_filter]; omega)
  have hn0 : n s0 = 0 := h1 s0 (fun h9 => (hnd.mem_erase_iff.1 h9).1 rfl)
  have hsub : ∀ i, n i ≠ 0 → i < M ∧ l i ≠ 0 := fun i hi => by
    have : i ∈ ((List.range M).filter (fun i => decide (l i ≠ 0))).erase s0 := Classical.byContradiction fun h9 => hi (h1 i h9)
    have := (List.mem_filter.1 (List.mem_of_mem_erase this))
    exact ⟨by simpa using this.1, by simpa using this.2⟩
  have hz : ∀ v ∈ E, cmb M o n v = 0 := fun v hv => by
    have h4 := h3 v hv
    have h5 := sumL_erase (f := fun i => n i * o i v) hmem
    rw [h4] at h5
    have h6 := sumL_filter (f := fun i => n i * o i v) (p := fun i => decide (l i ≠ 0)) (List.range M) (fun i _ hp => by
      have : n i = 0 := Classical.byContradiction fun h9 => (hsub i h9).2 (by simpa using hp)
      rw [this]; grind)
    unfold cmb
    rw [← sumL_range, ← h6, h5, hn0]; grind
  have hoff : ∀ i, M ≤ i → n i = 0 := fun i hi => Classical.byContradiction fun h9 => by have := (hsub i h9).1; omega
  have fin : ∀ n' : Nat → Rat, (∀ i, M ≤ i → n' i = 0) → (∀ v ∈ E, cmb M o n' v = 0) → SubS n' l → (∃ i, 0 < n' i) → n' s0 = 0 → False := fun n' a b c d e => by
    obtain ⟨t, ht, hc', hs', k, hk, hlk, hzk⟩ := cut h.inC a b c d
    have hnz : Nz (fun i => l i - t * n' i) := ⟨s0, by dsimp only; rw [e]; grind⟩
    exact h.least _ hc' hnz hs' k hlk hzk
  by_cases hpos : ∃ i, 0 < n i
  · exact fin n hoff hz (fun i hi => (hsub i hi).2) hpos hn0
  · refine fin (fun i => -1 * n i) (fun i hi => by rw [hoff i hi]; grind) (fun v hv => by rw [cmb_mul, hz v hv]; grind) (fun i hi => (hsub i (fun h9 => hi (by show -1 * n i = 0; rw [h9]; grind))).2) ⟨i0, ?_⟩ (by rw [hn0]; grind)
    have : ¬ 0 < n i0 := fun h9 => hpos ⟨i0, h9⟩
    try dsimp only
    grind
/-- the number of ones -/
def popF : Nat → Nat → Nat
  | 0, _ => 0
  | k + 1, x => x % 2 + popF k (x / 2)
theorem popF_cnt {l : Nat → Rat} : ∀ (M x : Nat), (∀ i, i < M → (l i ≠ 0 ↔ x.testBit i = true)) → popF M x = cntS l M := by
  have key : ∀ (M x : Nat) (l : Nat → Rat), (∀ i, i < M → (l i ≠ 0 ↔ x.testBit i = true)) → popF M x = cntS l M := by
    intro M
    induction M with
    | zero => intro x l _; rfl
    | succ M ih =>
      intro x l h
      have h1 := ih (x / 2) (fun i => l (i + 1)) (fun i hi => by rw [h (i + 1) (by omega), Nat.testBit_succ])
      have h2 : ∀ (k : Nat), cntS l (k + 1) = (if l 0 = 0 then 0 else 1) + cntS (fun i => l (i + 1)) k := by
        intro k
        induction k with
        | zero => simp [cntS]
        | succ k ih2 => rw [cntS, ih2, cntS]; omega
      rw [popF, h1, h2]
      have h0 := h 0 (by omega)
      rw [Nat.testBit_zero] at h0
      by_cases e : l 0 = 0
      · have : ¬ x % 2 = 1 := fun h9 => (h0.2 (by simpa using h9)) e
        rw [if_pos e]; omega
      · have := h0.1 e
        rw [if_neg e]; simp at this; omega
  exact fun M x h => key M x l h
/-- a row: coefficients, and the set of rows that it combines -/
abbrev KRow := (Nat → Rat) × Nat
structure Snd (M N : Nat) (o : Nat → Nat → Rat) (r : KRow) (l : Nat → Rat) : Prop where
  nn : ∀ i, 0 ≤ l i
  off : ∀ i, M ≤ i → l i = 0
  bits : ∀ i, l i ≠ 0 ↔ r.2.testBit i = true
  val : ∀ u, u < N → r.1 u = cmb M o l u
  nz : Nz l
structure Inv (M N : Nat) (o : Nat → Nat → Rat) (E : List Nat) (rows : List KRow) : Prop where
  snd : ∀ r ∈ rows, ∃ l, Snd M N o r l
  zero : ∀ r ∈ rows, ∀ v ∈ E, r.1 v = 0
  all : ∀ m, MinS M o E m → ∃ r ∈ rows, ∀ i, m i ≠ 0 ↔ r.2.testBit i = true
  low : ∀ v ∈ E, v < N
/-- what the elimination of variable v, the k-th one, does -/
structure ElimR (N : Nat) (l : List KRow) (v k : Nat) (l' : List KRow) : Prop where
  from_ : ∀ r ∈ l', (r ∈ l ∧ r.1 v = 0) ∨ ∃ p ∈ l, ∃ q ∈ l, 0 < p.1 v ∧ q.1 v < 0 ∧ r.2 = p.2 ||| q.2 ∧ ∃ g : Rat, 0 < g ∧ ∀ u, u < N → r.1 u = g * (p.1 u * (-(q.1 v)) + q.1 u * p.1 v)
  keep : ∀ r ∈ l, r.1 v = 0 → r ∈ l'
  pair : ∀ p ∈ l, ∀ q ∈ l, 0 < p.1 v → q.1 v < 0 → popF 64 (p.2 ||| q.2) ≤ k + 1 → ∃ r ∈ l', r.2 = p.2 ||| q.2
theorem cmb_nn {M : Nat} {o : Nat → Nat → Rat} {l : Nat → Rat} {v : Nat} : cmb M o l v = sumN (fun i => l i * o i v) M := rfl
theorem Snd.inC {M N : Nat} {o : Nat → Nat → Rat} {r : KRow} {l : Nat → Rat} {E : List Nat} (h : Snd M N o r l) (hz : ∀ v ∈ E, r.1 v = 0) (hl : ∀ v ∈ E, v < N) : InC M o E l :=
  ⟨h.nn, h.off, fun v hv => by rw [← h.val v (hl v hv)]; exact hz v hv⟩
/-- a row whose set is that of a vector of least support is a multiple of it -/
theorem Snd.mult {M N : Nat} {o : Nat → Nat → Rat} {r : KRow} {l m : Nat → Rat} {E : List Nat} (h : Snd M N o r l) (hz : ∀ v ∈ E, r.1 v = 0) (hl : ∀ v ∈ E, v < N) (hm : MinS M o E m) (hb : ∀ i, m i ≠ 0 ↔ r.2.testBit i = true) :
    ∃ c, 0 < c ∧ ∀ u, u < N → cmb M o m u = c * r.1 u := by
  obtain ⟨c, hc, he⟩ := hm.uniq (h.inC hz hl) h.nz (fun i hi => (hb i).2 ((h.bits i).1 hi))
  refine ⟨c, hc, fun u hu => ?_⟩
  have e : m = fun i => c * l i := funext he
  rw [e, cmb_mul, h.val u hu]
theorem popF_le {M : Nat} {l : Nat → Rat} {x : Nat} (hM : M ≤ 64) (h : ∀ i, l i ≠ 0 ↔ x.testBit i = true) (hoff : ∀ i, M ≤ i → l i = 0) : popF 64 x = cntS l M := by
  rw [popF_cnt (l := l) 64 x (fun i _ => h i)]
  have key : ∀ d, cntS l (M + d) = cntS l M := by
    intro d
    induction d with
    | zero => rfl
    | succ d ih => rw [← Nat.add_assoc, cntS, ih, if_pos (hoff (M + d) (by omega))]; omega
  have := key (64 - M)
  rwa [show M + (64 - M) = 64 by omega] at this
theorem Inv.step {M N : Nat} {o : Nat → Nat → Rat} {E : List Nat} {l l' : List KRow} {v k : Nat} (h : Inv M N o E l) (hM : M ≤ 64) (hv : v < N) (hk : k = E.length + 1) (he : ElimR N l v k l') : Inv M N o (v :: E) l' := by
  have hlow : ∀ u ∈ v :: E, u < N := fun u hu => by
    rcases List.mem_cons.1 hu with rfl | hu
    · exact hv
    · exact h.low u hu
  -- a pair of rows
  have pairS : ∀ (p q : KRow) (lp lq : Nat → Rat), Snd M N o p lp → Snd M N o q lq → 0 < p.1 v → q.1 v < 0 → ∀ (f : Nat), f = p.2 ||| q.2 → ∀ (g : Rat), 0 < g →
      Snd M N o ((fun u => g * (p.1 u * (-(q.1 v)) + q.1 u * p.1 v)), f) (fun i => g * (-(q.1 v)) * lp i + g * p.1 v * lq i) := by
    intro p q lp lq hp hq h1 h2 f hf g hg
    have c1 : 0 < g * (-(q.1 v)) := Rat.mul_pos hg (by grind)
    have c2 : 0 < g * p.1 v := Rat.mul_pos hg h1
    obtain ⟨a, ha⟩ : ∃ a, a = g * (-(q.1 v)) := ⟨_, rfl⟩
    obtain ⟨b, hb⟩ : ∃ b, b = g * p.1 v := ⟨_, rfl⟩
    rw [← ha] at c1
    rw [← hb] at c2
    rw [← ha, ← hb]
    have bits : ∀ i, a * lp i + b * lq i ≠ 0 ↔ (lp i ≠ 0 ∨ lq i ≠ 0) := fun i => by
      have n1 := hp.nn i
      have n2 := hq.nn i
      have m1 : 0 ≤ a * lp i := Rat.mul_nonneg (by grind) n1
      have m2 : 0 ≤ b * lq i := Rat.mul_nonneg (by grind) n2
      constructor
      · intro h9
        by_cases e1 : lp i = 0
        · right; intro e2; exact h9 (by rw [e1, e2]; grind)
        · exact .inl e1
      · intro h9 h8
        have z1 : a * lp i = 0 := by grind
        have z2 : b * lq i = 0 := by grind
        rcases h9 with h9 | h9
        · rcases Rat.mul_eq_zero.1 z1 with h7 | h7
          · grind
          · exact h9 h7
        · rcases Rat.mul_eq_zero.1 z2 with h7 | h7
          · grind
          · exact h9 h7
    refine ⟨fun i => ?_, fun i hi => ?_, fun i => ?_, fun u hu => ?_, ?_⟩
    · have n1 := hp.nn i
      have n2 := hq.nn i
      have m1 : 0 ≤ a * lp i := Rat.mul_nonneg (by grind) n1
      have m2 : 0 ≤ b * lq i := Rat.mul_nonneg (by grind) n2
      show 0 ≤ a * lp i + b * lq i
      grind
    · show a * lp i + b * lq i = 0
      rw [hp.off i hi, hq.off i hi]; grind
    · show a * lp i + b * lq i ≠ 0 ↔ f.testBit i = true
      rw [bits, hp.bits, hq.bits, hf, Nat.testBit_or, Bool.or_eq_true]
    · show g * (p.1 u * (-(q.1 v)) + q.1 u * p.1 v) = cmb M o (fun i => a * lp i + b * lq i) u
      have e1 := cmb_add M o (fun i => a * lp i) (fun i => b * lq i) u
      rw [cmb_mul, cmb_mul, ← hp.val u hu, ← hq.val u hu] at e1
      rw [e1, ha, hb]; grind
    · obtain ⟨i, hi⟩ := hp.nz
      exact ⟨i, (bits i).2 (.inl hi)⟩
  have zeroP : ∀ (p q : KRow) (u : Nat), p ∈ l → q ∈ l → u ∈ v :: E → p.1 u * (-(q.1 v)) + q.1 u * p.1 v = 0 := fun p q u hp hq hu => by
    rcases List.mem_cons.1 hu with rfl | hu
    · grind
    · rw [h.zero p hp u hu, h.zero q hq u hu]; grind
  refine ⟨fun r hr => ?_, fun r hr u hu => ?_, fun m hm => ?_, hlow⟩
  · rcases he.from_ r hr with ⟨h1, _⟩ | ⟨p, hp, q, hq, h1, h2, h3, g, hg, h4⟩
    · exact h.snd r h1
    · obtain ⟨lp, hlp⟩ := h.snd p hp
      obtain ⟨lq, hlq⟩ := h.snd q hq
      have hS := pairS p q lp lq hlp hlq h1 h2 r.2 h3 g hg
      exact ⟨_, ⟨hS.nn, hS.off, hS.bits, fun u hu => (h4 u hu).trans (hS.val u hu), hS.nz⟩⟩
  · rcases he.from_ r hr with ⟨h1, h2⟩ | ⟨p, hp, q, hq, _, _, _, g, _, h4⟩
    · rcases List.mem_cons.1 hu with rfl | hu
      · exact h2
      · exact h.zero r h1 u hu
    · rw [h4 u (hlow u hu), zeroP p q u hp hq hu]; grind
  · have hmE : InC M o E m := ⟨hm.inC.nn, hm.inC.off, fun u hu => hm.inC.zero u (by simp [hu])⟩
    have hmv : cmb M o m v = 0 := hm.inC.zero v (by simp)
    by_cases hA : ∃ μ, MinS M o E μ ∧ SubS μ m ∧ cmb M o μ v = 0
    · obtain ⟨μ, h1, h2, h3⟩ := hA
      have h4 := hm.least μ ⟨h1.inC.nn, h1.inC.off, fun u hu => by
        rcases List.mem_cons.1 hu with rfl | hu
        · exact h3
        · exact h1.inC.zero u hu⟩ h1.nz h2
      obtain ⟨r, hr, hb⟩ := h.all μ h1
      obtain ⟨lr, hlr⟩ := h.snd r hr
      obtain ⟨c, hc, hcv⟩ := hlr.mult (fun u hu => h.zero r hr u hu) h.low h1 hb
      have h5 := hcv v hv
      rw [h3] at h5
      have h6 : r.1 v = 0 := by
        rcases Rat.mul_eq_zero.1 h5.symm with h7 | h7
        · grind
        · exact h7
      exact ⟨r, he.keep r hr h6, fun i => ⟨fun h9 => (hb i).1 (h4 i h9), fun h9 => h2 i ((hb i).2 h9)⟩⟩
    · have hpos : ∃ μ, MinS M o E μ ∧ SubS μ m ∧ 0 < cmb M o μ v := Classical.byContradiction fun h9 => by
        have := dec_min (M := M) (o := o) (E := E) (P := fun ν => cmb M o ν v < 0) (fun a b ha hb => by show cmb M o (fun i => a i + b i) v < 0; rw [cmb_add]; grind) (fun c a hc ha => by
          show cmb M o (fun i => c * a i) v < 0
          rw [cmb_mul]
          have := Rat.mul_pos hc (show 0 < -(cmb M o a v) by grind)
          grind) (cntS m M) (Nat.le_refl _) hmE hm.nz (fun μ h1 h2 => by
          have n1 : cmb M o μ v ≠ 0 := fun e => hA ⟨μ, h1, h2, e⟩
          have n2 : ¬ 0 < cmb M o μ v := fun e => h9 ⟨μ, h1, h2, e⟩
          show cmb M o μ v < 0
          grind)
        rw [hmv] at this
        grind
      have hneg : ∃ μ, MinS M o E μ ∧ SubS μ m ∧ cmb M o μ v < 0 := Classical.byContradiction fun h9 => by
        have := dec_min (M := M) (o := o) (E := E) (P := fun ν => 0 < cmb M o ν v) (fun a b ha hb => by show 0 < cmb M o (fun i => a i + b i) v; rw [cmb_add]; grind) (fun c a hc ha => by
          show 0 < cmb M o (fun i => c * a i) v
          rw [cmb_mul]
          exact Rat.mul_pos hc ha) (cntS m M) (Nat.le_refl _) hmE hm.nz (fun μ h1 h2 => by
          have n1 : cmb M o μ v ≠ 0 := fun e => hA ⟨μ, h1, h2, e⟩
          have n2 : ¬ cmb M o μ v < 0 := fun e => h9 ⟨μ, h1, h2, e⟩
          show 0 < cmb M o μ v
          grind)
        rw [hmv] at this
        grind
      obtain ⟨μ, hμ1, hμ2, hμ3⟩ := hpos
      obtain ⟨η, hη1, hη2, hη3⟩ := hneg
      obtain ⟨p, hp, hpb⟩ := h.all μ hμ1
      obtain ⟨q, hq, hqb⟩ := h.all η hη1
      obtain ⟨lp, hlp⟩ := h.snd p hp
      obtain ⟨lq, hlq⟩ := h.snd q hq
      obtain ⟨c, hc, hcv⟩ := hlp.mult (fun u hu => h.zero p hp u hu) h.low hμ1 hpb
      obtain ⟨d, hd, hdv⟩ := hlq.mult (fun u hu => h.zero q hq u hu) h.low hη1 hqb
      have hpv : 0 < p.1 v := by
        by_cases h9 : 0 < p.1 v
        · exact h9
        · have := hcv v hv
          have h8 : 0 ≤ c * (-(p.1 v)) := Rat.mul_nonneg (by grind) (by grind)
          grind
      have hqv : q.1 v < 0 := by
        by_cases h9 : q.1 v < 0
        · exact h9
        · have := hdv v hv
          have h8 : 0 ≤ d * q.1 v := Rat.mul_nonneg (by grind) (by grind)
          grind
      have hS := pairS p q lp lq hlp hlq hpv hqv (p.2 ||| q.2) rfl 1 (by decide +kernel)
      have hsub : SubS (fun i => 1 * (-(q.1 v)) * lp i + 1 * p.1 v * lq i) m := fun i hi => by
        have h1 := (hS.bits i).1 hi
        have h2 : (p.2.testBit i || q.2.testBit i) = true := by rw [← Nat.testBit_or]; exact h1
        rcases Bool.or_eq_true_iff.1 h2 with h3 | h3
        · exact hμ2 i ((hpb i).2 h3)
        · exact hη2 i ((hqb i).2 h3)
      have hin := hS.inC (E := v :: E) (fun u hu => by
        show 1 * (p.1 u * (-(q.1 v)) + q.1 u * p.1 v) = 0
        rw [zeroP p q u hp hq hu]; grind) hlow
      have hle := hm.least _ hin hS.nz hsub
      have hbits : ∀ i, m i ≠ 0 ↔ (p.2 ||| q.2).testBit i = true := fun i => ⟨fun h9 => (hS.bits i).1 (hle i h9), fun h9 => hsub i ((hS.bits i).2 h9)⟩
      have hsz := hm.size
      rw [List.length_cons] at hsz
      obtain ⟨r, hr, hrf⟩ := he.pair p hp q hq hpv hqv (by rw [popF_le hM hbits hm.inC.off]; omega)
      exact ⟨r, hr, fun i => by rw [hrf]; exact hbits i⟩
/-- at the start each row stands for itself -/
theorem Inv.start {M N : Nat} {o : Nat → Nat → Rat} {l : List KRow} (h1 : ∀ r ∈ l, ∃ i, i < M ∧ r.2 = 2 ^ i ∧ ∀ u, u < N → r.1 u = o i u) (h2 : ∀ i, i < M → ∃ r ∈ l, r.2 = 2 ^ i) : Inv M N o [] l := by
  refine ⟨fun r hr => ?_, fun r hr v hv => (by cases hv), fun m hm => ?_, fun v hv => (by cases hv)⟩
  · obtain ⟨k, hk, hb, hv⟩ := h1 r hr
    refine ⟨fun i => if i = k then 1 else 0, fun i => by split <;> grind, fun i hi => by rw [if_neg (by omega)], fun i => ?_, fun u hu => ?_, ⟨k, by simp; try decide +kernel⟩⟩
    · rw [hb, Nat.testBit_two_pow]
      by_cases e : i = k
      · subst e; simp; try decide +kernel
      · rw [if_neg e]; simp; exact fun h9 => e h9.symm
    · rw [hv u hu]
      unfold cmb
      rw [sumN_single hk (fun i _ hi => by dsimp only; rw [if_neg hi]; grind)]
      dsimp only
      rw [if_pos rfl]; grind
  · -- a vector of least support is one unit
    obtain ⟨k, hk⟩ := hm.nz
    have hkM : k < M := by
      rcases Nat.lt_or_ge k M with h | h
      · exact h
      · exact absurd (hm.inC.off k h) hk
    obtain ⟨r, hr, hb⟩ := h2 k hkM
    have hl := hm.least (fun i => if i = k then 1 else 0) ⟨fun i => by split <;> grind, fun i hi => by rw [if_neg (by omega)], fun v hv => by cases hv⟩ ⟨k, by simp; try decide +kernel⟩ (fun i hi => by
      by_cases e : i = k
      · subst e; exact hk
      · exact absurd (if_neg e) hi)
    refine ⟨r, hr, fun i => ?_⟩
    rw [hb, Nat.testBit_two_pow]
    by_cases e : i = k
    · subst e; simp [hk]
    · have : m i = 0 := Classical.byContradiction fun h9 => hl i h9 (if_neg e)
      rw [this]; simp; exact fun h9 => e h9.symm
/-- what the rows say when only t is left -/
theorem Inv.project {M n : Nat} {o : Nat → Nat → Rat} {E : List Nat} {l : List KRow} (h : Inv M (n + 2) o E l) (hE : ∀ j, j < n → j ∈ E) (hE2 : ∀ v ∈ E, v < n) (t : Rat) :
    (∀ r ∈ l, 0 ≤ r.1 n * t + r.1 (n + 1)) ↔ ∃ x : Nat → Rat, ∀ i, i < M → 0 ≤ (o i n * t + o i (n + 1)) + sumN (fun j => o i j * x j) n := by
  constructor
  · intro hr
    rcases farkas_fam M n o (fun i => o i n * t + o i (n + 1)) with hx | ⟨w, hw, hz, hneg⟩
    · exact hx
    · exfalso
      have hcut : ∀ f : Nat → Rat, sumN (fun i => (if i < M then w i else 0) * f i) M = sumN (fun i => w i * f i) M := fun f => sumN_congr (fun i hi => by rw [if_pos hi])
      have hin : InC M o E (fun i => if i < M then w i else 0) := ⟨fun i => by split; exact hw i; grind, fun i hi => by rw [if_neg (by omega)], fun v hv => by
        unfold cmb
        rw [hcut]; exact hz v (hE2 v hv)⟩
      have hval : ∀ m : Nat → Rat, sumN (fun i => m i * (o i n * t + o i (n + 1))) M = cmb M o m n * t + cmb M o m (n + 1) := fun m => by
        unfold cmb
        have e1 : sumN (fun i => m i * (o i n * t + o i (n + 1))) M = sumN (fun i => t * (m i * o i n) + m i * o i (n + 1)) M := sumN_congr (fun i _ => by grind)
        rw [e1, sumN_add, sumN_mul]; grind
      have hnz : Nz (fun i => if i < M then w i else 0) := Classical.byContradiction fun h9 => by
        have : sumN (fun i => w i * (o i n * t + o i (n + 1))) M = 0 := by
          rw [← hcut, sumN_congr (g := fun _ => 0) (fun i hi => by
            have : (if i < M then w i else 0) = 0 := Classical.byContradiction fun h8 => h9 ⟨i, h8⟩
            rw [this]; grind), sumN_zero]
        rw [this] at hneg
        exact absurd hneg (by decide +kernel)
      have hP := dec_min (M := M) (o := o) (E := E) (P := fun m => 0 ≤ cmb M o m n * t + cmb M o m (n + 1)) (fun a b ha hb => by show 0 ≤ cmb M o (fun i => a i + b i) n * t + cmb M o (fun i => a i + b i) (n + 1); rw [cmb_add, cmb_add]; grind) (fun c a hc ha => by
        show 0 ≤ cmb M o (fun i => c * a i) n * t + cmb M o (fun i => c * a i) (n + 1)
        rw [cmb_mul, cmb_mul]
        have := Rat.mul_nonneg (Rat.le_of_lt hc) ha
        grind) _ (Nat.le_refl _) hin hnz (fun m hm _ => by
        obtain ⟨r, hrl, hb⟩ := h.all m hm
        obtain ⟨lr, hlr⟩ := h.snd r hrl
        obtain ⟨c, hc, hcv⟩ := hlr.mult (fun u hu => h.zero r hrl u hu) h.low hm hb
        show 0 ≤ cmb M o m n * t + cmb M o m (n + 1)
        rw [hcv n (by omega), hcv (n + 1) (by omega)]
        have := Rat.mul_nonneg (Rat.le_of_lt hc) (hr r hrl)
        grind)
      rw [← hval, hcut] at hP
      grind
  · rintro ⟨x, hx⟩ r hr
    obtain ⟨lr, hlr⟩ := h.snd r hr
    have e : r.1 n * t + r.1 (n + 1) = sumN (fun i => lr i * ((o i n * t + o i (n + 1)) + sumN (fun j => o i j * x j) n)) M := by
      rw [hlr.val n (by omega), hlr.val (n + 1) (by omega)]
      have e1 : sumN (fun i => lr i * ((o i n * t + o i (n + 1)) + sumN (fun j => o i j * x j) n)) M = sumN (fun i => (t * (lr i * o i n) + lr i * o i (n + 1)) + sumN (fun j => lr i * (o i j * x j)) n) M := sumN_congr (fun i _ => by rw [sumN_mul]; grind)
      rw [e1, sumN_add, sumN_add, sumN_mul, sumN_comm]
      have e2 : sumN (fun j => sumN (fun i => lr i * (o i j * x j)) M) n = 0 := by
        rw [sumN_congr (g := fun _ => 0) (fun j hj => ?_), sumN_zero]
        have h1 := h.zero r hr j (hE j hj)
        rw [hlr.val j (by omega)] at h1
        have e3 : sumN (fun i => lr i * (o i j * x j)) M = x j * cmb M o lr j := by
          unfold cmb
          rw [← sumN_mul]; exact sumN_congr (fun i _ => by grind)
        rw [e3, h1]; grind
      rw [e2]
      unfold cmb
      grind
    rw [e]
    exact sumN_nonneg (fun i hi => Rat.mul_nonneg (hlr.nn i) (hx i hi))
end Go.Proofs.YtledagemcknlcaaGreat
namespace Go.Proofs.YtledagemcknlcaaGreat

/-- a status and a value are those of the least value of V where F holds -/
def LeastG (F : (Nat → Rat) → Prop) (V : (Nat → Rat) → Rat) (st : Int) (v : Rat) : Prop :=
  (st = 1 ∧ (∃ x, F x ∧ V x = v) ∧ ∀ x, F x → v ≤ V x) ∨ (st = 2 ∧ ∀ x, ¬ F x) ∨ (st = 3 ∧ ∀ B, ∃ x, F x ∧ V x ≤ B)
def FeasA (m n : Nat) (a : Nat → Nat → Rat) (b : Nat → Rat) (x : Nat → Rat) : Prop := ∀ i, i < m → 0 ≤ b i + sumN (fun j => a i j * x j) n
def objA (n : Nat) (c : Nat → Rat) (c0 : Rat) (x : Nat → Rat) : Rat := c0 + sumN (fun j => c j * x j) n
def FeasD (m n : Nat) (a : Nat → Nat → Rat) (c : Nat → Rat) (y : Nat → Rat) : Prop := (∀ i, i < m → 0 ≤ y i) ∧ ∀ j, j < n → sumN (fun i => a i j * y i) m = c j
def objD (m : Nat) (b : Nat → Rat) (c0 : Rat) (y : Nat → Rat) : Rat := -c0 + sumN (fun i => b i * y i) m
theorem weak_A {m n : Nat} {a : Nat → Nat → Rat} {b c x y : Nat → Rat} {c0 : Rat} (hx : FeasA m n a b x) (hy : FeasD m n a c y) : 0 ≤ objA n c c0 x + objD m b c0 y := by
  have := (weak_dual hx hy.1 hy.2).2
  unfold objA objD
  grind
/-- a combination of rows at a point -/
theorem comb_point {m n : Nat} {a : Nat → Nat → Rat} {b x l : Nat → Rat} (hx : FeasA m n a b x) (hl : ∀ i, 0 ≤ l i) : 0 ≤ sumN (fun i => l i * b i) m + sumN (fun j => x j * sumN (fun i => l i * a i j) m) n := by
  have e : sumN (fun i => l i * (b i + sumN (fun j => a i j * x j) n)) m = sumN (fun i => l i * b i) m + sumN (fun j => x j * sumN (fun i => l i * a i j) m) n := by
    have e1 : sumN (fun i => l i * (b i + sumN (fun j => a i j * x j) n)) m = sumN (fun i => l i * b i + sumN (fun j => l i * (a i j * x j)) n) m := sumN_congr (fun i _ => by rw [sumN_mul]; grind)
    rw [e1, sumN_add, sumN_comm]
    congr 1
    exact sumN_congr (fun j _ => by rw [← sumN_mul]; exact sumN_congr (fun i _ => by grind))
  rw [← e]
  exact sumN_nonneg (fun i hi => Rat.mul_nonneg (hl i) (hx i hi))
theorem strong_A {m n : Nat} {a : Nat → Nat → Rat} {b c : Nat → Rat} {c0 : Rat} {st st' : Int} {v v' : Rat} (hp : LeastG (FeasA m n a b) (objA n c c0) st v) (hd : LeastG (FeasD m n a c) (objD m b c0) st' v') :
    (st = 1 → st' = 1 ∧ v + v' = 0) ∧ (st = 3 → st' = 2) ∧ (st = 2 → st' ≠ 1) := by
  refine ⟨fun h1 => ?_, fun h3 => ?_, fun h2 h1' => ?_⟩
  · rcases hp with ⟨_, ⟨x, hx, hxv⟩, hmin⟩ | ⟨h, _⟩ | ⟨h, _⟩
    · have near : ∀ δ : Rat, 0 < δ → ∃ y, FeasD m n a c y ∧ objD m b c0 y < -v + δ := fun δ hδ => by
        rcases farkas_fam (m + 1) n (fun i j => if i < m then a i j else -(c j)) (fun i => if i < m then b i else v - δ - c0) with ⟨z, hz⟩ | ⟨l, hl, hz, hneg⟩
        · exfalso
          have hzF : FeasA m n a b z := fun i hi => by
            have := hz i (by omega)
            simp only [if_pos hi] at this
            exact this
          have h4 := hmin z hzF
          have h5 := hz m (by omega)
          simp only [Nat.lt_irrefl, if_false] at h5
          have e : sumN (fun j => -(c j) * z j) n = -1 * sumN (fun j => c j * z j) n := by rw [← sumN_mul]; exact sumN_congr (fun j _ => by grind)
          rw [e] at h5
          unfold objA at h4
          grind
        · have hs : ∀ f g : Nat → Rat, sumN (fun i => l i * (if i < m then f i else g i)) (m + 1) = sumN (fun i => l i * f i) m + l m * g m := fun f g => by
            rw [sumN, sumN_congr (g := fun i => l i * f i) (fun i hi => by rw [if_pos hi])]
            simp
          have hz' : ∀ j, j < n → sumN (fun i => l i * a i j) m + l m * -(c j) = 0 := fun j hj => by
            rw [← hs (fun i => a i j) (fun _ => -(c j))]; exact hz j hj
          rw [hs b (fun _ => v - δ - c0)] at hneg
          have hlm := hl m
          by_cases h0 : l m = 0
          · exfalso
            have h6 := comb_point hx hl
            rw [sumN_congr (n := n) (g := fun _ => 0) (fun j hj => by
              have := hz' j hj
              rw [h0] at this
              have e : sumN (fun i => l i * a i j) m = 0 := by grind
              rw [e]; grind), sumN_zero] at h6
            rw [h0] at hneg
            grind
          · have hlm0 : 0 < l m := by grind
            have hinv : 0 < 1 / l m := ratdiv_pos (by decide +kernel) hlm0
            refine ⟨fun i => 1 / l m * l i, ⟨fun i _ => Rat.mul_nonneg (by grind) (hl i), fun j hj => ?_⟩, ?_⟩
            · have e : sumN (fun i => a i j * (1 / l m * l i)) m = 1 / l m * sumN (fun i => l i * a i j) m := by rw [← sumN_mul]; exact sumN_congr (fun i _ => by grind)
              rw [e]
              have := hz' j hj
              have e2 : sumN (fun i => l i * a i j) m = l m * c j := by grind
              rw [e2]; grind
            · unfold objD
              have e : sumN (fun i => b i * (1 / l m * l i)) m = 1 / l m * sumN (fun i => l i * b i) m := by rw [← sumN_mul]; exact sumN_congr (fun i _ => by grind)
              rw [e]
              generalize sumN (fun i => l i * b i) m = S at *
              have h7 : 0 < 1 / l m * (-(S + l m * (v - δ - c0))) := Rat.mul_pos hinv (by grind)
              have h8 : 1 / l m * (-(S + l m * (v - δ - c0))) = -(1 / l m * S) - (v - δ - c0) := by grind
              grind
      have low : ∀ y, FeasD m n a c y → -v ≤ objD m b c0 y := fun y hy => by
        have := weak_A (c0 := c0) hx hy
        rw [hxv] at this
        grind
      rcases hd with ⟨h, ⟨y, hy, hyv⟩, hmin'⟩ | ⟨_, hno⟩ | ⟨_, hun⟩
      · refine ⟨h, ?_⟩
        have h4 := low y hy
        rw [hyv] at h4
        by_cases h5 : v' ≤ -v
        · grind
        · exfalso
          obtain ⟨y2, hy2, hlt⟩ := near (v' + v) (by grind)
          have := hmin' y2 hy2
          grind
      · obtain ⟨y, hy, _⟩ := near 1 (by decide +kernel)
        exact absurd hy (hno y)
      · exfalso
        obtain ⟨y, hy, hle⟩ := hun (-v - 1)
        have := low y hy
        grind
    · omega
    · omega
  · rcases hp with ⟨h, _⟩ | ⟨h, _⟩ | ⟨_, hun⟩
    · omega
    · omega
    · have no : ∀ y, ¬ FeasD m n a c y := fun y hy => by
        obtain ⟨x, hx, hle⟩ := hun (-(objD m b c0 y) - 1)
        have := weak_A (c0 := c0) hx hy
        grind
      rcases hd with ⟨_, ⟨y, hy, _⟩, _⟩ | ⟨h, _⟩ | ⟨_, hun'⟩
      · exact absurd hy (no y)
      · exact h
      · obtain ⟨y, hy, _⟩ := hun' 0
        exact absurd hy (no y)
  · rcases hp with ⟨h, _⟩ | ⟨_, hno⟩ | ⟨h, _⟩
    · omega
    · rcases farkas_fam m n a b with ⟨x, hx⟩ | ⟨l, hl, hz, hneg⟩
      · exact hno x hx
      · rcases hd with ⟨_, ⟨y, hy, hyv⟩, hmin⟩ | ⟨h, _⟩ | ⟨h, _⟩
        · have h4 := hmin (fun i => y i + l i) ⟨fun i hi => by have := hy.1 i hi; have := hl i; dsimp only; grind, fun j hj => by
            have e : sumN (fun i => a i j * (y i + l i)) m = sumN (fun i => a i j * y i) m + sumN (fun i => l i * a i j) m := by rw [← sumN_add]; exact sumN_congr (fun i _ => by grind)
            rw [e, hy.2 j hj, hz j hj]; grind⟩
          unfold objD at h4 hyv
          have e : sumN (fun i => b i * (y i + l i)) m = sumN (fun i => b i * y i) m + sumN (fun i => l i * b i) m := by rw [← sumN_add]; exact sumN_congr (fun i _ => by grind)
          rw [e] at h4
          grind
        · omega
        · omega
    · omega
/-- the rows of one variable: what the ends of their interval are -/
structure EndsI (l : List (Rat × Rat)) (low high : Bool) (least most : Rat) : Prop where
  z : ∀ r ∈ l, r.1 = 0 → 0 ≤ r.2
  lo : low = true → (∃ r ∈ l, 0 < r.1 ∧ least * r.1 + r.2 = 0) ∧ ∀ r ∈ l, 0 < r.1 → 0 ≤ least * r.1 + r.2
  nlo : low = false → ∀ r ∈ l, ¬ 0 < r.1
  hi : high = true → (∃ r ∈ l, r.1 < 0 ∧ most * r.1 + r.2 = 0) ∧ ∀ r ∈ l, r.1 < 0 → 0 ≤ most * r.1 + r.2
  nhi : high = false → ∀ r ∈ l, ¬ r.1 < 0
def HoldT (l : List (Rat × Rat)) (t : Rat) : Prop := ∀ r ∈ l, 0 ≤ r.1 * t + r.2
theorem mul_mono {a x y : Rat} (ha : 0 ≤ a) (h : x ≤ y) : a * x ≤ a * y := by
  have : 0 ≤ a * (y - x) := Rat.mul_nonneg ha (by grind)
  grind
theorem EndsI.none {l : List (Rat × Rat)} {low high : Bool} {least most : Rat} (h : EndsI l low high least most) (h1 : low = true) (h2 : high = true) (h3 : most < least) (t : Rat) : ¬ HoldT l t := fun ht => by
  obtain ⟨⟨p, hp, hp1, hp2⟩, _⟩ := h.lo h1
  obtain ⟨⟨q, hq, hq1, hq2⟩, _⟩ := h.hi h2
  have e1 := ht p hp
  have e2 := ht q hq
  have f1 : 0 ≤ p.1 * (t - least) := by grind
  have f2 : 0 ≤ -(q.1) * (most - t) := by grind
  have g1 : least ≤ t := by
    by_cases h9 : least ≤ t
    · exact h9
    · have := Rat.mul_pos hp1 (show 0 < least - t by grind); grind
  have g2 : t ≤ most := by
    by_cases h9 : t ≤ most
    · exact h9
    · have := Rat.mul_pos (show 0 < -(q.1) by grind) (show 0 < t - most by grind); grind
  grind
theorem EndsI.free {l : List (Rat × Rat)} {high : Bool} {least most : Rat} (h : EndsI l false high least most) (B : Rat) : ∃ t, HoldT l t ∧ t ≤ B := by
  have hl := h.nlo rfl
  cases high
  · have hh := h.nhi rfl
    exact ⟨B, fun r hr => by
      have e : r.1 = 0 := by have := hl r hr; have := hh r hr; grind
      have := h.z r hr e
      rw [e]; grind, Rat.le_refl⟩
  · obtain ⟨_, hall⟩ := h.hi rfl
    obtain ⟨t, ht1, ht2⟩ : ∃ t : Rat, t ≤ B ∧ t ≤ most := by
      by_cases h9 : B ≤ most
      · exact ⟨B, Rat.le_refl, h9⟩
      · exact ⟨most, by grind, Rat.le_refl⟩
    refine ⟨t, fun r hr => ?_, ht1⟩
    by_cases e : r.1 = 0
    · have := h.z r hr e
      rw [e]; grind
    · have hneg : r.1 < 0 := by have := hl r hr; grind
      have h1 := hall r hr hneg
      have h2 := mul_mono (a := -(r.1)) (by grind) ht2
      grind
theorem EndsI.best {l : List (Rat × Rat)} {high : Bool} {least most : Rat} (h : EndsI l true high least most) (hm : high = true → least ≤ most) : HoldT l least ∧ ∀ t, HoldT l t → least ≤ t := by
  obtain ⟨⟨p, hp, hp1, hp2⟩, hall⟩ := h.lo rfl
  refine ⟨fun r hr => ?_, fun t ht => ?_⟩
  · by_cases e : r.1 = 0
    · have := h.z r hr e
      rw [e]; grind
    · by_cases h1 : 0 < r.1
      · have := hall r hr h1; grind
      · have hneg : r.1 < 0 := by grind
        cases high
        · exact absurd hneg (h.nhi rfl r hr)
        · have h1 := (h.hi rfl).2 r hr hneg
          have h2 := mul_mono (a := -(r.1)) (by grind) (hm rfl)
          grind
  · have e1 := ht p hp
    by_cases h9 : least ≤ t
    · exact h9
    · have := Rat.mul_pos hp1 (show 0 < least - t by grind); grind
end Go.Proofs.YtledagemcknlcaaGreat
