/- linear.Range, relucertref07.Range, relucertlaw07.boxed: what they return; the values at the corners of a box. -/
import Derived.Test.YthkkmokbjmempaaGreatDoorGs
import Derived.Test.YthkkmokbjmempaaGreatDoorLX
import Derived.Test.YthkkmokbjmempaaGreatDoorZr
set_option linter.all false
set_option linter.all false
set_option maxRecDepth 100000
set_option maxHeartbeats 6400000
namespace Go.Proofs.YthkkmokbjmempaaGreatDoor
open Go.RowKit
attribute [local irreducible] run runL loopG exec

/-- an end of a side of the box -/
def pk (B : List TInterval) (i : Nat) (b : Bool) : Rat := if b = true then (B.getD i ⟨0, 0⟩).Hi else (B.getD i ⟨0, 0⟩).Lo
def ng (q : Rat) : Bool := decide (q.num < 0)
/-- the least (true), the greatest value of the terms -/
def rgS (B : List TInterval) (lo : Bool) : List (Int × Rat) → Rat
  | [] => 0
  | t :: F => t.2 * pk B t.1.toNat (if lo = true then ng t.2 else !ng t.2) + rgS B lo F
def rgF (B : List TInterval) (_ : Nat) (s : Rat × Rat) (t : Int × Rat) : Except (Rat × Rat) (Rat × Rat) :=
  if t.1 < 0 ∨ (B.length : Int) ≤ t.1 then .error s else .ok (s.1 + t.2 * pk B t.1.toNat (ng t.2), s.2 + t.2 * pk B t.1.toNat (!ng t.2))
theorem rgF_in {B : List TInterval} : ∀ {F : List (Int × Rat)} {i : Nat} {s : Rat × Rat}, InR B.length F → foldE (rgF B) i s F = .ok (s.1 + rgS B true F, s.2 + rgS B false F)
  | [], i, s, _ => by
    rw [foldE, rgS, rgS]
    congr 1
    exact Prod.ext (by dsimp only; grind) (by dsimp only; grind)
  | t :: F, i, s, h => by
    have ht := h t (by simp)
    have e : rgF B i s t = .ok (s.1 + t.2 * pk B t.1.toNat (ng t.2), s.2 + t.2 * pk B t.1.toNat (!ng t.2)) := if_neg (by omega)
    rw [foldE, e]
    dsimp only
    rw [rgF_in fun u hu => h u (by simp [hu])]
    congr 1
    exact Prod.ext (by dsimp only; rw [rgS, if_pos rfl]; grind) (by dsimp only; rw [rgS, if_neg (by simp)]; grind)
theorem rgF_out {B : List TInterval} : ∀ {F : List (Int × Rat)} {i : Nat} {s r : Rat × Rat}, foldE (rgF B) i s F = .ok r → InR B.length F
  | [], _, _, _, _ => fun t ht => by cases ht
  | t :: F, i, s, r, h => by
    rw [foldE] at h
    unfold rgF at h
    by_cases h1 : t.1 < 0 ∨ (B.length : Int) ≤ t.1
    · rw [if_pos h1] at h; cases h
    · rw [if_neg h1] at h
      have := rgF_out h
      intro u hu
      rcases List.mem_cons.1 hu with rfl | hu
      · omega
      · exact this u hu
/-- what Range returns -/
noncomputable def rgV (f : Form) (B : List TInterval) : AV :=
  if tv (InR B.length f.1) = true then .tup [.agg [.lit (.bool (rawQ (f.2 + rgS B true f.1)).s), natA (rawQ (f.2 + rgS B true f.1)).l1, natA (rawQ (f.2 + rgS B true f.1)).l2, .lit (.bool (rawQ (f.2 + rgS B false f.1)).s), natA (rawQ (f.2 + rgS B false f.1)).l1, natA (rawQ (f.2 + rgS B false f.1)).l2], .lit (.int .i64 0)]
  else .tup [.agg [.lit (.bool false), .sl 1 [], .sl 1 [], .lit (.bool false), .sl 1 [], .sl 1 []], .lit (.int .i64 2)]
structure BoxB (B : List TInterval) : Prop where
  l : B.length ≤ 8
  lo : ∀ x ∈ B, H x.Lo ≤ 2
  hi : ∀ x ∈ B, H x.Hi ≤ 2
  le : ∀ x ∈ B, x.Lo ≤ x.Hi
theorem pk_at {B : List TInterval} {i : Nat} {x : TInterval} (h : B[i]? = some x) (b : Bool) : pk B i b = if b = true then x.Hi else x.Lo := by
  unfold pk
  rw [List.getD_eq_getElem?_getD, h]
  rfl
theorem lrg_c {n : Nat} {f : Form} {B : List TInterval} (hF : ∀ t ∈ f.1, H t.2 ≤ 2) (hl : f.1.length ≤ 8) (hk : H f.2 ≤ 2) (hB : BoxB B) :
    run n 41 [formV f, .sl 6 (B.map intervalC)] = some (rgV f B) ∧ (InR B.length f.1 → H (f.2 + rgS B true f.1) ≤ 50 ∧ H (f.2 + rgS B false f.1) ≤ 50) := by
  have hBl := hB.l
  have L := loopG_E (O := tab n) (P := Tryz.prog) (m := 0) (N := 69) (lives := livesOf 41) (r := 3) (C := lrg_C3) (L := f.1) (f := rgF B) (enc := fun i s => lrg_h3 f B i s.1 s.2) (exN := .exit 0) (exE := .ret) (out := fun s => lrg_o3b s.1 s.2) (outE := fun s => lrg_o3a s.1 s.2) (Inv := fun i s => H s.1 ≤ 2 + i * 5 ∧ H s.2 ≤ 2 + i * 5 ∧ i ≤ f.1.length) (f.2, f.2) ⟨by dsimp only; omega, by dsimp only; omega, by omega⟩ (by omega) (fun h => by cases h) (fun h => by cases h)
    (fun i t s hi hI => by
      obtain ⟨v, c⟩ := t
      obtain ⟨s1, s2⟩ := s
      obtain ⟨hI, hI2, hle⟩ := hI
      dsimp only at hI hI2
      have hlt := (List.getElem?_eq_some_iff.1 hi).1
      have C1 : (i : Int) < (f.1.length : Int) := by omega
      have W : InI ((i : Int) + 1) := ⟨by omega, by omega⟩
      unfold rgF
      by_cases hv : v < 0 ∨ (B.length : Int) ≤ v
      · rw [if_pos hv]
        by_cases h0 : v < 0
        · exact lrg_x3_1 C1 hi h0
        · exact lrg_x3_2 C1 hi h0 (by omega)
      · rw [if_neg hv]
        have hl : v.toNat < B.length := by omega
        obtain ⟨x, hx⟩ : ∃ x, B[v.toNat]? = some x := ⟨_, List.getElem?_eq_getElem hl⟩
        have hm := List.mem_of_getElem? hx
        have hc : H c ≤ 2 := hF _ (List.mem_of_getElem? hi)
        have a1 := hB.lo x hm
        have a2 := hB.hi x hm
        have b1 := H_mul c x.Lo
        have b2 := H_mul c x.Hi
        have c1 := H_add s1 (c * x.Lo)
        have c2 := H_add s1 (c * x.Hi)
        have c3 := H_add s2 (c * x.Lo)
        have c4 := H_add s2 (c * x.Hi)
        dsimp only
        rw [pk_at hx, pk_at hx]
        cases hs : ng c with
        | true =>
          have hs' : (rawQ c).s = true := hs
          rw [if_pos rfl, if_neg (by simp)]
          exact ⟨lrg_r3_1 C1 hi (by omega) (by omega) hx (by omega) hs' (by omega) (by omega) (by omega) (by omega) (by omega) (by omega) (by omega) W, by omega, by omega, hlt⟩
        | false =>
          have hs' : (rawQ c).s = false := hs
          rw [if_neg (by simp), if_pos (by simp)]
          exact ⟨lrg_r3_2 C1 hi (by omega) (by omega) hx (by omega) hs' (by omega) (by omega) (by omega) (by omega) (by omega) (by omega) (by omega) W, by omega, by omega, hlt⟩)
    (fun b hI => lrg_x3_3 (by omega))
  unfold rgV
  by_cases h : InR B.length f.1
  · have e := rgF_in (i := 0) (s := (f.2, f.2)) h
    rw [e] at L
    obtain ⟨L1, L2⟩ := L
    obtain ⟨b1, b2, _⟩ := L2 _ rfl
    dsimp only at b1 b2
    rw [tv_t h, if_pos rfl]
    exact ⟨lrg_f2 L1 (by omega) (by omega), fun _ => ⟨by omega, by omega⟩⟩
  · rw [tv_f h, if_neg (by simp)]
    cases hE : foldE (rgF B) 0 (f.2, f.2) f.1 with
    | ok s => exact absurd (rgF_out hE) h
    | error s =>
      rw [hE] at L
      exact ⟨lrg_f1 L.1, fun h9 => absurd h9 h⟩
theorem num_neg' {q : Rat} : ng q = true ↔ q < 0 := by
  unfold ng
  rw [decide_eq_true_iff]
  have h1 := num_nonpos q
  have h2 := @Rat.num_nonneg q
  constructor
  · intro h
    have h3 := h1.1 (by omega)
    have : ¬ 0 ≤ q := fun h9 => by have := h2.2 h9; omega
    grind
  · intro h
    have : ¬ 0 ≤ q.num := fun h9 => by have := h2.1 h9; grind
    omega
theorem ends {q a b : Rat} (h : a ≤ b) : (ng q = true → q * b ≤ q * a) ∧ (ng q = false → q * a ≤ q * b) := by
  constructor
  · intro hn
    have h1 : q < 0 := num_neg'.1 hn
    have h2 : 0 ≤ (-q) * (b - a) := Rat.mul_nonneg (by grind) (by grind)
    grind
  · intro hn
    have h1 : ¬ q < 0 := fun h9 => by rw [num_neg'.2 h9] at hn; cases hn
    have h2 : 0 ≤ q * (b - a) := Rat.mul_nonneg (by grind) (by grind)
    grind
theorem min_c {n : Nat} {a b : Rat} (ha : H a ≤ 1000) (hb : H b ≤ 1000) : (a ≤ b → run n 91 [ratV a, ratV b] = some (ratV a)) ∧ (b ≤ a → run n 91 [ratV a, ratV b] = some (ratV b)) := by
  have k := @sgq_nonpos (a - b)
  constructor
  · intro h
    exact mnf_f1 (by omega) (by omega) (k.2 (by grind))
  · intro h
    by_cases h2 : a - b ≤ 0
    · have e : a = b := by grind
      have R := mnf_f1 (n := n) (a0 := a) (a1 := b) (by omega) (by omega) (k.2 h2)
      rw [R, e]
    · exact mnf_f2 (by omega) (by omega) fun h9 => h2 (k.1 h9)
theorem max_c {n : Nat} {a b : Rat} (ha : H a ≤ 1000) (hb : H b ≤ 1000) : (b ≤ a → run n 92 [ratV a, ratV b] = some (ratV a)) ∧ (a ≤ b → run n 92 [ratV a, ratV b] = some (ratV b)) := by
  have k := @sgq_nonneg (a - b)
  constructor
  · intro h
    exact mxf_f1 (by omega) (by omega) (k.2 (by grind))
  · intro h
    by_cases h2 : 0 ≤ a - b
    · have e : a = b := by grind
      have R := mxf_f1 (n := n) (a0 := a) (a1 := b) (by omega) (by omega) (k.2 h2)
      rw [R, e]
    · exact mxf_f2 (by omega) (by omega) fun h9 => h2 (k.1 h9)
theorem frg_c {n : Nat} {f : Form} {B : List TInterval} (hF : ∀ t ∈ f.1, H t.2 ≤ 2) (hl : f.1.length ≤ 8) (hk : H f.2 ≤ 2) (hB : BoxB B) :
    run (n + 1) 42 [formV f, .sl 6 (B.map intervalC)] = some (rgV f B) := by
  have hBl := hB.l
  have L := loopG_E (O := tab (n + 1)) (P := Tryz.prog) (m := 0) (N := 72) (lives := livesOf 42) (r := 3) (C := frg_C3) (L := f.1) (f := rgF B) (enc := fun i s => frg_h3 f B i s.1 s.2) (exN := .exit 0) (exE := .ret) (out := fun s => frg_o3b s.1 s.2) (outE := fun s => frg_o3a s.1 s.2) (Inv := fun i s => H s.1 ≤ 2 + i * 5 ∧ H s.2 ≤ 2 + i * 5 ∧ i ≤ f.1.length) (f.2, f.2) ⟨by dsimp only; omega, by dsimp only; omega, by omega⟩ (by omega) (fun h => by cases h) (fun h => by cases h)
    (fun i t s hi hI => by
      obtain ⟨v, c⟩ := t
      obtain ⟨s1, s2⟩ := s
      obtain ⟨hI, hI2, hle⟩ := hI
      dsimp only at hI hI2
      have hlt := (List.getElem?_eq_some_iff.1 hi).1
      have C1 : (i : Int) < (f.1.length : Int) := by omega
      have W : InI ((i : Int) + 1) := ⟨by omega, by omega⟩
      unfold rgF
      by_cases hv : v < 0 ∨ (B.length : Int) ≤ v
      · rw [if_pos hv]
        by_cases h0 : v < 0
        · exact frg_x3_1 C1 hi h0
        · exact frg_x3_2 C1 hi h0 (by omega)
      · rw [if_neg hv]
        have hl : v.toNat < B.length := by omega
        obtain ⟨x, hx⟩ : ∃ x, B[v.toNat]? = some x := ⟨_, List.getElem?_eq_getElem hl⟩
        have hm := List.mem_of_getElem? hx
        have hc : H c ≤ 2 := hF _ (List.mem_of_getElem? hi)
        have a1 := hB.lo x hm
        have a2 := hB.hi x hm
        have b1 := H_mul c x.Lo
        have b2 := H_mul c x.Hi
        have c1 := H_add s1 (c * x.Lo)
        have c2 := H_add s1 (c * x.Hi)
        have c3 := H_add s2 (c * x.Lo)
        have c4 := H_add s2 (c * x.Hi)
        obtain ⟨e1, e2⟩ := ends (q := c) (hB.le x hm)
        have m1 := min_c (n := n) (a := c * x.Lo) (b := c * x.Hi) (by omega) (by omega)
        have m2 := max_c (n := n) (a := c * x.Lo) (b := c * x.Hi) (by omega) (by omega)
        dsimp only
        rw [pk_at hx, pk_at hx]
        cases hs : ng c with
        | true =>
          rw [if_pos rfl, if_neg (by simp)]
          exact ⟨frg_r3_1 C1 hi (by omega) (by omega) hx (by omega) (by omega) (by omega) (by omega) (m1.2 (e1 hs)) (by omega) (by omega) (m2.1 (e1 hs)) (by omega) (by omega) W, by omega, by omega, hlt⟩
        | false =>
          rw [if_neg (by simp), if_pos (by simp)]
          exact ⟨frg_r3_1 C1 hi (by omega) (by omega) hx (by omega) (by omega) (by omega) (by omega) (m1.1 (e2 hs)) (by omega) (by omega) (m2.2 (e2 hs)) (by omega) (by omega) W, by omega, by omega, hlt⟩)
    (fun b hI => frg_x3_3 (by omega))
  unfold rgV
  by_cases h : InR B.length f.1
  · have e := rgF_in (i := 0) (s := (f.2, f.2)) h
    rw [e] at L
    rw [tv_t h, if_pos rfl]
    exact frg_f2 L.1
  · rw [tv_f h, if_neg (by simp)]
    cases hE : foldE (rgF B) 0 (f.2, f.2) f.1 with
    | ok s => exact absurd (rgF_out hE) h
    | error s =>
      rw [hE] at L
      exact frg_f1 L.1
/-- the corner of a number -/
def crn (B : List TInterval) (c m : Nat) : List Rat := (List.range m).map fun i => pk B i (c.testBit i)
theorem crn_len (B : List TInterval) (c m : Nat) : (crn B c m).length = m := by rw [crn, List.length_map, List.length_range]
theorem crn_get {B : List TInterval} {c m i : Nat} (h : i < m) : (crn B c m).getD i 0 = pk B i (c.testBit i) := by
  unfold crn
  rw [List.getD_eq_getElem?_getD, List.getElem?_map, List.getElem?_range h]
  rfl
theorem pk_H {B : List TInterval} (hB : BoxB B) (i : Nat) (b : Bool) (hi : i < B.length) : H (pk B i b) ≤ 2 := by
  obtain ⟨x, hx⟩ : ∃ x, B[i]? = some x := ⟨_, List.getElem?_eq_getElem hi⟩
  have hm := List.mem_of_getElem? hx
  rw [pk_at hx]
  split
  · exact hB.hi x hm
  · exact hB.lo x hm
theorem pk_le {B : List TInterval} (hB : BoxB B) {i : Nat} (hi : i < B.length) (q : Rat) (b : Bool) : q * pk B i (ng q) ≤ q * pk B i b ∧ q * pk B i b ≤ q * pk B i (!ng q) := by
  obtain ⟨x, hx⟩ : ∃ x, B[i]? = some x := ⟨_, List.getElem?_eq_getElem hi⟩
  have hm := List.mem_of_getElem? hx
  obtain ⟨e1, e2⟩ := ends (q := q) (hB.le x hm)
  rw [pk_at hx, pk_at hx, pk_at hx]
  cases hs : ng q with
  | true => have := e1 hs; cases b <;> simp <;> grind
  | false => have := e2 hs; cases b <;> simp <;> grind
theorem crn_in {B : List TInterval} (hB : BoxB B) (c : Nat) : ∀ {F : List (Int × Rat)}, InR B.length F → rgS B true F ≤ evS (crn B c B.length) F ∧ evS (crn B c B.length) F ≤ rgS B false F
  | [], _ => by rw [rgS, rgS, evS]; exact ⟨by grind, by grind⟩
  | t :: F, h => by
    have ht := h t (by simp)
    obtain ⟨i1, i2⟩ := crn_in hB c (F := F) fun u hu => h u (by simp [hu])
    obtain ⟨p1, p2⟩ := pk_le hB (i := t.1.toNat) (by omega) t.2 (c.testBit t.1.toNat)
    rw [rgS, rgS, evS, crn_get (by omega), if_pos rfl, if_neg (by simp)]
    exact ⟨by grind, by grind⟩
theorem crn_eq {B : List TInterval} {c : Nat} {lo : Bool} : ∀ {F : List (Int × Rat)}, InR B.length F → (∀ t ∈ F, c.testBit t.1.toNat = if lo = true then ng t.2 else !ng t.2) → evS (crn B c B.length) F = rgS B lo F
  | [], _, _ => rfl
  | t :: F, h, hc => by
    have ht := h t (by simp)
    rw [rgS, evS, crn_get (by omega), hc t (by simp), crn_eq (fun u hu => h u (by simp [hu])) fun u hu => hc u (by simp [hu])]
theorem cof_mem : ∀ {F : List (Int × Rat)}, Srt F → ∀ t ∈ F, cof F t.1 = t.2
  | [], _, t, ht => by cases ht
  | u :: F, h, t, ht => by
    rcases List.mem_cons.1 ht with rfl | ht
    · exact cof_hd rfl
    · have := h.head t ht
      rw [cof_tl (by omega)]
      exact cof_mem h.tail t ht
theorem crn_at {B : List TInterval} {F : List (Int × Rat)} (hS : Srt F) (h : InR B.length F) (lo : Bool) : ∃ c, c < 2 ^ B.length ∧ evS (crn B c B.length) F = rgS B lo F := by
  obtain ⟨c, h1, h2⟩ := bits_ex (fun i => if lo = true then ng (cof F (i : Int)) else !ng (cof F (i : Int))) B.length
  refine ⟨c, h1, crn_eq h fun t ht => ?_⟩
  have h3 := h t ht
  rw [h2 _ (by omega)]
  have e : ((t.1.toNat : Nat) : Int) = t.1 := by omega
  rw [e, cof_mem hS t ht]
/-- boxed -/
theorem rawC_inj {c : Raw} {q : Rat} (h : rawC c = ratC q) : c = rawQ q := by
  simp only [rawC, ratC, List.cons.injEq, AV.lit.injEq, Value.bool.injEq, and_true] at h
  obtain ⟨h1, h2, h3⟩ := h
  have inj : ∀ {l m : List Nat}, natA l = natA m → l = m := fun {l m} e => by
    unfold natA at e
    simp only [AV.sl.injEq, true_and] at e
    have e2 := congrArg (List.map (fun (x : List AV) => match x with | [.lit (.int .u32 z)] => z.toNat | _ => 0)) e
    simpa [Function.comp_def] using e2
  obtain ⟨s, l1, l2⟩ := c
  dsimp only at h1 h2 h3
  rw [h1, inj h2, inj h3]
theorem boxed_or (n : Nat) {xs : List TIntervalR} (hN : xs.length ≤ 4000000) (hl : ∀ r ∈ xs, LimR2 r.Lo ∧ LimR2 r.Hi) : run (n + 1) 40 [.sl 6 (xs.map intervalRC)] = some (.lit (.bool false)) ∨ (run (n + 1) 40 [.sl 6 (xs.map intervalRC)] = some (.lit (.bool true)) ∧ ∃ B : List TInterval, xs.map intervalRC = B.map intervalC ∧ BoxB B) := by
  have hp : ∀ x ∈ xs, run n 24 [.sl 3 [rawC x.Lo, rawC x.Hi]] = some (.lit (.bool false)) ∨ (run n 24 [.sl 3 [rawC x.Lo, rawC x.Hi]] = some (.lit (.bool true)) ∧ ∃ a b, x.Lo = rawQ a ∧ x.Hi = rawQ b ∧ H a ≤ 2 ∧ H b ≤ 2) := fun x hx => by
    obtain ⟨l1, l2⟩ := hl x hx
    rcases point_or n (xs := [x.Lo, x.Hi]) (fun r hr => by
      rcases List.mem_cons.1 hr with rfl | hr
      · exact l1
      · rw [List.mem_singleton] at hr; subst hr; exact l2) with h | ⟨h, X, eX, _, hXl, hXb⟩
    · exact .inl h
    · refine .inr ⟨h, ?_⟩
      match X, eX, hXl, hXb with
      | [a, b], eX, _, hXb =>
        simp only [List.map_cons, List.map_nil, List.cons.injEq, and_true] at eX
        exact ⟨a, b, rawC_inj eX.1, rawC_inj eX.2, hXb a (by simp), hXb b (by simp)⟩
      | [], _, hXl, _ => simp at hXl
      | [a], _, hXl, _ => simp at hXl
      | a :: b :: c :: l, _, hXl, _ => simp at hXl
  have L := loopG_all (O := tab (n + 1)) (P := Tryz.prog) (m := 0) (N := 40) (lives := livesOf 40) (r := 2) (C := bxR_C2) (M := xs.length) (enc := bxR_h2 xs) (p := fun i => tv (∀ x, xs[i]? = some x → run n 24 [.sl 3 [rawC x.Lo, rawC x.Hi]] = some (.lit (.bool true)) ∧ ¬ 0 < sgR (x.Lo.q - x.Hi.q))) (exN := .exit 0) (exE := .ret) (out := bxR_o2b xs) (outE := bxR_o2a xs) (by omega) (fun h => by cases h) (fun h => by cases h)
    (fun i hi _ => by
      have hx : xs[i]? = some xs[i] := List.getElem?_eq_getElem hi
      obtain ⟨x, ht⟩ : ∃ x, xs[i] = x := ⟨_, rfl⟩
      rw [ht] at hx
      have hm : x ∈ xs := List.mem_of_getElem? hx
      have rb : (∃ a b, x.Lo = rawQ a ∧ x.Hi = rawQ b ∧ H a ≤ 2 ∧ H b ≤ 2) → RawB x.Lo ∧ RawB x.Hi := fun ⟨a, b, e1, e2, h1, h2⟩ => by
        rw [e1, e2]
        exact ⟨rawB_q (by omega), rawB_q (by omega)⟩
      refine ⟨fun hp' => ?_, fun hp' => ?_⟩
      · obtain ⟨a1, a2⟩ := tv_true hp' x hx
        rcases hp x hm with h | ⟨h, h2⟩
        · rw [h] at a1; cases a1
        · exact bxR_r2_1 (by omega) hx h rfl (rb h2).1 (rb h2).2 a2 ⟨by omega, by omega⟩
      · have hq := tv_false hp'
        rcases hp x hm with h | ⟨h, h2⟩
        · exact bxR_x2_1 (by omega) hx h rfl
        · refine bxR_x2_2 (by omega) hx h rfl (rb h2).1 (rb h2).2 ?_
          refine Classical.byContradiction fun h9 => hq fun x' hx' => ?_
          rw [hx] at hx'; cases hx'
          exact ⟨h, h9⟩)
    (bxR_x2_3 (by omega))
  by_cases hA : ∀ i, i < xs.length → tv (∀ x, xs[i]? = some x → run n 24 [.sl 3 [rawC x.Lo, rawC x.Hi]] = some (.lit (.bool true)) ∧ ¬ 0 < sgR (x.Lo.q - x.Hi.q)) = true
  · rw [if_pos hA] at L
    have R := bxR_f2 L
    by_cases h8 : (xs.length : Int) ≤ 8
    · rw [decide_eq_true h8] at R
      have good : ∀ x ∈ xs, ∃ a b, x.Lo = rawQ a ∧ x.Hi = rawQ b ∧ H a ≤ 2 ∧ H b ≤ 2 ∧ a ≤ b := fun x hx => by
        obtain ⟨i, hi⟩ := List.mem_iff_getElem?.1 hx
        obtain ⟨a1, a2⟩ := tv_true (hA i (List.getElem?_eq_some_iff.1 hi).1) x hi
        rcases hp x hx with h | ⟨h, a, b, e1, e2, h1, h2⟩
        · rw [h] at a1; cases a1
        · refine ⟨a, b, e1, e2, h1, h2, ?_⟩
          rw [e1, e2, rawQ_q, rawQ_q] at a2
          have k := @sgq_pos (a - b)
          have : ¬ 0 < a - b := fun h9 => a2 (k.2 h9)
          grind
      refine .inr ⟨R, xs.map fun x => ⟨x.Lo.q, x.Hi.q⟩, ?_, by rw [List.length_map]; omega, ?_, ?_, ?_⟩
      · rw [List.map_map]
        apply List.map_congr_left
        intro x hx
        obtain ⟨a, b, e1, e2, _⟩ := good x hx
        have q1 : rawQ x.Lo.q = x.Lo := by rw [e1, rawQ_q]
        have q2 : rawQ x.Hi.q = x.Hi := by rw [e2, rawQ_q]
        simp only [Function.comp, intervalRC, intervalC]
        rw [q1, q2]
      · intro y hy
        obtain ⟨x, hx, rfl⟩ := List.mem_map.1 hy
        obtain ⟨a, b, e1, e2, h1, h2, h3⟩ := good x hx
        dsimp only; rw [e1, rawQ_q]; exact h1
      · intro y hy
        obtain ⟨x, hx, rfl⟩ := List.mem_map.1 hy
        obtain ⟨a, b, e1, e2, h1, h2, h3⟩ := good x hx
        dsimp only; rw [e2, rawQ_q]; exact h2
      · intro y hy
        obtain ⟨x, hx, rfl⟩ := List.mem_map.1 hy
        obtain ⟨a, b, e1, e2, h1, h2, h3⟩ := good x hx
        dsimp only; rw [e1, e2, rawQ_q, rawQ_q]; exact h3
    · rw [decide_eq_false h8] at R
      exact .inl R
  · rw [if_neg hA] at L
    exact .inl (bxR_f1 L)
end Go.Proofs.YthkkmokbjmempaaGreatDoor
