/- Structs as abstract values. -/
import Derived.Test.YtlpmemelhlnfbaaGreatDoorUa
set_option linter.all false
set_option linter.all false
namespace Go.Proofs.YtlpmemelhlnfbaaGreatDoor
open Go.RowKit

@[simp] theorem z0s : (rawQ 0).s = false := rfl
@[simp] theorem z0n : natA (rawQ 0).l1 = .sl 1 [] := by
  have e : (rawQ 0).l1 = [] := by decide +kernel
  rw [e]; rfl
@[simp] theorem z0d : natA (rawQ 0).l2 = .sl 1 [] := by
  have e : (rawQ 0).l2 = [] := by decide +kernel
  rw [e]; rfl
@[simp] def ratV (q : Rat) : AV := .agg [.lit (.bool (rawQ q).s), natA (rawQ q).l1, natA (rawQ q).l2]
@[simp] def formV (f : Form) : AV := .agg [.sl 4 (f.1.map termC), .lit (.bool (rawQ f.2).s), natA (rawQ f.2).l1, natA (rawQ f.2).l2]
attribute [simp] ratC termC formC loopsOf roomy_s
/-- the absolute value -/
def absQ (q : Rat) : Rat := if q.num < 0 then -q else q
theorem neg_nm (q : Rat) : (-q).num = -q.num := rfl
theorem neg_dn (q : Rat) : (-q).den = q.den := rfl
theorem absQ_raw (q : Rat) : rawQ (absQ q) = ⟨false, (rawQ q).l1, (rawQ q).l2⟩ := by
  by_cases h : q.num < 0
  · have e : absQ q = -q := if_pos h
    have e2 : decide (-q.num < 0) = false := decide_eq_false (by omega)
    rw [e]
    unfold rawQ
    rw [neg_nm, neg_dn, Int.natAbs_neg, e2]
  · have e : absQ q = q := if_neg h
    have e2 : decide (q.num < 0) = false := decide_eq_false h
    rw [e]
    unfold rawQ
    rw [e2]
@[simp] theorem absQ_s (q : Rat) : (rawQ (absQ q)).s = false := by rw [absQ_raw]
@[simp] theorem absQ_n (q : Rat) : (rawQ (absQ q)).l1 = (rawQ q).l1 := by rw [absQ_raw]
@[simp] theorem absQ_d (q : Rat) : (rawQ (absQ q)).l2 = (rawQ q).l2 := by rw [absQ_raw]
theorem absQ_H (q : Rat) : H (absQ q) = H q := by
  unfold absQ
  split
  · unfold H
    rw [neg_nm, neg_dn, Int.natAbs_neg]
  · rfl
/-- an integer that an int holds -/
def InI (z : Int) : Prop := -9223372036854775808 ≤ z ∧ z ≤ 9223372036854775807
theorem r_valid {p : Rat} (hp : H p ≤ 17179869184) : fValid [.agg [.lit (.bool (rawQ p).s), natA (rawQ p).l1, natA (rawQ p).l2]] = some (.lit (.bool true)) := by
  unfold fValid
  rw [o1_agg hp]
  have e : RatV (rawQ p).s (rawQ p).l1 (rawQ p).l2 := by
    have h : sv (rawQ p).s (rawQ p).l1 (rawQ p).l2 = p := rawQ_q p
    unfold RatV
    rw [h]
    exact ⟨rfl, rfl, rfl⟩
  simp [e]
@[simp] def intI64C (z : Int) : List AV := [.lit (.int .i64 z)]
@[simp] def intU8C (z : Int) : List AV := [.lit (.int .u8 z)]
@[simp] def intU32C (z : Int) : List AV := [.lit (.int .u32 z)]
@[simp] def boolC (b : Bool) : List AV := [.lit (.bool b)]
@[simp] def strC (s : ByteArray) : List AV := [.lit (.string s)]
/-- a quotient of integers, an integer -/
def fracQ (x y : Int) : Rat := (x : Rat) / (y : Rat)
def ofQ (z : Int) : Rat := (z : Rat)
theorem r_frac {x y : Int} (hx : -9223372036854775808 ≤ x ∧ x ≤ 9223372036854775807) (hy : -9223372036854775808 ≤ y ∧ y ≤ 9223372036854775807) (h0 : y ≠ 0) :
    fFrac [.lit (.int .i64 x), .lit (.int .i64 y)] = some (.tup [.agg [.lit (.bool (rawQ (fracQ x y)).s), natA (rawQ (fracQ x y)).l1, natA (rawQ (fracQ x y)).l2], .lit (.int .i64 0)]) := if_pos ⟨hx, hy, h0⟩
theorem r_ofq {z : Int} (h1 : -9223372036854775808 ≤ z) (h2 : z ≤ 9223372036854775807) : fOf [.lit (.int .i64 z)] = some (.agg [.lit (.bool (rawQ (ofQ z)).s), natA (rawQ (ofQ z)).l1, natA (rawQ (ofQ z)).l2]) := r_of h1 h2
@[simp] theorem okE_ratC (l : List Rat) : okEls 3 (l.map ratC) = true := okEls_map (fun x => by simp) l
@[simp] theorem okE_termC (l : List (Int × Rat)) : okEls 4 (l.map termC) = true := okEls_map (fun x => by simp) l
@[simp] theorem okE_formC (l : List Form) : okEls 4 (l.map formC) = true := okEls_map (fun x => by simp) l
@[simp] theorem okE_intI64C (l : List Int) : okEls 1 (l.map intI64C) = true := okEls_map (fun x => by simp) l
@[simp] theorem okE_intU8C (l : List Int) : okEls 1 (l.map intU8C) = true := okEls_map (fun x => by simp) l
@[simp] theorem okE_boolC (l : List Bool) : okEls 1 (l.map boolC) = true := okEls_map (fun x => by simp) l
@[simp] theorem okE_strC (l : List ByteArray) : okEls 1 (l.map strC) = true := okEls_map (fun x => by simp) l
section
variable {α β γ : Type} {P : Program} {O : FuncId → Option Orc} {m N : Nat} {lives : Nat → List Nat} {r : Nat} {C : Code} {M : Nat} {L : List α} {enc : Nat → β → St} {exN exE : Ex}
/-- a loop from a state at its head -/
noncomputable def loopG (P : Program) (O : FuncId → Option Orc) (m N : Nat) (lives : Nat → List Nat) (r : Nat) (C : Code) (e : St) : Option (Ex × St) :=
  match (match exec P O m N lives big C e with
    | some (.nrm, s') => loopS m (exec P O m N lives big C) (lives r) 4294967295 s'
    | x => x) with
  | some (ex, s') => (match gc m (lives (outOf r)) s' with | some s2 => some (ex, s2) | none => none)
  | none => none
theorem loopX_G {C' : Code} {s e : St} (hC : C = C') (hg : gc m (lives r) s = some e) : loopX P O m N lives big r C s = loopG P O m N lives r C' e := by
  subst hC
  unfold loopX loopG
  have hb : loopS m (exec P O m N lives big C) (lives r) big s = loopS m (exec P O m N lives big C) (lives r) (4294967295 + 1) s := rfl
  rw [hb, loopS, hg]
  dsimp only
  cases exec P O m N lives big C e with
  | none => rfl
  | some p =>
    obtain ⟨ex, s1⟩ := p
    cases ex <;> rfl
theorem loopS_Q {live outL : List Nat} {step : St → Option (Ex × St)} {Inv : Nat → β → Prop} {Q : Ex → St → Prop}
    (hstep : ∀ i b, i < M → Inv i b → (∃ b', Cont m step live (enc i b) (enc (i + 1) b') ∧ Inv (i + 1) b') ∨ (∃ ex t, ex ≠ .nrm ∧ Leave m step outL (enc i b) ex t ∧ Q ex t))
    (hend : ∀ b, Inv M b → ∃ ex t, ex ≠ .nrm ∧ Leave m step outL (enc M b) ex t ∧ Q ex t) :
    ∀ (k i n : Nat) (b : β), i + k = M → k ≤ n → Inv i b → ∃ ex s' t, (match step (enc i b) with | some (.nrm, s') => loopS m step live n s' | x => x) = some (ex, s') ∧ gc m outL s' = some t ∧ Q ex t
  | 0, i, n, b, hi, hn, hI => by
    obtain rfl : i = M := by omega
    obtain ⟨ex, t, h0, ⟨s', h1, h2⟩, h3⟩ := hend b hI
    refine ⟨ex, s', t, ?_, h2, h3⟩
    rw [h1]
    cases ex <;> first | exact absurd rfl h0 | rfl
  | k + 1, i, n, b, hi, hn, hI => by
    rcases hstep i b (by omega) hI with ⟨b', ⟨s1, h1, h2⟩, h3⟩ | ⟨ex, t, h0, ⟨s', h1, h2⟩, h3⟩
    · obtain ⟨ex, s', t, h4, h5, h6⟩ := loopS_Q hstep hend k (i + 1) (n - 1) b' (by omega) (by omega) h3
      refine ⟨ex, s', t, ?_, h5, h6⟩
      rw [h1]
      have e : n = (n - 1) + 1 := by omega
      rw [e]
      dsimp only
      rw [loopS, h2]
      exact h4
    · refine ⟨ex, s', t, ?_, h2, h3⟩
      rw [h1]
      cases ex <;> first | exact absurd rfl h0 | rfl
/-- a loop with an invariant that may end early -/
theorem loopG_Q (Inv : Nat → β → Prop) (Q : Ex → St → Prop) (b : β) (hI : Inv 0 b) (hn : M ≤ 4294967295)
    (hstep : ∀ i b, i < M → Inv i b → (∃ b', Cont m (exec P O m N lives big C) (lives r) (enc i b) (enc (i + 1) b') ∧ Inv (i + 1) b') ∨ (∃ ex t, ex ≠ .nrm ∧ Leave m (exec P O m N lives big C) (lives (outOf r)) (enc i b) ex t ∧ Q ex t))
    (hend : ∀ b, Inv M b → ∃ ex t, ex ≠ .nrm ∧ Leave m (exec P O m N lives big C) (lives (outOf r)) (enc M b) ex t ∧ Q ex t) :
    ∃ ex t, loopG P O m N lives r C (enc 0 b) = some (ex, t) ∧ Q ex t := by
  obtain ⟨ex, s', t, h1, h2, h3⟩ := loopS_Q hstep hend M 0 4294967295 b (by omega) hn hI
  refine ⟨ex, t, ?_, h3⟩
  unfold loopG
  rw [h1]
  simp only [h2]
/-- a loop with an invariant -/
theorem loopG_R (Inv : Nat → β → Prop) {out : β → St} (b : β) (hI : Inv 0 b) (hn : M ≤ 4294967295) (hN : exN ≠ .nrm)
    (hstep : ∀ i b, i < M → Inv i b → ∃ b', Cont m (exec P O m N lives big C) (lives r) (enc i b) (enc (i + 1) b') ∧ Inv (i + 1) b')
    (hend : ∀ b, Inv M b → Leave m (exec P O m N lives big C) (lives (outOf r)) (enc M b) exN (out b)) :
    ∃ b', loopG P O m N lives r C (enc 0 b) = some (exN, out b') ∧ Inv M b' := by
  obtain ⟨ex, t, h1, b', rfl, rfl, h3⟩ := loopG_Q (m := m) (C := C) (P := P) (O := O) (N := N) Inv (fun ex t => ∃ b', ex = exN ∧ t = out b' ∧ Inv M b') b hI hn (fun i b hi hI => .inl (hstep i b hi hI)) (fun b hI => ⟨exN, out b, hN, hend b hI, b, rfl, rfl, hI⟩)
  exact ⟨b', h1, h3⟩
/-- a loop over a list that may end early -/
theorem loopG_E {f : Nat → β → α → Except γ β} {out : β → St} {outE : γ → St} {Inv : Nat → β → Prop} (b : β) (hI : Inv 0 b) (hn : L.length ≤ 4294967295) (hN : exN ≠ .nrm) (hE : exE ≠ .nrm)
    (hstep : ∀ i x b, L[i]? = some x → Inv i b → match f i b x with
      | .ok b' => Cont m (exec P O m N lives big C) (lives r) (enc i b) (enc (i + 1) b') ∧ Inv (i + 1) b'
      | .error c => Leave m (exec P O m N lives big C) (lives (outOf r)) (enc i b) exE (outE c))
    (hend : ∀ b, Inv L.length b → Leave m (exec P O m N lives big C) (lives (outOf r)) (enc L.length b) exN (out b)) :
    loopG P O m N lives r C (enc 0 b) = some (endE (foldE f 0 b L) exN out exE outE) ∧ ∀ b', foldE f 0 b L = .ok b' → Inv L.length b' := by
  obtain ⟨ex, t, h1, h2, h3⟩ := loopG_Q (m := m) (C := C) (P := P) (O := O) (N := N) (lives := lives) (r := r) (enc := enc) (M := L.length) (fun i b' => Inv i b' ∧ foldE f i b' (L.drop i) = foldE f 0 b L)
    (fun ex t => (ex, t) = endE (foldE f 0 b L) exN out exE outE ∧ ∀ b', foldE f 0 b L = .ok b' → Inv L.length b') b ⟨hI, rfl⟩ hn
    (fun i b' hi ⟨hI, hf⟩ => by
      have hx : L[i]? = some L[i] := List.getElem?_eq_getElem hi
      have hd : L.drop i = L[i] :: L.drop (i + 1) := List.drop_eq_getElem_cons hi
      have h4 := hstep i _ b' hx hI
      rw [hd, foldE] at hf
      split at h4
      · rename_i b2 he
        rw [he] at hf
        exact .inl ⟨b2, h4.1, h4.2, hf⟩
      · rename_i c he
        rw [he] at hf
        exact .inr ⟨exE, outE c, hE, h4, by rw [← hf]; rfl, fun b' h => by rw [← hf] at h; cases h⟩)
    (fun b' ⟨hI, hf⟩ => by
      rw [List.drop_length, foldE] at hf
      exact ⟨exN, out b', hN, hend b' hI, by rw [← hf]; rfl, fun b2 h => by rw [← hf] at h; cases h; exact hI⟩)
  rw [h1, h2]
  exact ⟨rfl, h3⟩
/-- a loop over a list -/
theorem loopG_I {f : Nat → β → α → β} {out : β → St} {Inv : Nat → β → Prop} (b : β) (hI : Inv 0 b) (hn : L.length ≤ 4294967295) (hN : exN ≠ .nrm)
    (hstep : ∀ i x b, L[i]? = some x → Inv i b → Cont m (exec P O m N lives big C) (lives r) (enc i b) (enc (i + 1) (f i b x)) ∧ Inv (i + 1) (f i b x))
    (hend : ∀ b, Inv L.length b → Leave m (exec P O m N lives big C) (lives (outOf r)) (enc L.length b) exN (out b)) :
    loopG P O m N lives r C (enc 0 b) = some (exN, out (foldI f 0 b L)) ∧ Inv L.length (foldI f 0 b L) := by
  have key : ∀ (R : List α) (i : Nat) (b : β), foldE (γ := Empty) (fun i b x => .ok (f i b x)) i b R = .ok (foldI f i b R) := fun R => by
    induction R with
    | nil => intro i b; rfl
    | cons x R ih => intro i b; exact ih (i + 1) (f i b x)
  have h := loopG_E (γ := Empty) (f := fun i b x => .ok (f i b x)) (exE := .ret) (outE := fun c => c.elim) (P := P) (O := O) (m := m) (N := N) (lives := lives) (r := r) (C := C) b hI hn hN (fun h => by cases h) hstep hend
  rw [key] at h
  exact ⟨h.1, h.2 _ rfl⟩
end
/-- the head's state does not change, and the loop ends early where p fails -/
theorem loopG_all {P : Program} {O : FuncId → Option Orc} {m N : Nat} {lives : Nat → List Nat} {r : Nat} {C : Code} {M : Nat} {enc : Nat → St} {p : Nat → Bool} {exN exE : Ex} {out outE : St} (hn : M ≤ 4294967295) (hN : exN ≠ .nrm) (hE : exE ≠ .nrm)
    (hstep : ∀ i, i < M → (∀ j, j < i → p j = true) → (p i = true → Cont m (exec P O m N lives big C) (lives r) (enc i) (enc (i + 1))) ∧ (p i = false → Leave m (exec P O m N lives big C) (lives (outOf r)) (enc i) exE outE))
    (hend : Leave m (exec P O m N lives big C) (lives (outOf r)) (enc M) exN out) :
    loopG P O m N lives r C (enc 0) = some (if ∀ i, i < M → p i = true then (exN, out) else (exE, outE)) := by
  obtain ⟨ex, t, h1, h2⟩ := loopG_Q (β := Unit) (m := m) (C := C) (P := P) (O := O) (N := N) (lives := lives) (r := r) (M := M) (enc := fun i _ => enc i) (fun i _ => ∀ j, j < i → p j = true) (fun ex t => (ex, t) = if ∀ i, i < M → p i = true then (exN, out) else (exE, outE)) () (fun j hj => absurd hj (by omega)) hn
    (fun i b hi hI => by
      cases hp : p i with
      | true => exact .inl ⟨(), (hstep i hi hI).1 hp, fun j hj => by rcases Nat.lt_succ_iff_lt_or_eq.1 hj with h | rfl; exact hI j h; exact hp⟩
      | false =>
        refine .inr ⟨exE, outE, hE, (hstep i hi hI).2 hp, ?_⟩
        rw [if_neg]
        intro h
        rw [h i hi] at hp; cases hp)
    (fun b hI => ⟨exN, out, hN, hend, by rw [if_pos hI]⟩)
  rw [h1, h2]
/-- a number, canonical or not, that a call takes -/
structure RawB (r : Raw) : Prop where
  n : Lim r.l1
  d : Lim r.l2
  bn : r.l1.length ≤ 17179869184
  bd : r.l2.length ≤ 17179869184
theorem RawB.few {r : Raw} (h : RawB r) : r.few = true := by
  unfold Raw.few
  rw [Bool.and_eq_true]
  exact ⟨Nat.ble_eq_true_of_le h.bn, Nat.ble_eq_true_of_le h.bd⟩
theorem rawB_q {q : Rat} (h : H q ≤ 17179869184) : RawB (rawQ q) := by
  have a1 : (lmb q.num.natAbs).length ≤ H q := Nat.le_max_left _ _
  have a2 : (dlmb q.den).length ≤ H q := Nat.le_trans (dlmb_len _) (Nat.le_max_right _ _)
  exact ⟨lim_lmb _, lim_dlmb _, Nat.le_trans a1 h, Nat.le_trans a2 h⟩
theorem rr_1 {F : Raw → AV} {r : Raw} (h : RawB r) : o1 F [.agg [.lit (.bool r.s), natA r.l1, natA r.l2]] = some (F r) := by
  have h1 : decR (.agg [.lit (.bool r.s), natA r.l1, natA r.l2]) = some r := decR_av h.n h.d
  simp only [o1, h1, h.few, if_true]
theorem rr_2 {F : Raw → Raw → AV} {x y : Raw} (h : RawB x) (g : RawB y) : o2 F [.agg [.lit (.bool x.s), natA x.l1, natA x.l2], .agg [.lit (.bool y.s), natA y.l1, natA y.l2]] = some (F x y) := by
  have h1 : decR (.agg [.lit (.bool x.s), natA x.l1, natA x.l2]) = some x := decR_av h.n h.d
  have h2 : decR (.agg [.lit (.bool y.s), natA y.l1, natA y.l2]) = some y := decR_av g.n g.d
  simp only [o2, h1, h2, h.few, g.few, Bool.and_self, if_true]
theorem rr_valid {r : Raw} (h : RawB r) : fValid [.agg [.lit (.bool r.s), natA r.l1, natA r.l2]] = some (.lit (.bool (decide (RatV r.s r.l1 r.l2)))) := rr_1 h
theorem rr_sign {r : Raw} (h : RawB r) : fSign [.agg [.lit (.bool r.s), natA r.l1, natA r.l2]] = some (.lit (.int .i64 (sgR r.q))) := rr_1 h
theorem rr_canon {r : Raw} (h : RawB r) : fCanon [.agg [.lit (.bool r.s), natA r.l1, natA r.l2]] = some (.agg [.lit (.bool (rawQ r.q).s), natA (rawQ r.q).l1, natA (rawQ r.q).l2]) := rr_1 h
theorem rr_neg {r : Raw} (h : RawB r) : fNeg [.agg [.lit (.bool r.s), natA r.l1, natA r.l2]] = some (.agg [.lit (.bool (rawQ (-r.q)).s), natA (rawQ (-r.q)).l1, natA (rawQ (-r.q)).l2]) := rr_1 h
theorem rr_add {x y : Raw} (h : RawB x) (g : RawB y) : fAdd [.agg [.lit (.bool x.s), natA x.l1, natA x.l2], .agg [.lit (.bool y.s), natA y.l1, natA y.l2]] = some (.agg [.lit (.bool (rawQ (x.q + y.q)).s), natA (rawQ (x.q + y.q)).l1, natA (rawQ (x.q + y.q)).l2]) := rr_2 h g
theorem rr_sub {x y : Raw} (h : RawB x) (g : RawB y) : fSub [.agg [.lit (.bool x.s), natA x.l1, natA x.l2], .agg [.lit (.bool y.s), natA y.l1, natA y.l2]] = some (.agg [.lit (.bool (rawQ (x.q - y.q)).s), natA (rawQ (x.q - y.q)).l1, natA (rawQ (x.q - y.q)).l2]) := rr_2 h g
theorem rr_mul {x y : Raw} (h : RawB x) (g : RawB y) : fMul [.agg [.lit (.bool x.s), natA x.l1, natA x.l2], .agg [.lit (.bool y.s), natA y.l1, natA y.l2]] = some (.agg [.lit (.bool (rawQ (x.q * y.q)).s), natA (rawQ (x.q * y.q)).l1, natA (rawQ (x.q * y.q)).l2]) := rr_2 h g
theorem rr_cmp {x y : Raw} (h : RawB x) (g : RawB y) : fCmp [.agg [.lit (.bool x.s), natA x.l1, natA x.l2], .agg [.lit (.bool y.s), natA y.l1, natA y.l2]] = some (.lit (.int .i64 (sgR (x.q - y.q)))) := rr_2 h g
theorem rr_same {x y : Raw} (h : RawB x) (g : RawB y) : fSame [.agg [.lit (.bool x.s), natA x.l1, natA x.l2], .agg [.lit (.bool y.s), natA y.l1, natA y.l2]] = some (.lit (.bool (decide (x = y)))) := by
  unfold fSame
  rw [rr_2 h g]
  have e : decide (x.s = y.s ∧ x.l1 = y.l1 ∧ x.l2 = y.l2) = decide (x = y) := by
    apply decide_eq_decide.2
    obtain ⟨a, b, c⟩ := x
    obtain ⟨d, e, f⟩ := y
    simp
  rw [e]
theorem rr_same0 {r : Raw} (h : RawB r) : fSame [.agg [.lit (.bool r.s), natA r.l1, natA r.l2], .agg [.lit (.bool false), .sl 1 [], .sl 1 []]] = some (.lit (.bool (decide (r = rawQ 0)))) := by
  have h1 : decR (.agg [.lit (.bool r.s), natA r.l1, natA r.l2]) = some r := decR_av h.n h.d
  have h2 : decR (.agg [.lit (.bool false), .sl 1 [], .sl 1 []]) = some ⟨false, [], []⟩ := rfl
  have e : rawQ 0 = ⟨false, [], []⟩ := by decide +kernel
  have h3 : Raw.few ⟨false, [], []⟩ = true := rfl
  unfold fSame
  simp only [o2, h1, h2, h.few, h3, Bool.and_self, if_true, e]
  obtain ⟨a, b, c⟩ := r
  simp
@[simp] def rawC (r : Raw) : List AV := [.lit (.bool r.s), natA r.l1, natA r.l2]
@[simp] def termRC (t : Int × Raw) : List AV := [.lit (.int .i64 t.1), .lit (.bool t.2.s), natA t.2.l1, natA t.2.l2]
abbrev FormR := List (Int × Raw) × Raw
@[simp] def formRC (f : FormR) : List AV := [.sl 4 (f.1.map termRC), .lit (.bool f.2.s), natA f.2.l1, natA f.2.l2]
@[simp] theorem okE_rawC (l : List Raw) : okEls 3 (l.map rawC) = true := okEls_map (fun x => by simp) l
@[simp] theorem okE_termRC (l : List (Int × Raw)) : okEls 4 (l.map termRC) = true := okEls_map (fun x => by simp) l
@[simp] theorem okE_formRC (l : List FormR) : okEls 4 (l.map formRC) = true := okEls_map (fun x => by simp) l
structure TFeed where
  Raw : List Int
  At : Int
@[simp] def feedC (g : TFeed) : List AV := [.sl 1 (g.Raw.map intU8C), .lit (.int .i64 (g.At))]
@[simp] def feedV (g : TFeed) : AV := .agg [.sl 1 (g.Raw.map intU8C), .lit (.int .i64 (g.At))]
@[simp] theorem okE_feedC (l : List TFeed) : okEls 2 (l.map feedC) = true := okEls_map (fun x => by simp) l
structure Treader where
  s : ByteArray
  at_ : Int
  bad : Bool
@[simp] def readerC (g : Treader) : List AV := [.lit (.string g.s), .lit (.int .i64 (g.at_)), .lit (.bool g.bad)]
@[simp] def readerV (g : Treader) : AV := .agg [.lit (.string g.s), .lit (.int .i64 (g.at_)), .lit (.bool g.bad)]
@[simp] theorem okE_readerC (l : List Treader) : okEls 3 (l.map readerC) = true := okEls_map (fun x => by simp) l
structure TInt where
  Neg : Bool
  Mag : List Nat
@[simp] def intC (g : TInt) : List AV := [.lit (.bool g.Neg), natA g.Mag]
@[simp] def intV (g : TInt) : AV := .agg [.lit (.bool g.Neg), natA g.Mag]
@[simp] theorem okE_intC (l : List TInt) : okEls 2 (l.map intC) = true := okEls_map (fun x => by simp) l
structure TGraph where
  Inputs : Int
  Units : List Form
  Outputs : List Form
@[simp] def graphC (g : TGraph) : List AV := [.lit (.int .i64 (g.Inputs)), .sl 4 (g.Units.map formC), .sl 4 (g.Outputs.map formC)]
@[simp] def graphV (g : TGraph) : AV := .agg [.lit (.int .i64 (g.Inputs)), .sl 4 (g.Units.map formC), .sl 4 (g.Outputs.map formC)]
@[simp] theorem okE_graphC (l : List TGraph) : okEls 3 (l.map graphC) = true := okEls_map (fun x => by simp) l
structure TProgram where
  Vars : Int
  Rows : List Form
  Objective : Form
@[simp] def programC (g : TProgram) : List AV := [.lit (.int .i64 (g.Vars)), .sl 4 (g.Rows.map formC), .sl 4 (g.Objective.1.map termC), .lit (.bool (rawQ g.Objective.2).s), natA (rawQ g.Objective.2).l1, natA (rawQ g.Objective.2).l2]
@[simp] def programV (g : TProgram) : AV := .agg [.lit (.int .i64 (g.Vars)), .sl 4 (g.Rows.map formC), .sl 4 (g.Objective.1.map termC), .lit (.bool (rawQ g.Objective.2).s), natA (rawQ g.Objective.2).l1, natA (rawQ g.Objective.2).l2]
@[simp] theorem okE_programC (l : List TProgram) : okEls 6 (l.map programC) = true := okEls_map (fun x => by simp) l
end Go.Proofs.YtlpmemelhlnfbaaGreatDoor
