/- Rational numbers as abstract values; the calls on rational numbers as rows of a table of callees. -/
import Derived.Test.YtlpmemelhlnfbaaGreatDoorQ3
import Derived.Test.YtlpmemelhlnfbaaGreatDoorK5
import Derived.Test.YtlpmemelhlnfbaaGreatDoorK6
set_option linter.all false
namespace Go.Proofs.YtlpmemelhlnfbaaGreatDoor
open Go.RowKit

/-- limbs -/
def natA (l : List Nat) : AV := .sl 1 (l.map fun (x : Nat) => [.lit (.int .u32 (x : Int))])
/-- a number as it lies in memory, canonical or not -/
structure Raw where
  s : Bool
  l1 : List Nat
  l2 : List Nat
  deriving DecidableEq
def Raw.q (r : Raw) : Rat := sv r.s r.l1 r.l2
def Raw.av (r : Raw) : AV := .agg [.lit (.bool r.s), natA r.l1, natA r.l2]
/-- the canonical number -/
def rawQ (q : Rat) : Raw := ⟨decide (q.num < 0), lmb q.num.natAbs, dlmb q.den⟩
def ratA (q : Rat) : AV := (rawQ q).av
def limb1 : List AV → Option Nat
  | [.lit (.int .u32 z)] => if 0 ≤ z ∧ z < 4294967296 then some z.toNat else none
  | _ => none
def limbs : List (List AV) → Option (List Nat)
  | [] => some []
  | e :: l => match limb1 e, limbs l with
    | some x, some xs => some (x :: xs)
    | _, _ => none
def decN : AV → Option (List Nat)
  | .sl 1 es => limbs es
  | .nl _ => some []
  | .lit (.slice none 0 0) => some []
  | _ => none
def decR : AV → Option Raw
  | .agg [.lit (.bool s), a, b] => match decN a, decN b with
    | some l1, some l2 => some ⟨s, l1, l2⟩
    | _, _ => none
  | _ => none
theorem limbs_map {l : List Nat} (h : Lim l) : limbs (l.map fun (x : Nat) => [.lit (.int .u32 (x : Int))]) = some l := by
  induction l with
  | nil => rfl
  | cons x l ih =>
    have hx := lim_head h
    have e : limb1 [.lit (.int .u32 (x : Int))] = some x := by
      unfold limb1
      dsimp only
      rw [if_pos ⟨by omega, by omega⟩, Int.toNat_natCast]
    rw [List.map_cons, limbs, e, ih (lim_tail h)]
theorem decN_nat {l : List Nat} (h : Lim l) : decN (natA l) = some l := limbs_map h
theorem decR_av {r : Raw} (h1 : Lim r.l1) (h2 : Lim r.l2) : decR r.av = some r := by
  simp only [Raw.av, decR, decN_nat h1, decN_nat h2]
theorem lim_dlmb (d : Nat) : Lim (dlmb d) := by unfold dlmb; split; exact lim_nil; exact lim_lmb d
theorem decR_rat (q : Rat) : decR (ratA q) = some (rawQ q) := decR_av (lim_lmb _) (lim_dlmb _)
theorem rawQ_q (q : Rat) : (rawQ q).q = q := by
  have h : RatC (default : World) (rawQ q).s none (rawQ q).l1.length (rawQ q).l1.length none (rawQ q).l2.length (rawQ q).l2.length q → (rawQ q).q = q := fun h => h.sv_
  unfold Raw.q rawQ sv
  dsimp only
  rw [val_lmb]
  have e : dn (dlmb q.den) = q.den := dn_dlmb q.den_pos
  rw [e]
  have e2 : sgi (decide (q.num < 0)) q.num.natAbs = q.num := by
    unfold sgi
    by_cases h : q.num < 0
    · simp [h]; omega
    · simp [h]; omega
  rw [e2, Rat.mkRat_self]
section
variable {w : World} {ok : Nat → Nat → Prop}
theorem limbs_cells {es : List (List AV)} {l : List Nat} (h : limbs es = some l) : es.length = l.length ∧ Lim l ∧ ∀ (i : Nat) (x : Nat), l[i]? = some x → es[i]? = some [.lit (.int .u32 (x : Int))] := by
  induction es generalizing l with
  | nil => simp [limbs] at h; subst h; exact ⟨rfl, lim_nil, fun i x h => by simp at h⟩
  | cons e es ih =>
    simp only [limbs] at h
    split at h
    · rename_i x xs h1 h2
      cases h
      obtain ⟨h3, h4, h5⟩ := ih h2
      unfold limb1 at h1
      split at h1
      · rename_i z
        split at h1
        · rename_i hz
          cases h1
          refine ⟨by simp [h3], lim_cons (by omega) h4, fun i x hi => ?_⟩
          cases i with
          | zero =>
            simp at hi
            subst hi
            simp [Int.toNat_of_nonneg hz.1]
          | succ i => simpa using h5 i x (by simpa using hi)
        · cases h1
      · cases h1
    · cases h
theorem decN_sound {d : AV} {l : List Nat} {v : Value} (h : RepT w ok d v) (hd : decN d = some l) : ∃ a n c, v = .slice a n c ∧ LimR w a n c l := by
  unfold decN at hd
  split at hd
  · rename_i es
    obtain ⟨h1, h2, h3⟩ := limbs_cells hd
    cases h with
    | nil a c =>
      have : l = [] := List.eq_nil_of_length_eq_zero h1.symm
      subst this
      exact ⟨a, 0, c, rfl, LimR.nil w a c⟩
    | sl hk hc hm hh =>
      rename_i b o c
      refine ⟨_, _, c, rfl, h1.symm, hc, h2, fun h0 => ?_⟩
      have cell : ∀ i, i < es.length → w.cell? ⟨b, o + i, none⟩ = some (.int .u32 (l.getD i 0 : Nat)) := fun i hi => by
        have hil : i < l.length := by omega
        have hx : l[i]? = some l[i] := List.getElem?_eq_getElem hil
        have h4 := h3 i _ hx
        have h5 := hm i 0 _ _ h4 rfl
        have h6 := hh i 0 _ _ h4 rfl
        obtain ⟨u, hu⟩ := Option.isSome_iff_exists.1 h5.2
        rw [hu] at h6
        simp only [Nat.mul_one, Nat.add_zero] at hu
        cases h6
        rw [hu]
        simp [List.getD_eq_getElem?_getD, hx]
      exact ⟨b, o, rfl, cell_lt (cell 0 h0), cell⟩
  · cases hd
    cases h with
    | nl k => exact ⟨_, _, _, rfl, LimR.nil w _ _⟩
  · cases hd
    cases h with
    | lit v => exact ⟨_, _, _, rfl, LimR.nil w _ _⟩
  · cases hd
theorem decR_sound {d : AV} {r : Raw} {v : Value} (h : RepT w ok d v) (hd : decR d = some r) : ∃ a1 n1 c1 a2 n2 c2, v = .agg #[.bool r.s, .slice a1 n1 c1, .slice a2 n2 c2] ∧ LimR w a1 n1 c1 r.l1 ∧ LimR w a2 n2 c2 r.l2 := by
  unfold decR at hd
  split at hd
  · rename_i s a b
    split at hd
    · rename_i l1 l2 h1 h2
      cases hd
      cases h with
      | agg hn hh =>
        rename_i vs
        have g0 := hh 0 _ rfl
        have g1 := hh 1 _ rfl
        have g2 := hh 2 _ rfl
        obtain ⟨a1, n1, c1, e1, k1⟩ := decN_sound g1 h1
        obtain ⟨a2, n2, c2, e2, k2⟩ := decN_sound g2 h2
        refine ⟨a1, n1, c1, a2, n2, c2, ?_, k1, k2⟩
        have e0 : vs.getD 0 undef = .bool s := by
          generalize vs.getD 0 undef = x at g0
          cases g0; rfl
        congr 1
        apply Array.ext
        · simpa using hn
        · intro i hi1 hi2
          have h9 : i = 0 ∨ i = 1 ∨ i = 2 := by simp at hi2; omega
          have gd : vs.getD i undef = vs[i] := by rw [Array.getD_eq_getD_getElem?, Array.getElem?_eq_getElem hi1]; rfl
          rcases h9 with rfl | rfl | rfl
          · rw [← gd, e0]; rfl
          · rw [← gd, e1]; rfl
          · rw [← gd, e2]; rfl
    · cases hd
  · cases hd
/-- cells that hold limbs -/
def okU (w : World) (b o : Nat) : Prop := ∃ z, w.cell? ⟨b, o, none⟩ = some (.int .u32 z)
theorem natA_rep {a : Option Addr} {n c : Nat} {l : List Nat} (h : LimR w a n c l) : RepT w (okU w) (natA l) (.slice a n c) := by
  have hl := h.len
  subst hl
  by_cases h0 : l = []
  · subst h0; exact .nil a c
  · obtain ⟨b, o, rfl, hb, hc⟩ := h.cells (List.length_pos_iff.2 h0)
    have main : RepT w (okU w) (.sl 1 (l.map fun (x : Nat) => [.lit (.int .u32 (x : Int))])) (.slice (some ⟨b, o, none⟩) (l.map fun (x : Nat) => [AV.lit (.int .u32 (x : Int))]).length c) := by
      have cell : ∀ (i j : Nat) (e : List AV) (d : AV), (l.map fun (x : Nat) => [AV.lit (.int .u32 (x : Int))])[i]? = some e → e[j]? = some d → ∃ z, d = .lit (.int .u32 z) ∧ w.cell? ⟨b, o + i * 1 + j, none⟩ = some (.int .u32 z) := fun i j e d hi hj => by
        rw [List.getElem?_map] at hi
        cases hx : l[i]? with
        | none => rw [hx] at hi; cases hi
        | some x =>
          rw [hx] at hi
          cases hi
          have hlt := (List.getElem?_eq_some_iff.1 hx).1
          have hj0 : j = 0 := by have := (List.getElem?_eq_some_iff.1 hj).1; simp at this; omega
          subst hj0
          simp at hj
          refine ⟨x, hj.symm, ?_⟩
          rw [Nat.mul_one, Nat.add_zero, hc i hlt]
          simp [List.getD_eq_getElem?_getD, hx]
      refine .sl (fun e he => ?_) (by simpa using h.cap) (fun i j e d hi hj => ?_) (fun i j e d hi hj => ?_)
      · obtain ⟨x, _, rfl⟩ := List.mem_map.1 he; rfl
      · obtain ⟨z, _, h3⟩ := cell i j e d hi hj
        exact ⟨⟨z, h3⟩, by rw [h3]; rfl⟩
      · obtain ⟨z, rfl, h3⟩ := cell i j e d hi hj
        rw [h3]; exact .lit _
    rw [List.length_map] at main
    exact main
theorem agg3_rep {d0 d1 d2 : AV} {v0 v1 v2 : Value} (h0 : RepT w ok d0 v0) (h1 : RepT w ok d1 v1) (h2 : RepT w ok d2 v2) : RepT w ok (.agg [d0, d1, d2]) (.agg #[v0, v1, v2]) := by
  refine .agg rfl fun i d hi => ?_
  match i, hi with
  | 0, hi => cases hi; exact h0
  | 1, hi => cases hi; exact h1
  | 2, hi => cases hi; exact h2
  | i + 3, hi => simp at hi
theorem raw_rep {r : Raw} {a1 a2 : Option Addr} {n1 c1 n2 c2 : Nat} (h1 : LimR w a1 n1 c1 r.l1) (h2 : LimR w a2 n2 c2 r.l2) : RepT w (okU w) r.av (.agg #[.bool r.s, .slice a1 n1 c1, .slice a2 n2 c2]) := agg3_rep (.lit _) (natA_rep h1) (natA_rep h2)
theorem ratC_rep {s : Bool} {a1 a2 : Option Addr} {n1 c1 n2 c2 : Nat} {q : Rat} (h : RatC w s a1 n1 c1 a2 n2 c2 q) : RepT w (okU w) (ratA q) (.agg #[.bool s, .slice a1 n1 c1, .slice a2 n2 c2]) := by
  have e : s = (rawQ q).s := h.sign.out
  rw [e]
  exact raw_rep (r := rawQ q) h.num h.den
theorem okU_okN {w' : World} {d : AV} {v : Value} (h : RepT w' (okU w') d v) : RepT w' (okN ok w w') d v := h.mono (fun _ _ _ _ h => h) fun b o _ h1 _ => .inr (.inr h1)
end
def Raw.few (r : Raw) : Bool := Nat.ble r.l1.length 17179869184 && Nat.ble r.l2.length 17179869184
theorem Raw.few_parts {r : Raw} (h : r.few = true) : r.l1.length ≤ 17179869184 ∧ r.l2.length ≤ 17179869184 := by
  unfold Raw.few at h
  rw [Bool.and_eq_true] at h
  exact ⟨Nat.le_of_ble_eq_true h.1, Nat.le_of_ble_eq_true h.2⟩
/-- callees of one and of two numbers -/
def o1 (F : Raw → AV) : List AV → Option AV
  | [a] => match decR a with
    | some x => if x.few then some (F x) else none
    | none => none
  | _ => none
def o2 (F : Raw → Raw → AV) : List AV → Option AV
  | [a, b] => match decR a, decR b with
    | some x, some y => if x.few && y.few then some (F x y) else none
    | _, _ => none
  | _ => none
def Ret (d : AV) (w : World) (e : Ending) (w' : World) : Prop := ∃ v, e = .returned v ∧ RepT w' (okU w') d v ∧ Below w.heap.size w w'
theorem RetR.ret {q : Rat} {w w' : World} {e : Ending} (h : RetR q w e w') : Ret (ratA q) w e w' := by
  obtain ⟨s, a1, n1, c1, a2, n2, c2, rfl, h1, h2⟩ := h
  exact ⟨_, rfl, ratC_rep h1, h2⟩
theorem RetInt.ret {z : Int} {w w' : World} {e : Ending} (h : RetInt z w e w') : Ret (.lit (.int .i64 z)) w e w' := ⟨_, h.1, .lit _, h.2⟩
theorem RetB.ret {b : Bool} {w w' : World} {e : Ending} (h : RetB b w e w') : Ret (.lit (.bool b)) w e w' := ⟨_, h.1, .lit _, h.2⟩
theorem rv_list1 {R : AV → Value → Prop} {a : AV} {vs : Array Value} (h : RV R [a] vs.toList) : ∃ v, vs = #[v] ∧ R a v := by
  obtain ⟨h1, h2⟩ := h
  obtain ⟨u, h3, h4⟩ := h2 0 a rfl
  refine ⟨u, ?_, h4⟩
  apply Array.toList_inj.1
  match hv : vs.toList, h1 with
  | [x], _ => rw [hv] at h3; simp at h3; rw [h3]
theorem rv_list2 {R : AV → Value → Prop} {a b : AV} {vs : Array Value} (h : RV R [a, b] vs.toList) : ∃ v u, vs = #[v, u] ∧ R a v ∧ R b u := by
  obtain ⟨h1, h2⟩ := h
  obtain ⟨u, h3, h4⟩ := h2 0 a rfl
  obtain ⟨u', h5, h6⟩ := h2 1 b rfl
  refine ⟨u, u', ?_, h4, h6⟩
  apply Array.toList_inj.1
  match hv : vs.toList, h1 with
  | [x, y], _ => rw [hv] at h3 h5; simp at h3 h5; rw [h3, h5]
section
variable {P : Program} {f : FuncId}
theorem con_ret {args : List AV} {r : AV} (h : ∀ (w : World) (ok : Nat → Nat → Prop) (vs : Array Value), RV (RepT w ok) args vs.toList → Calls P f vs w (Ret r w)) : Con P f args r := fun w ok vs _ hv =>
  (h w ok vs hv).mono fun _ _ ⟨v, he, h1, h2⟩ => ⟨v, he, okU_okN h1, h2⟩
theorem con1 {F : Raw → AV} (h : ∀ (w : World) (x : Raw) (a1 a2 : Option Addr) (n1 c1 n2 c2 : Nat), LimR w a1 n1 c1 x.l1 → LimR w a2 n2 c2 x.l2 → n1 ≤ 17179869184 → n2 ≤ 17179869184 → Calls P f #[.agg #[.bool x.s, .slice a1 n1 c1, .slice a2 n2 c2]] w (Ret (F x) w)) :
    ∀ args r, o1 F args = some r → Con P f args r := by
  intro args r hr
  unfold o1 at hr
  split at hr
  · rename_i a
    split at hr
    · rename_i x hx
      split at hr
      · rename_i hfew
        cases hr
        obtain ⟨f1, f2⟩ := Raw.few_parts hfew
        refine con_ret fun w ok vs hv => ?_
        obtain ⟨v, rfl, hv1⟩ := rv_list1 hv
        obtain ⟨a1, n1, c1, a2, n2, c2, rfl, h1, h2⟩ := decR_sound hv1 hx
        exact h w x a1 a2 n1 c1 n2 c2 h1 h2 (by rw [← h1.len]; exact f1) (by rw [← h2.len]; exact f2)
      · cases hr
    · cases hr
  · cases hr
theorem con2 {F : Raw → Raw → AV} (h : ∀ (w : World) (x y : Raw) (a1 a2 a3 a4 : Option Addr) (n1 c1 n2 c2 n3 c3 n4 c4 : Nat), LimR w a1 n1 c1 x.l1 → LimR w a2 n2 c2 x.l2 → LimR w a3 n3 c3 y.l1 → LimR w a4 n4 c4 y.l2 → n1 ≤ 17179869184 → n2 ≤ 17179869184 → n3 ≤ 17179869184 → n4 ≤ 17179869184 →
      Calls P f #[.agg #[.bool x.s, .slice a1 n1 c1, .slice a2 n2 c2], .agg #[.bool y.s, .slice a3 n3 c3, .slice a4 n4 c4]] w (Ret (F x y) w)) :
    ∀ args r, o2 F args = some r → Con P f args r := by
  intro args r hr
  unfold o2 at hr
  split at hr
  · rename_i a b
    split at hr
    · rename_i x y hx hy
      split at hr
      · rename_i hfew
        cases hr
        rw [Bool.and_eq_true] at hfew
        obtain ⟨f1, f2⟩ := Raw.few_parts hfew.1
        obtain ⟨f3, f4⟩ := Raw.few_parts hfew.2
        refine con_ret fun w ok vs hv => ?_
        obtain ⟨v, u, rfl, hv1, hv2⟩ := rv_list2 hv
        obtain ⟨a1, n1, c1, a2, n2, c2, rfl, h1, h2⟩ := decR_sound hv1 hx
        obtain ⟨a3, n3, c3, a4, n4, c4, rfl, h3, h4⟩ := decR_sound hv2 hy
        exact h w x y a1 a2 a3 a4 n1 c1 n2 c2 n3 c3 n4 c4 h1 h2 h3 h4 (by rw [← h1.len]; exact f1) (by rw [← h2.len]; exact f2) (by rw [← h3.len]; exact f3) (by rw [← h4.len]; exact f4)
      · cases hr
    · cases hr
  · cases hr
end
/-- an integer as an argument -/
def oZ (F : Int → AV) : List AV → Option AV
  | [.lit (.int .i64 z)] => if -9223372036854775808 ≤ z ∧ z ≤ 9223372036854775807 then some (F z) else none
  | _ => none
def oZZ (F : Int → Int → AV) : List AV → Option AV
  | [.lit (.int .i64 x), .lit (.int .i64 y)] => if (-9223372036854775808 ≤ x ∧ x ≤ 9223372036854775807) ∧ (-9223372036854775808 ≤ y ∧ y ≤ 9223372036854775807) ∧ y ≠ 0 then some (F x y) else none
  | _ => none
end Go.Proofs.YtlpmemelhlnfbaaGreatDoor
