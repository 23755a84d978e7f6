/- Rational numbers as abstract values; the calls on rational numbers as rows of a table of callees. A feed of bytes as an abstract run: Feed.Next. The calls on rational numbers as a table of callees; tables grow by functions that are run abstractly. The program's calls on rational numbers that are run abstractly over further calls: Sub, Cmp. The calls on rational numbers as rows of the table of callees. -/
import Derived.Test.YtkakmdadnhjphaaGreatDoorQ3
import Derived.Test.YtkakmdadnhjphaaGreatDoorK5
import Derived.Test.YtkakmdadnhjphaaGreatDoorK6
import Derived.Test.YtkakmdadnhjphaaGreatDoorTy
import Derived.IntWalk
set_option linter.all false
namespace Go.Proofs.YtkakmdadnhjphaaGreatDoor
open Go.RowKit

/-- limbs -/
def natA (l : List Nat) : AV := .sl 1 (l.map fun (x : Nat) => [.lit (.int .u32 (x : Int))])
/-- a number as it lies in memory, canonical or not -/
structure Raw where
  s : Bool
  l1 : List Nat
  l2 : List Nat
  deriving DecidableEq
def Raw.q (r : Raw) : Rat := sv r.s r.l1 r.l2
def Raw.av (r : Raw) : AV := .agg [.lit (.bool r.s), natA r.l1, natA r.l2]
/-- the canonical number -/
def rawQ (q : Rat) : Raw := ⟨decide (q.num < 0), lmb q.num.natAbs, dlmb q.den⟩
def ratA (q : Rat) : AV := (rawQ q).av
def limb1 : List AV → Option Nat
  | [.lit (.int .u32 z)] => if 0 ≤ z ∧ z < 4294967296 then some z.toNat else none
  | _ => none
def limbs : List (List AV) → Option (List Nat)
  | [] => some []
  | e :: l => match limb1 e, limbs l with
    | some x, some xs => some (x :: xs)
    | _, _ => none
def decN : AV → Option (List Nat)
  | .sl 1 es => limbs es
  | .nl _ => some []
  | .lit (.slice none 0 0) => some []
  | _ => none
def decR : AV → Option Raw
  | .agg [.lit (.bool s), a, b] => match decN a, decN b with
    | some l1, some l2 => some ⟨s, l1, l2⟩
    | _, _ => none
  | _ => none
theorem limbs_map {l : List Nat} (h : Lim l) : limbs (l.map fun (x : Nat) => [.lit (.int .u32 (x : Int))]) = some l := by
  induction l with
  | nil => rfl
  | cons x l ih =>
    have hx := lim_head h
    have e : limb1 [.lit (.int .u32 (x : Int))] = some x := by
      unfold limb1
      dsimp only
      rw [if_pos ⟨by omega, by omega⟩, Int.toNat_natCast]
    rw [List.map_cons, limbs, e, ih (lim_tail h)]
theorem decN_nat {l : List Nat} (h : Lim l) : decN (natA l) = some l := limbs_map h
theorem decR_av {r : Raw} (h1 : Lim r.l1) (h2 : Lim r.l2) : decR r.av = some r := by
  simp only [Raw.av, decR, decN_nat h1, decN_nat h2]
theorem lim_dlmb (d : Nat) : Lim (dlmb d) := by unfold dlmb; split; exact lim_nil; exact lim_lmb d
theorem decR_rat (q : Rat) : decR (ratA q) = some (rawQ q) := decR_av (lim_lmb _) (lim_dlmb _)
theorem rawQ_q (q : Rat) : (rawQ q).q = q := by
  have h : RatC (default : World) (rawQ q).s none (rawQ q).l1.length (rawQ q).l1.length none (rawQ q).l2.length (rawQ q).l2.length q → (rawQ q).q = q := fun h => h.sv_
  unfold Raw.q rawQ sv
  dsimp only
  rw [val_lmb]
  have e : dn (dlmb q.den) = q.den := dn_dlmb q.den_pos
  rw [e]
  have e2 : sgi (decide (q.num < 0)) q.num.natAbs = q.num := by
    unfold sgi
    by_cases h : q.num < 0
    · simp [h]; omega
    · simp [h]; omega
  rw [e2, Rat.mkRat_self]
section
variable {w : World} {ok : Nat → Nat → Prop}
theorem limbs_cells {es : List (List AV)} {l : List Nat} (h : limbs es = some l) : es.length = l.length ∧ Lim l ∧ ∀ (i : Nat) (x : Nat), l[i]? = some x → es[i]? = some [.lit (.int .u32 (x : Int))] := by
  induction es generalizing l with
  | nil => simp [limbs] at h; subst h; exact ⟨rfl, lim_nil, fun i x h => by simp at h⟩
  | cons e es ih =>
    simp only [limbs] at h
    split at h
    · rename_i x xs h1 h2
      cases h
      obtain ⟨h3, h4, h5⟩ := ih h2
      unfold limb1 at h1
      split at h1
      · rename_i z
        split at h1
        · rename_i hz
          cases h1
          refine ⟨by simp [h3], lim_cons (by omega) h4, fun i x hi => ?_⟩
          cases i with
          | zero =>
            simp at hi
            subst hi
            simp [Int.toNat_of_nonneg hz.1]
          | succ i => simpa using h5 i x (by simpa using hi)
        · cases h1
      · cases h1
    · cases h
theorem decN_sound {d : AV} {l : List Nat} {v : Value} (h : RepT w ok d v) (hd : decN d = some l) : ∃ a n c, v = .slice a n c ∧ LimR w a n c l := by
  unfold decN at hd
  split at hd
  · rename_i es
    obtain ⟨h1, h2, h3⟩ := limbs_cells hd
    cases h with
    | nil a c =>
      have : l = [] := List.eq_nil_of_length_eq_zero h1.symm
      subst this
      exact ⟨a, 0, c, rfl, LimR.nil w a c⟩
    | sl hk hc hm hh =>
      rename_i b o c
      refine ⟨_, _, c, rfl, h1.symm, hc, h2, fun h0 => ?_⟩
      have cell : ∀ i, i < es.length → w.cell? ⟨b, o + i, none⟩ = some (.int .u32 (l.getD i 0 : Nat)) := fun i hi => by
        have hil : i < l.length := by omega
        have hx : l[i]? = some l[i] := List.getElem?_eq_getElem hil
        have h4 := h3 i _ hx
        have h5 := hm i 0 _ _ h4 rfl
        have h6 := hh i 0 _ _ h4 rfl
        obtain ⟨u, hu⟩ := Option.isSome_iff_exists.1 h5.2
        rw [hu] at h6
        simp only [Nat.mul_one, Nat.add_zero] at hu
        cases h6
        rw [hu]
        simp [List.getD_eq_getElem?_getD, hx]
      exact ⟨b, o, rfl, cell_lt (cell 0 h0), cell⟩
  · cases hd
    cases h with
    | nl k => exact ⟨_, _, _, rfl, LimR.nil w _ _⟩
  · cases hd
    cases h with
    | lit v => exact ⟨_, _, _, rfl, LimR.nil w _ _⟩
  · cases hd
theorem decR_sound {d : AV} {r : Raw} {v : Value} (h : RepT w ok d v) (hd : decR d = some r) : ∃ a1 n1 c1 a2 n2 c2, v = .agg #[.bool r.s, .slice a1 n1 c1, .slice a2 n2 c2] ∧ LimR w a1 n1 c1 r.l1 ∧ LimR w a2 n2 c2 r.l2 := by
  unfold decR at hd
  split at hd
  · rename_i s a b
    split at hd
    · rename_i l1 l2 h1 h2
      cases hd
      cases h with
      | agg hn hh =>
        rename_i vs
        have g0 := hh 0 _ rfl
        have g1 := hh 1 _ rfl
        have g2 := hh 2 _ rfl
        obtain ⟨a1, n1, c1, e1, k1⟩ := decN_sound g1 h1
        obtain ⟨a2, n2, c2, e2, k2⟩ := decN_sound g2 h2
        refine ⟨a1, n1, c1, a2, n2, c2, ?_, k1, k2⟩
        have e0 : vs.getD 0 undef = .bool s := by
          generalize vs.getD 0 undef = x at g0
          cases g0; rfl
        congr 1
        apply Array.ext
        · simpa using hn
        · intro i hi1 hi2
          have h9 : i = 0 ∨ i = 1 ∨ i = 2 := by simp at hi2; omega
          have gd : vs.getD i undef = vs[i] := by rw [Array.getD_eq_getD_getElem?, Array.getElem?_eq_getElem hi1]; rfl
          rcases h9 with rfl | rfl | rfl
          · rw [← gd, e0]; rfl
          · rw [← gd, e1]; rfl
          · rw [← gd, e2]; rfl
    · cases hd
  · cases hd
/-- cells that hold limbs -/
def okU (w : World) (b o : Nat) : Prop := ∃ z, w.cell? ⟨b, o, none⟩ = some (.int .u32 z)
theorem natA_rep {a : Option Addr} {n c : Nat} {l : List Nat} (h : LimR w a n c l) : RepT w (okU w) (natA l) (.slice a n c) := by
  have hl := h.len
  subst hl
  by_cases h0 : l = []
  · subst h0; exact .nil a c
  · obtain ⟨b, o, rfl, hb, hc⟩ := h.cells (List.length_pos_iff.2 h0)
    have main : RepT w (okU w) (.sl 1 (l.map fun (x : Nat) => [.lit (.int .u32 (x : Int))])) (.slice (some ⟨b, o, none⟩) (l.map fun (x : Nat) => [AV.lit (.int .u32 (x : Int))]).length c) := by
      have cell : ∀ (i j : Nat) (e : List AV) (d : AV), (l.map fun (x : Nat) => [AV.lit (.int .u32 (x : Int))])[i]? = some e → e[j]? = some d → ∃ z, d = .lit (.int .u32 z) ∧ w.cell? ⟨b, o + i * 1 + j, none⟩ = some (.int .u32 z) := fun i j e d hi hj => by
        rw [List.getElem?_map] at hi
        cases hx : l[i]? with
        | none => rw [hx] at hi; cases hi
        | some x =>
          rw [hx] at hi
          cases hi
          have hlt := (List.getElem?_eq_some_iff.1 hx).1
          have hj0 : j = 0 := by have := (List.getElem?_eq_some_iff.1 hj).1; simp at this; omega
          subst hj0
          simp at hj
          refine ⟨x, hj.symm, ?_⟩
          rw [Nat.mul_one, Nat.add_zero, hc i hlt]
          simp [List.getD_eq_getElem?_getD, hx]
      refine .sl (fun e he => ?_) (by simpa using h.cap) (fun i j e d hi hj => ?_) (fun i j e d hi hj => ?_)
      · obtain ⟨x, _, rfl⟩ := List.mem_map.1 he; rfl
      · obtain ⟨z, _, h3⟩ := cell i j e d hi hj
        exact ⟨⟨z, h3⟩, by rw [h3]; rfl⟩
      · obtain ⟨z, rfl, h3⟩ := cell i j e d hi hj
        rw [h3]; exact .lit _
    rw [List.length_map] at main
    exact main
theorem agg3_rep {d0 d1 d2 : AV} {v0 v1 v2 : Value} (h0 : RepT w ok d0 v0) (h1 : RepT w ok d1 v1) (h2 : RepT w ok d2 v2) : RepT w ok (.agg [d0, d1, d2]) (.agg #[v0, v1, v2]) := by
  refine .agg rfl fun i d hi => ?_
  match i, hi with
  | 0, hi => cases hi; exact h0
  | 1, hi => cases hi; exact h1
  | 2, hi => cases hi; exact h2
  | i + 3, hi => simp at hi
theorem raw_rep {r : Raw} {a1 a2 : Option Addr} {n1 c1 n2 c2 : Nat} (h1 : LimR w a1 n1 c1 r.l1) (h2 : LimR w a2 n2 c2 r.l2) : RepT w (okU w) r.av (.agg #[.bool r.s, .slice a1 n1 c1, .slice a2 n2 c2]) := agg3_rep (.lit _) (natA_rep h1) (natA_rep h2)
theorem ratC_rep {s : Bool} {a1 a2 : Option Addr} {n1 c1 n2 c2 : Nat} {q : Rat} (h : RatC w s a1 n1 c1 a2 n2 c2 q) : RepT w (okU w) (ratA q) (.agg #[.bool s, .slice a1 n1 c1, .slice a2 n2 c2]) := by
  have e : s = (rawQ q).s := h.sign.out
  rw [e]
  exact raw_rep (r := rawQ q) h.num h.den
theorem okU_okN {w' : World} {d : AV} {v : Value} (h : RepT w' (okU w') d v) : RepT w' (okN ok w w') d v := h.mono (fun _ _ _ _ h => h) fun b o _ h1 _ => .inr (.inr h1)
end
def Raw.few (r : Raw) : Bool := Nat.ble r.l1.length 17179869184 && Nat.ble r.l2.length 17179869184
theorem Raw.few_parts {r : Raw} (h : r.few = true) : r.l1.length ≤ 17179869184 ∧ r.l2.length ≤ 17179869184 := by
  unfold Raw.few at h
  rw [Bool.and_eq_true] at h
  exact ⟨Nat.le_of_ble_eq_true h.1, Nat.le_of_ble_eq_true h.2⟩
/-- callees of one and of two numbers -/
def o1 (F : Raw → AV) : List AV → Option AV
  | [a] => match decR a with
    | some x => if x.few then some (F x) else none
    | none => none
  | _ => none
def o2 (F : Raw → Raw → AV) : List AV → Option AV
  | [a, b] => match decR a, decR b with
    | some x, some y => if x.few && y.few then some (F x y) else none
    | _, _ => none
  | _ => none
def Ret (d : AV) (w : World) (e : Ending) (w' : World) : Prop := ∃ v, e = .returned v ∧ RepT w' (okU w') d v ∧ Below w.heap.size w w'
theorem RetR.ret {q : Rat} {w w' : World} {e : Ending} (h : RetR q w e w') : Ret (ratA q) w e w' := by
  obtain ⟨s, a1, n1, c1, a2, n2, c2, rfl, h1, h2⟩ := h
  exact ⟨_, rfl, ratC_rep h1, h2⟩
theorem RetInt.ret {z : Int} {w w' : World} {e : Ending} (h : RetInt z w e w') : Ret (.lit (.int .i64 z)) w e w' := ⟨_, h.1, .lit _, h.2⟩
theorem RetB.ret {b : Bool} {w w' : World} {e : Ending} (h : RetB b w e w') : Ret (.lit (.bool b)) w e w' := ⟨_, h.1, .lit _, h.2⟩
theorem rv_list1 {R : AV → Value → Prop} {a : AV} {vs : Array Value} (h : RV R [a] vs.toList) : ∃ v, vs = #[v] ∧ R a v := by
  obtain ⟨h1, h2⟩ := h
  obtain ⟨u, h3, h4⟩ := h2 0 a rfl
  refine ⟨u, ?_, h4⟩
  apply Array.toList_inj.1
  match hv : vs.toList, h1 with
  | [x], _ => rw [hv] at h3; simp at h3; rw [h3]
theorem rv_list2 {R : AV → Value → Prop} {a b : AV} {vs : Array Value} (h : RV R [a, b] vs.toList) : ∃ v u, vs = #[v, u] ∧ R a v ∧ R b u := by
  obtain ⟨h1, h2⟩ := h
  obtain ⟨u, h3, h4⟩ := h2 0 a rfl
  obtain ⟨u', h5, h6⟩ := h2 1 b rfl
  refine ⟨u, u', ?_, h4, h6⟩
  apply Array.toList_inj.1
  match hv : vs.toList, h1 with
  | [x, y], _ => rw [hv] at h3 h5; simp at h3 h5; rw [h3, h5]
section
variable {P : Program} {f : FuncId}
theorem con_ret {args : List AV} {r : AV} (h : ∀ (w : World) (ok : Nat → Nat → Prop) (vs : Array Value), RV (RepT w ok) args vs.toList → Calls P f vs w (Ret r w)) : Con P f args r := fun w ok vs _ hv =>
  (h w ok vs hv).mono fun _ _ ⟨v, he, h1, h2⟩ => ⟨v, he, okU_okN h1, h2⟩
theorem con1 {F : Raw → AV} (h : ∀ (w : World) (x : Raw) (a1 a2 : Option Addr) (n1 c1 n2 c2 : Nat), LimR w a1 n1 c1 x.l1 → LimR w a2 n2 c2 x.l2 → n1 ≤ 17179869184 → n2 ≤ 17179869184 → Calls P f #[.agg #[.bool x.s, .slice a1 n1 c1, .slice a2 n2 c2]] w (Ret (F x) w)) :
    ∀ args r, o1 F args = some r → Con P f args r := by
  intro args r hr
  unfold o1 at hr
  split at hr
  · rename_i a
    split at hr
    · rename_i x hx
      split at hr
      · rename_i hfew
        cases hr
        obtain ⟨f1, f2⟩ := Raw.few_parts hfew
        refine con_ret fun w ok vs hv => ?_
        obtain ⟨v, rfl, hv1⟩ := rv_list1 hv
        obtain ⟨a1, n1, c1, a2, n2, c2, rfl, h1, h2⟩ := decR_sound hv1 hx
        exact h w x a1 a2 n1 c1 n2 c2 h1 h2 (by rw [← h1.len]; exact f1) (by rw [← h2.len]; exact f2)
      · cases hr
    · cases hr
  · cases hr
theorem con2 {F : Raw → Raw → AV} (h : ∀ (w : World) (x y : Raw) (a1 a2 a3 a4 : Option Addr) (n1 c1 n2 c2 n3 c3 n4 c4 : Nat), LimR w a1 n1 c1 x.l1 → LimR w a2 n2 c2 x.l2 → LimR w a3 n3 c3 y.l1 → LimR w a4 n4 c4 y.l2 → n1 ≤ 17179869184 → n2 ≤ 17179869184 → n3 ≤ 17179869184 → n4 ≤ 17179869184 →
      Calls P f #[.agg #[.bool x.s, .slice a1 n1 c1, .slice a2 n2 c2], .agg #[.bool y.s, .slice a3 n3 c3, .slice a4 n4 c4]] w (Ret (F x y) w)) :
    ∀ args r, o2 F args = some r → Con P f args r := by
  intro args r hr
  unfold o2 at hr
  split at hr
  · rename_i a b
    split at hr
    · rename_i x y hx hy
      split at hr
      · rename_i hfew
        cases hr
        rw [Bool.and_eq_true] at hfew
        obtain ⟨f1, f2⟩ := Raw.few_parts hfew.1
        obtain ⟨f3, f4⟩ := Raw.few_parts hfew.2
        refine con_ret fun w ok vs hv => ?_
        obtain ⟨v, u, rfl, hv1, hv2⟩ := rv_list2 hv
        obtain ⟨a1, n1, c1, a2, n2, c2, rfl, h1, h2⟩ := decR_sound hv1 hx
        obtain ⟨a3, n3, c3, a4, n4, c4, rfl, h3, h4⟩ := decR_sound hv2 hy
        exact h w x y a1 a2 a3 a4 n1 c1 n2 c2 n3 c3 n4 c4 h1 h2 h3 h4 (by rw [← h1.len]; exact f1) (by rw [← h2.len]; exact f2) (by rw [← h3.len]; exact f3) (by rw [← h4.len]; exact f4)
      · cases hr
    · cases hr
  · cases hr
end
/-- an integer as an argument -/
def oZ (F : Int → AV) : List AV → Option AV
  | [.lit (.int .i64 z)] => if -9223372036854775808 ≤ z ∧ z ≤ 9223372036854775807 then some (F z) else none
  | _ => none
def oZZ (F : Int → Int → AV) : List AV → Option AV
  | [.lit (.int .i64 x), .lit (.int .i64 y)] => if (-9223372036854775808 ≤ x ∧ x ≤ 9223372036854775807) ∧ (-9223372036854775808 ≤ y ∧ y ≤ 9223372036854775807) ∧ y ≠ 0 then some (F x y) else none
  | _ => none
end Go.Proofs.YtkakmdadnhjphaaGreatDoor
set_option linter.all false
namespace Go.Proofs.YtkakmdadnhjphaaGreatDoor
open Go.RowKit

theorem wr64 {x : Int} (h0 : -9223372036854775808 ≤ x) (h1 : x ≤ 9223372036854775807) : IntKind.i64.wrap x = x := IntWalk.i64_in _ ⟨h0, h1⟩
/-- bytes -/
def bytesA (bs : List Int) : AV := .sl 1 (bs.map fun x => [.lit (.int .u8 x)])
/-- a feed of the bytes bs that has read k of them -/
def feedB (bs : List Int) (k : Nat) : AB := .box 192 [bytesA bs, .lit (.int .i64 (k : Int))] false
def noO : FuncId → Option Orc := fun _ => none
def noL : Nat → List Nat := fun _ => []
/-- bytes that are short -/
structure Byt (bs : List Int) : Prop where
  len : bs.length ≤ 1048576
  val : ∀ x ∈ bs, 0 ≤ x ∧ x < 256
/-- what Next returns, and how far the feed is then -/
def nextN (bs : List Int) (k : Nat) (n : Int) : Int × Nat :=
  match bs[k]? with
  | some x => (x % n, k + 1)
  | none => (0, k)
theorem nextN_lt {bs : List Int} {k : Nat} {n : Int} (hn : 0 < n) : 0 ≤ (nextN bs k n).1 ∧ (nextN bs k n).1 < n := by
  unfold nextN
  split
  · exact ⟨Int.emod_nonneg _ (by omega), Int.emod_lt_of_pos _ hn⟩
  · exact ⟨Int.le_refl _, hn⟩
theorem nextN_le {bs : List Int} {k : Nat} {n : Int} (hk : k ≤ bs.length) : (nextN bs k n).2 ≤ bs.length := by
  unfold nextN
  split
  · rename_i x hx
    have := (List.getElem?_eq_some_iff.1 hx).1
    dsimp only
    omega
  · exact hk
end Go.Proofs.YtkakmdadnhjphaaGreatDoor
set_option linter.all false
namespace Go.Proofs.YtkakmdadnhjphaaGreatDoor
open Go.RowKit

/-- one callee more -/
def ext (O : FuncId → Option Orc) (f : FuncId) (x : Orc) (g : FuncId) : Option Orc := if g = f then some x else O g
section
variable {P : Program} {O : FuncId → Option Orc} {f : FuncId}
theorem OrcOk.none : OrcOk P noO := ⟨fun f g h => (by cases h), fun f ms g h => (by cases h)⟩
theorem OrcOk.extP (h : OrcOk P O) (hp : plainF P f = true) {g : List AV → Option AV} (hc : ∀ args r, g args = some r → Con P f args r) : OrcOk P (ext O f (.pure g)) := by
  refine ⟨fun f' g' h' => ?_, fun f' ms g' h' => ?_⟩
  · unfold ext at h'
    split at h'
    · rename_i e; subst e; cases h'; exact ⟨hp, hc⟩
    · exact h.pure f' g' h'
  · unfold ext at h'
    split at h'
    · cases h'
    · exact h.lin f' ms g' h'
theorem OrcOk.extL (h : OrcOk P O) (hp : plainF P f = true) {ms : List Bool} {g : List AV → List AB → Option (AV × List (Nat × AB))} (hc : ∀ bin args r outs, g args bin = some (r, outs) → ConL P f bin args r outs) : OrcOk P (ext O f (.lin ms g)) := by
  refine ⟨fun f' g' h' => ?_, fun f' ms' g' h' => ?_⟩
  · unfold ext at h'
    split at h'
    · cases h'
    · exact h.pure f' g' h'
  · unfold ext at h'
    split at h'
    · rename_i e; subst e; cases h'; exact ⟨hp, hc⟩
    · exact h.lin f' ms' g' h'
/-- the function f, run abstractly over the table O -/
noncomputable def fnP (P : Program) (O : FuncId → Option Orc) (lives : Nat → List Nat) (fuel : Nat) (fn : Func) : List AV → Option AV := absFn P O lives fuel fn.ntmps fn.results.toList (bodyOf fn)
noncomputable def fnL (P : Program) (O : FuncId → Option Orc) (lives : Nat → List Nat) (fuel : Nat) (fn : Func) (keep : Bool) : List AV → List AB → Option (AV × List (Nat × AB)) := absL P O lives fuel fn.ntmps fn.results.toList (bodyOf fn) keep
theorem body_some {fn : Func} (h : plainF P f = true) (hf : P.funcs[f]? = some fn) : fn.body = some (bodyOf fn) := by
  unfold plainF at h
  rw [hf] at h
  simp only [Bool.and_eq_true] at h
  obtain ⟨c, hc⟩ := Option.isSome_iff_exists.1 h.2
  simp [bodyOf, hc]
theorem OrcOk.fnP (h : OrcOk P O) (hm : P.follows .mixedOrders = true) {fn : Func} (hf : P.funcs[f]? = some fn) (hp : plainF P f = true) (lives : Nat → List Nat) (fuel : Nat) : OrcOk P (ext O f (.pure (fnP P O lives fuel fn))) :=
  h.extP hp fun args r hr => con_of h hm hf (body_some hp hf) hr
theorem OrcOk.fnL (h : OrcOk P O) (hm : P.follows .mixedOrders = true) {fn : Func} (hf : P.funcs[f]? = some fn) (hp : plainF P f = true) (ms : List Bool) (lives : Nat → List Nat) (fuel : Nat) (keep : Bool) : OrcOk P (ext O f (.lin ms (fnL P O lives fuel fn keep))) :=
  h.extL hp fun bin args r outs hr => conL_of h hm hf (body_some hp hf) hr
end
theorem RetMk.ret {q : Rat} {w w' : World} {e : Ending} (h : RetMk q w e w') : Ret (.tup [ratA q, .lit (.int .i64 0)]) w e w' := by
  obtain ⟨s, a1, n1, c1, a2, n2, c2, rfl, h1, h2⟩ := h
  refine ⟨_, rfl, .tup rfl fun i d hi => ?_, h2⟩
  match i, hi with
  | 0, hi => cases hi; exact ratC_rep h1
  | 1, hi => cases hi; exact .lit _
  | i + 2, hi => simp at hi
theorem mixed : Tryz.prog.follows .mixedOrders = true := by kernel_rfl
theorem con_of_z : ∀ args r, oZ (fun z => ratA (z : Rat)) args = some r → Con Tryz.prog 35 args r := fun args r hr => by
  unfold oZ at hr
  split at hr
  · rename_i z
    split at hr
    · rename_i hz
      cases hr
      refine con_ret fun w ok vs hv => ?_
      obtain ⟨v, rfl, hv1⟩ := rv_list1 hv
      cases hv1
      exact (frof_any w z hz.1 hz.2).mono fun _ _ h => h.ret
    · cases hr
  · cases hr
theorem con_frac : ∀ args r, oZZ (fun x y => .tup [ratA ((x : Rat) / (y : Rat)), .lit (.int .i64 0)]) args = some r → Con Tryz.prog 55 args r := fun args r hr => by
  unfold oZZ at hr
  split at hr
  · rename_i x y
    split at hr
    · rename_i hz
      cases hr
      refine con_ret fun w ok vs hv => ?_
      obtain ⟨v, u, rfl, hv1, hv2⟩ := rv_list2 hv
      cases hv1
      cases hv2
      exact (frac_c w hz.1.1 hz.1.2 hz.2.1.1 hz.2.1.2 hz.2.2).mono fun _ _ h => h.ret
    · cases hr
  · cases hr
-- limbs, bytes and feeds are not looked into
@[simp] theorem natA_cellsOf (l : List Nat) : (natA l).cellsOf = some [natA l] := rfl
@[simp] theorem natA_notU (l : List Nat) : (natA l).notU = true := rfl
@[simp] theorem natA_isT (l : List Nat) : (natA l).isT = true := rfl
@[simp] theorem natA_refs (l : List Nat) : (natA l).refs = [] := rfl
@[simp] theorem natA_ren (ρ : Nat → Option Nat) (l : List Nat) : (natA l).ren ρ = natA l := rfl
@[simp] theorem natA_res (n : Nat) (l : List Nat) (k : AV → List Nat → Tr) : res n (natA l) k = k (natA l) [] := by cases n <;> rfl
@[simp] theorem natA_resN (n : Nat) (l : List Nat) (k : AV → List Nat → Tr) : resN n (natA l) k = k (natA l) [] := by cases n <;> rfl
@[simp] theorem natA_resA (n : Nat) (l : List Nat) (cs acc : List AV) (fa : List Nat) (k : List AV → List Nat → Tr) : resA (res n) (natA l :: cs) acc fa k = resA (res n) cs (acc ++ [natA l]) fa k := resA_stay (fun k => by cases n <;> rfl) _ _ _ _
@[simp] theorem natA_resAN (n : Nat) (l : List Nat) (cs acc : List AV) (fa : List Nat) (k : List AV → List Nat → Tr) : resA (resN n) (natA l :: cs) acc fa k = resA (resN n) cs (acc ++ [natA l]) fa k := resA_stay (fun k => by cases n <;> rfl) _ _ _ _
@[simp] theorem natA_lenT (P : Program) (t : TypeId) (l : List Nat) : lenT P t (natA l) = if (elOf P t).isSome = true then some l.length else none := by simp [natA, lenT]
@[simp] theorem natA_nz (l : List Nat) : (natA l).nz = natA l := rfl
@[simp] theorem feedB_isT (bs : List Int) (k : Nat) : (feedB bs k).isT = true := rfl
def dd (y : Int) : Int := if y = 2 then 2 else if y = 3 then 4 else 1
/-- what Number returns, and how far the feed is then -/
def numN (bs : List Int) (k : Nat) : Rat × Nat := (((((nextN bs k 9).1 - 4 : Int) : Rat) / ((dd (nextN bs (nextN bs k 9).2 4).1 : Int) : Rat)), (nextN bs (nextN bs k 9).2 4).2)
end Go.Proofs.YtkakmdadnhjphaaGreatDoor
set_option linter.all false
set_option maxRecDepth 100000
set_option maxHeartbeats 6400000
namespace Go.Proofs.YtkakmdadnhjphaaGreatDoor
open Go.RowKit

theorem con_of_zp : ∀ args r, oZ (fun z => ratA (z : Rat)) args = some r → Con Tryz.prog 82 args r := fun args r hr => by
  unfold oZ at hr
  split at hr
  · rename_i z
    split at hr
    · rename_i hz
      cases hr
      refine con_ret fun w ok vs hv => ?_
      obtain ⟨v, rfl, hv1⟩ := rv_list1 hv
      cases hv1
      exact (rof_any w z hz.1 hz.2).mono fun _ _ h => h.ret
    · cases hr
  · cases hr
theorem okU_on {w w' : World} (hb : Below w.heap.size w w') {b o : Nat} (h : okU w b o) : okU w' b o := by
  obtain ⟨z, hz⟩ := h
  have hl : b < w.heap.size := World.block_lt_of_cell? w ⟨b, o, none⟩ hz
  exact ⟨z, by rw [hb.cell (p := ⟨b, o, none⟩) hl]; exact hz⟩
theorem rv1 {R : AV → Value → Prop} {a : AV} {v : Value} (h : R a v) : RV R [a] [v] := ⟨rfl, fun i d hi => by
  match i, hi with
  | 0, hi => cases hi; exact ⟨v, rfl, h⟩
  | i + 1, hi => simp at hi⟩
theorem rv2 {R : AV → Value → Prop} {a b : AV} {v u : Value} (h : R a v) (g : R b u) : RV R [a, b] [v, u] := ⟨rfl, fun i d hi => by
  match i, hi with
  | 0, hi => cases hi; exact ⟨v, rfl, h⟩
  | 1, hi => cases hi; exact ⟨u, rfl, g⟩
  | i + 2, hi => simp at hi⟩
section
variable {P : Program} {f : FuncId}
/-- the ends of a call whose arguments were taken for numbers -/
theorem con_up {w w' : World} {ok : Nat → Nat → Prop} {r : AV} {v : Value} (hb : Below w.heap.size w w') (h : RepT w' (okN (fun b o => ok b o ∨ okU w b o) w w') r v) : RepT w' (okN ok w w') r v :=
  h.mono (fun _ _ _ _ h => h) fun b o u h3 h4 => by
    rcases h3 with (h3 | h3) | h3 | h3
    · exact .inl h3
    · exact .inr (.inr (okU_on hb h3))
    · exact .inr (.inl h3)
    · exact .inr (.inr h3)
theorem Con.raw2 {A B : AV} {x y : Raw} {r : AV} (hA : decR A = some x) (hB : decR B = some y) (h : Con P f [x.av, y.av] r) : Con P f [A, B] r := by
  intro w ok vs hg hv
  obtain ⟨v, u, rfl, hv1, hv2⟩ := rv_list2 hv
  obtain ⟨a1, n1, c1, a2, n2, c2, rfl, h1, h2⟩ := decR_sound hv1 hA
  obtain ⟨a3, n3, c3, a4, n4, c4, rfl, h3, h4⟩ := decR_sound hv2 hB
  refine (h w (fun b o => ok b o ∨ okU w b o) _ (hg.mono (fun _ _ _ _ h => h) fun _ _ _ h _ => .inl h) (rv2 ((raw_rep h1 h2).mono (fun _ _ _ _ h => h) fun _ _ _ h _ => .inr h) ((raw_rep h3 h4).mono (fun _ _ _ _ h => h) fun _ _ _ h _ => .inr h))).mono ?_
  rintro e w' ⟨v, he, hr, hb⟩
  exact ⟨v, he, con_up hb hr, hb⟩
theorem con_raw2 {F : Raw → Raw → AV} (h : ∀ x y : Raw, Lim x.l1 → Lim x.l2 → Lim y.l1 → Lim y.l2 → x.few = true → y.few = true → Con P f [x.av, y.av] (F x y)) : ∀ args r, o2 F args = some r → Con P f args r := by
  intro args r hr
  unfold o2 at hr
  split at hr
  · rename_i a b
    split at hr
    · rename_i x y hx hy
      split at hr
      · rename_i hfew
        cases hr
        rw [Bool.and_eq_true] at hfew
        intro w ok vs hg hv
        obtain ⟨v, u, e, hv1, hv2⟩ := rv_list2 hv
        obtain ⟨a1, n1, c1, a2, n2, c2, _, h1, h2⟩ := decR_sound hv1 hx
        obtain ⟨a3, n3, c3, a4, n4, c4, _, h3, h4⟩ := decR_sound hv2 hy
        exact Con.raw2 hx hy (h x y h1.lim h2.lim h3.lim h4.lim hfew.1 hfew.2) w ok vs hg hv
      · cases hr
    · cases hr
  · cases hr
end
theorem o2_raw {F : Raw → Raw → AV} {x y : Raw} (h1 : Lim x.l1) (h2 : Lim x.l2) (h3 : Lim y.l1) (h4 : Lim y.l2) (hx : x.few = true) (hy : y.few = true) : o2 F [.agg [.lit (.bool x.s), natA x.l1, natA x.l2], .agg [.lit (.bool y.s), natA y.l1, natA y.l2]] = some (F x y) := by
  have e1 : decR (.agg [.lit (.bool x.s), natA x.l1, natA x.l2]) = some x := decR_av h1 h2
  have e2 : decR (.agg [.lit (.bool y.s), natA y.l1, natA y.l2]) = some y := decR_av h3 h4
  simp only [o2, e1, e2, hx, hy, Bool.and_self, if_true]
theorem o1_raw {F : Raw → AV} {x : Raw} (h1 : Lim x.l1) (h2 : Lim x.l2) (hx : x.few = true) : o1 F [.agg [.lit (.bool x.s), natA x.l1, natA x.l2]] = some (F x) := by
  have e1 : decR (.agg [.lit (.bool x.s), natA x.l1, natA x.l2]) = some x := decR_av h1 h2
  simp only [o1, e1, hx, if_true]
theorem raw_neg_q (x : Raw) : (⟨!x.s, x.l1, x.l2⟩ : Raw).q = -x.q := by
  unfold Raw.q sv
  rw [rat_neg]
-- Sub
def decI : AV → Option (Bool × List Nat)
  | .agg [.lit (.bool s), a] => match decN a with
    | some l => some (s, l)
    | none => none
  | _ => none
def fewN (l : List Nat) : Bool := Nat.ble l.length 68719476736
def oI1 (F : Bool × List Nat → AV) : List AV → Option AV
  | [a] => match decI a with
    | some x => if fewN x.2 then some (F x) else none
    | none => none
  | _ => none
def oI2 (F : Bool × List Nat → Bool × List Nat → AV) : List AV → Option AV
  | [a, b] => match decI a, decI b with
    | some x, some y => if fewN x.2 && fewN y.2 then some (F x y) else none
    | _, _ => none
  | _ => none
def oN2 (F : List Nat → List Nat → AV) : List AV → Option AV
  | [a, b] => match decN a, decN b with
    | some x, some y => if fewN x && fewN y then some (F x y) else none
    | _, _ => none
  | _ => none
theorem decI_sound {w : World} {ok : Nat → Nat → Prop} {d : AV} {x : Bool × List Nat} {v : Value} (h : RepT w ok d v) (hd : decI d = some x) : ∃ a n c, v = .agg #[.bool x.1, .slice a n c] ∧ LimR w a n c x.2 := by
  unfold decI at hd
  split at hd
  · rename_i s a
    split at hd
    · rename_i l h1
      cases hd
      cases h with
      | agg hn hh =>
        rename_i vs
        have g0 := hh 0 _ rfl
        have g1 := hh 1 _ rfl
        obtain ⟨a1, n1, c1, e1, k1⟩ := decN_sound g1 h1
        refine ⟨a1, n1, c1, ?_, k1⟩
        have e0 : vs.getD 0 undef = .bool s := by
          generalize vs.getD 0 undef = x at g0
          cases g0; rfl
        congr 1
        apply Array.ext
        · simpa using hn
        · intro i hi1 hi2
          have h9 : i = 0 ∨ i = 1 := by simp at hi2; omega
          have gd : vs.getD i undef = vs[i] := by rw [Array.getD_eq_getD_getElem?, Array.getElem?_eq_getElem hi1]; rfl
          rcases h9 with rfl | rfl
          · rw [← gd, e0]; rfl
          · rw [← gd, e1]; rfl
    · cases hd
  · cases hd
theorem few_of {n : Nat} {l : List Nat} (h : fewN l = true) (hn : l.length = n) : n ≤ 68719476736 := by subst hn; exact Nat.le_of_ble_eq_true h
section
variable {P : Program} {f : FuncId}
theorem conI1 {F : Bool × List Nat → AV} (h : ∀ (w : World) (x : Bool × List Nat) (a : Option Addr) (n c : Nat), LimR w a n c x.2 → n ≤ 68719476736 → Calls P f #[.agg #[.bool x.1, .slice a n c]] w (Ret (F x) w)) : ∀ args r, oI1 F args = some r → Con P f args r := by
  intro args r hr
  unfold oI1 at hr
  split at hr
  · rename_i a
    split at hr
    · rename_i x hx
      split at hr
      · rename_i hfew
        cases hr
        refine con_ret fun w ok vs hv => ?_
        obtain ⟨v, rfl, hv1⟩ := rv_list1 hv
        obtain ⟨a1, n1, c1, rfl, h1⟩ := decI_sound hv1 hx
        exact h w x a1 n1 c1 h1 (few_of hfew h1.len)
      · cases hr
    · cases hr
  · cases hr
theorem conN2 {F : List Nat → List Nat → AV} (h : ∀ (w : World) (x y : List Nat) (a1 a2 : Option Addr) (n1 c1 n2 c2 : Nat), LimR w a1 n1 c1 x → LimR w a2 n2 c2 y → n1 ≤ 68719476736 → n2 ≤ 68719476736 → Calls P f #[.slice a1 n1 c1, .slice a2 n2 c2] w (Ret (F x y) w)) : ∀ args r, oN2 F args = some r → Con P f args r := by
  intro args r hr
  unfold oN2 at hr
  split at hr
  · rename_i a b
    split at hr
    · rename_i x y hx hy
      split at hr
      · rename_i hfew
        cases hr
        rw [Bool.and_eq_true] at hfew
        refine con_ret fun w ok vs hv => ?_
        obtain ⟨v, u, rfl, hv1, hv2⟩ := rv_list2 hv
        obtain ⟨a1, n1, c1, rfl, h1⟩ := decN_sound hv1 hx
        obtain ⟨a2, n2, c2, rfl, h2⟩ := decN_sound hv2 hy
        exact h w x y a1 a2 n1 c1 n2 c2 h1 h2 (few_of hfew.1 h1.len) (few_of hfew.2 h2.len)
      · cases hr
    · cases hr
  · cases hr
def intR (x : Bool × List Nat) : AV := .agg [.lit (.bool x.1), natA x.2]
theorem conI2r {F : Bool × List Nat → Bool × List Nat → AV} (h : ∀ x y : Bool × List Nat, Lim x.2 → Lim y.2 → fewN x.2 = true → fewN y.2 = true → Con P f [intR x, intR y] (F x y)) : ∀ args r, oI2 F args = some r → Con P f args r := by
  intro args r hr
  unfold oI2 at hr
  split at hr
  · rename_i a b
    split at hr
    · rename_i x y hx hy
      split at hr
      · rename_i hfew
        cases hr
        rw [Bool.and_eq_true] at hfew
        intro w ok vs hg hv
        obtain ⟨v, u, rfl, hv1, hv2⟩ := rv_list2 hv
        obtain ⟨a1, n1, c1, rfl, h1⟩ := decI_sound hv1 hx
        obtain ⟨a2, n2, c2, rfl, h2⟩ := decI_sound hv2 hy
        have rep : ∀ {x : Bool × List Nat} {a : Option Addr} {n c : Nat}, LimR w a n c x.2 → RepT w (fun b o => ok b o ∨ okU w b o) (intR x) (.agg #[.bool x.1, .slice a n c]) := fun {x a n c} h => by
          refine .agg rfl fun i d hi => ?_
          match i, hi with
          | 0, hi => cases hi; exact .lit _
          | 1, hi => cases hi; exact (natA_rep h).mono (fun _ _ _ _ h => h) fun _ _ _ h _ => .inr h
          | i + 2, hi => simp at hi
        refine (h x y h1.lim h2.lim hfew.1 hfew.2 w (fun b o => ok b o ∨ okU w b o) _ (hg.mono (fun _ _ _ _ h => h) fun _ _ _ h _ => .inl h) (rv2 (rep h1) (rep h2))).mono ?_
        rintro e w' ⟨v, he, hr, hb⟩
        exact ⟨v, he, con_up hb hr, hb⟩
      · cases hr
    · cases hr
  · cases hr
end
theorem sign_cases (x : Int) : (x < 0 ∧ x.sign = -1) ∨ (x = 0 ∧ x.sign = 0) ∨ (0 < x ∧ x.sign = 1) := by
  rcases Int.lt_trichotomy x 0 with h | h | h
  · exact .inl ⟨h, Int.sign_eq_neg_one_of_neg h⟩
  · exact .inr (.inl ⟨h, by rw [h]; rfl⟩)
  · exact .inr (.inr ⟨h, Int.sign_eq_one_of_pos h⟩)
theorem sub_sign {x y : Int} : (x.sign < y.sign → (x - y).sign = -1) ∧ (y.sign < x.sign → (x - y).sign = 1) := by
  rcases sign_cases x with h | h | h <;> rcases sign_cases y with g | g | g <;> rcases sign_cases (x - y) with k | k | k <;> omega
theorem icmp_plain (s1 s2 : Bool) (l1 l2 : List Nat) : (iv s1 l1).sign = (iv s2 l2).sign → ((iv s1 l1).sign < 0 → cmpN (val l2) (val l1) = (iv s1 l1 - iv s2 l2).sign) ∧ (¬ (iv s1 l1).sign < 0 → cmpN (val l1) (val l2) = (iv s1 l1 - iv s2 l2).sign) := by
  unfold iv cmpN
  generalize val l1 = a
  generalize val l2 = b
  intro h
  generalize hx : (if s1 = true then -(a : Int) else (a : Int)) = x at *
  generalize hy : (if s2 = true then -(b : Int) else (b : Int)) = y at *
  constructor
  · intro h0
    cases s1 <;> cases s2 <;> simp at hx hy <;> rcases sign_cases x with h1 | h1 | h1 <;> rcases sign_cases y with g | g | g <;> rcases sign_cases (x - y) with k | k | k <;> split <;> (try split) <;> omega
  · intro h0
    cases s1 <;> cases s2 <;> simp at hx hy <;> rcases sign_cases x with h1 | h1 | h1 <;> rcases sign_cases y with g | g | g <;> rcases sign_cases (x - y) with k | k | k <;> split <;> (try split) <;> omega
theorem oI1_raw {F : Bool × List Nat → AV} {s : Bool} {l : List Nat} (h1 : Lim l) (hx : fewN l = true) : oI1 F [.agg [.lit (.bool s), natA l]] = some (F (s, l)) := by
  have e1 : decI (.agg [.lit (.bool s), natA l]) = some (s, l) := by simp only [decI, decN_nat h1]
  simp only [oI1, e1, hx, if_true]
theorem oI2_raw {F : Bool × List Nat → Bool × List Nat → AV} {s t : Bool} {l m : List Nat} (h1 : Lim l) (h2 : Lim m) (hx : fewN l = true) (hy : fewN m = true) : oI2 F [.agg [.lit (.bool s), natA l], .agg [.lit (.bool t), natA m]] = some (F (s, l) (t, m)) := by
  have e1 : decI (.agg [.lit (.bool s), natA l]) = some (s, l) := by simp only [decI, decN_nat h1]
  have e2 : decI (.agg [.lit (.bool t), natA m]) = some (t, m) := by simp only [decI, decN_nat h2]
  simp only [oI2, e1, e2, hx, hy, Bool.and_self, if_true]
theorem oN2_raw {F : List Nat → List Nat → AV} {l m : List Nat} (h1 : Lim l) (h2 : Lim m) (hx : fewN l = true) (hy : fewN m = true) : oN2 F [natA l, natA m] = some (F l m) := by
  simp only [oN2, decN_nat h1, decN_nat h2, hx, hy, Bool.and_self, if_true]
-- integer.Cmp
noncomputable def fISgn : List AV → Option AV := oI1 fun x => .lit (.int .i64 (iv x.1 x.2).sign)
noncomputable def fNCmp : List AV → Option AV := oN2 fun x y => .lit (.int .i64 (cmpN (val x) (val y)))
noncomputable def orcI : FuncId → Option Orc := ext (ext noO 171 (.pure fISgn)) 248 (.pure fNCmp)
theorem orcI_ok : OrcOk Tryz.prog orcI := by
  refine OrcOk.extP (OrcOk.extP OrcOk.none (by kernel_rfl) ?_) (by kernel_rfl) ?_
  · exact conI1 fun w x a n c h hn => (isign_any w h (by omega)).mono fun _ _ h => h.ret
  · exact conN2 fun w x y a1 a2 n1 c1 n2 c2 h1 h2 b1 b2 => (ncmp_any w h1 h2 (by omega) (by omega)).mono fun e w' h => by
      obtain ⟨he, k, rfl⟩ := h
      exact ⟨_, he, .lit _, (Below.refl _ _).drewN k⟩
def icmpF (x y : Bool × List Nat) : AV := .lit (.int .i64 (iv x.1 x.2 - iv y.1 y.2).sign)
theorem icmp_run {x y : Bool × List Nat} (h1 : Lim x.2) (h2 : Lim y.2) (hx : fewN x.2 = true) (hy : fewN y.2 = true) : fnP Tryz.prog orcI noL 5 Tryz.f194 [intR x, intR y] = some (icmpF x y) := by
  obtain ⟨s, l⟩ := x
  obtain ⟨t, m⟩ := y
  have K1 : fISgn [.agg [.lit (.bool s), natA l]] = some (.lit (.int .i64 (iv s l).sign)) := oI1_raw h1 hx
  have K2 : fISgn [.agg [.lit (.bool t), natA m]] = some (.lit (.int .i64 (iv t m).sign)) := oI1_raw h2 hy
  have K3 : fNCmp [natA l, natA m] = some (.lit (.int .i64 (cmpN (val l) (val m)))) := oN2_raw h1 h2 hx hy
  have K4 : fNCmp [natA m, natA l] = some (.lit (.int .i64 (cmpN (val m) (val l)))) := oN2_raw h2 h1 hy hx
  have T1 : orcI 171 = some (.pure fISgn) := by unfold orcI ext; rw [if_neg (by decide), if_pos rfl]
  have T2 : orcI 248 = some (.pure fNCmp) := by unfold orcI ext; rw [if_pos rfl]
  have HP := icmp_plain s t l m
  have HS := sub_sign (x := iv s l) (y := iv t m)
  unfold icmpF
  dsimp only
  generalize (iv s l - iv t m).sign = z at *
  generalize (iv s l).sign = a at *
  generalize (iv t m).sign = b at *
  unfold fnP
  by_cases c1 : a < b
  · rw [HS.1 c1]
    simp +decide [Tryz.f194, intR, T1, T2, K1, K2, c1]
  by_cases c2 : b < a
  · rw [HS.2 c2]
    simp +decide [Tryz.f194, intR, T1, T2, K1, K2, c1, c2]
  obtain ⟨p1, p2⟩ := HP (by omega)
  by_cases c3 : a < 0
  · rw [← p1 c3]
    simp +decide [Tryz.f194, intR, T1, T2, K1, K2, K4, c1, c2, c3]
  · rw [← p2 c3]
    simp +decide [Tryz.f194, intR, T1, T2, K1, K2, K3, c1, c2, c3]
-- Cmp
def intA (z : Int) : AV := .agg [.lit (.bool (decide (z < 0))), natA (lmb z.natAbs)]
noncomputable def fSgnQ : List AV → Option AV := o1 fun x => .lit (.int .i64 (sgR x.q))
noncomputable def fCross : List AV → Option AV := o2 fun x y => .tup [intA (iv x.s x.l1 * dn y.l2), intA (iv y.s y.l1 * dn x.l2)]
noncomputable def fICmp : List AV → Option AV := oI2 icmpF
noncomputable def orcC : FuncId → Option Orc := ext (ext (ext noO 83 (.pure fSgnQ)) 193 (.pure fCross)) 194 (.pure fICmp)
theorem intC_rep {w : World} {s : Bool} {a : Option Addr} {n c : Nat} {z : Int} (h : IntC w s a n c z) : RepT w (okU w) (intA z) (.agg #[.bool s, .slice a n c]) := by
  have e : s = decide (z < 0) := h.sign.out
  subst e
  refine .agg rfl fun i d hi => ?_
  match i, hi with
  | 0, hi => cases hi; exact .lit _
  | 1, hi => cases hi; exact natA_rep h.mag
  | i + 2, hi => simp at hi
theorem orcC_ok : OrcOk Tryz.prog orcC := by
  refine OrcOk.extP (OrcOk.extP (OrcOk.extP OrcOk.none (by kernel_rfl) ?_) (by kernel_rfl) ?_) (by kernel_rfl) ?_
  · exact con1 fun w x a1 a2 n1 c1 n2 c2 h1 h2 b1 b2 => (rsign_any w x.l2 h1 (by omega)).mono fun _ _ h => h.ret
  · exact con2 fun w x y a1 a2 a3 a4 n1 c1 n2 c2 n3 c3 n4 c4 h1 h2 h3 h4 b1 b2 b3 b4 => (cross_any w h1 h2 h3 h4 (by omega) (by omega) (by omega) (by omega)).mono fun e w' h => by
      obtain ⟨s1, a1, n1, c1, s2, a2, n2, c2, rfl, g1, g2, hb⟩ := h
      refine ⟨_, rfl, .tup rfl fun i d hi => ?_, hb⟩
      match i, hi with
      | 0, hi => cases hi; exact intC_rep g1
      | 1, hi => cases hi; exact intC_rep g2
      | i + 2, hi => simp at hi
  · exact conI2r fun x y h1 h2 hx hy => con_of orcI_ok mixed Tryz.func194 (body_some (by kernel_rfl) Tryz.func194) (icmp_run h1 h2 hx hy)
theorem sgR_mk {z : Int} {d : Nat} (h : 0 < d) : sgR (mkRat z d) = z.sign := by
  have h2 := sgR_sv (decide (z < 0)) (lmb z.natAbs) (lmb d)
  have e : iv (decide (z < 0)) (lmb z.natAbs) = z := by
    unfold iv
    rw [val_lmb]
    by_cases hz : z < 0 <;> simp [hz] <;> omega
  have e2 : sv (decide (z < 0)) (lmb z.natAbs) (lmb d) = mkRat z d := by
    have e3 : dn (lmb d) = d := by
      unfold dn
      rw [val_lmb]
      have h0 : ¬ d = 0 := by omega
      simp only [h0, if_false]
    unfold sv
    rw [e3]
    have e4 : sgi (decide (z < 0)) (val (lmb z.natAbs)) = z := e
    rw [e4]
  rw [e, e2] at h2
  exact h2.symm
theorem sv_sub (x y : Raw) : sgR (x.q - y.q) = (iv x.s x.l1 * (dn y.l2 : Int) - iv y.s y.l1 * (dn x.l2 : Int)).sign := by
  rw [Rat.sub_eq_add_neg, ← raw_neg_q]
  unfold Raw.q sv
  rw [← rat_add _ _ (dn_pos _) (dn_pos _), sgR_mk (Nat.mul_pos (dn_pos _) (dn_pos _))]
  congr 1
  have e : sgi (!y.s) (val y.l1) = -(iv y.s y.l1) := by
    unfold sgi iv
    cases y.s <;> simp
  dsimp only
  rw [e, Int.neg_mul, Int.sub_eq_add_neg]
  rfl
theorem sgR_sub {p q : Rat} : (sgR p < sgR q → sgR (p - q) = -1) ∧ (sgR q < sgR p → sgR (p - q) = 1) := by
  have np : ∀ r : Rat, (r < 0 ∧ sgR r = -1) ∨ (r = 0 ∧ sgR r = 0) ∨ (0 < r ∧ sgR r = 1) := fun r => by
    have h1 := @Rat.num_nonneg r
    have h2 : r.num = 0 ↔ r = 0 := Rat.num_eq_zero
    unfold sgR
    rcases sign_cases r.num with h | h | h
    · refine .inl ⟨?_, h.2⟩
      have : ¬ 0 ≤ r := fun h3 => by have := h1.2 h3; omega
      grind
    · exact .inr (.inl ⟨h2.1 h.1, h.2⟩)
    · refine .inr (.inr ⟨?_, h.2⟩)
      have h3 := h1.1 (by omega)
      have h4 : r ≠ 0 := fun h4 => by have := h2.2 h4; omega
      grind
  rcases np p with h | h | h <;> rcases np q with g | g | g <;> rcases np (p - q) with k | k | k <;> first | omega | grind
theorem few_mul {x y : Raw} (h1 : Lim x.l1) (h4 : Lim y.l2) (hx : x.few = true) (hy : y.few = true) : fewN (lmb (iv x.s x.l1 * (dn y.l2 : Int)).natAbs) = true := by
  have a1 := (Raw.few_parts hx).1
  have a2 := (Raw.few_parts hy).2
  have e1 := lmb_len_mul (val x.l1) (dn y.l2)
  have e2 := lmb_len_val h1
  have e3 : (lmb (dn y.l2)).length ≤ y.l2.length + 1 := by
    unfold dn
    split
    · rw [lmb_one]; simp
    · have := lmb_len_val h4; omega
  have e4 : (iv x.s x.l1 * (dn y.l2 : Int)).natAbs = val x.l1 * dn y.l2 := by
    rw [Int.natAbs_mul, Int.natAbs_natCast]
    congr 1
    unfold iv
    cases x.s <;> simp
  rw [e4]
  exact Nat.ble_eq_true_of_le (by omega)
theorem pcmp_run {x y : Raw} (h1 : Lim x.l1) (h2 : Lim x.l2) (h3 : Lim y.l1) (h4 : Lim y.l2) (hx : x.few = true) (hy : y.few = true) : fnP Tryz.prog orcC noL 5 Tryz.f117 [x.av, y.av] = some (.lit (.int .i64 (sgR (x.q - y.q)))) := by
  have K1 : fSgnQ [.agg [.lit (.bool x.s), natA x.l1, natA x.l2]] = some (.lit (.int .i64 (sgR x.q))) := o1_raw h1 h2 hx
  have K2 : fSgnQ [.agg [.lit (.bool y.s), natA y.l1, natA y.l2]] = some (.lit (.int .i64 (sgR y.q))) := o1_raw h3 h4 hy
  have K3 : fCross [.agg [.lit (.bool x.s), natA x.l1, natA x.l2], .agg [.lit (.bool y.s), natA y.l1, natA y.l2]] = some (.tup [intA (iv x.s x.l1 * dn y.l2), intA (iv y.s y.l1 * dn x.l2)]) := o2_raw h1 h2 h3 h4 hx hy
  have key : ∀ p q : Int, fewN (lmb p.natAbs) = true → fewN (lmb q.natAbs) = true → fICmp [.agg [.lit (.bool (decide (p < 0))), natA (lmb p.natAbs)], .agg [.lit (.bool (decide (q < 0))), natA (lmb q.natAbs)]] = some (.lit (.int .i64 (p - q).sign)) := fun p q hp hq => by
    unfold fICmp
    rw [oI2_raw (lim_lmb _) (lim_lmb _) hp hq]
    have e : ∀ z : Int, iv (decide (z < 0)) (lmb z.natAbs) = z := fun z => by
      unfold iv
      rw [val_lmb]
      by_cases hz : z < 0 <;> simp [hz] <;> omega
    unfold icmpF
    dsimp only
    rw [e, e]
  have K4 := key (iv x.s x.l1 * dn y.l2) (iv y.s y.l1 * dn x.l2) (few_mul h1 h4 hx hy) (few_mul h3 h2 hy hx)
  rw [← sv_sub] at K4
  have T1 : orcC 83 = some (.pure fSgnQ) := by unfold orcC ext; rw [if_neg (by decide), if_neg (by decide), if_pos rfl]
  have T2 : orcC 193 = some (.pure fCross) := by unfold orcC ext; rw [if_neg (by decide), if_pos rfl]
  have T3 : orcC 194 = some (.pure fICmp) := by unfold orcC ext; rw [if_pos rfl]
  have HS := sgR_sub (p := x.q) (q := y.q)
  generalize iv x.s x.l1 * (dn y.l2 : Int) = p at *
  generalize iv y.s y.l1 * (dn x.l2 : Int) = q at *
  generalize sgR (x.q - y.q) = z at *
  generalize sgR x.q = a at *
  generalize sgR y.q = b at *
  unfold fnP
  by_cases c0 : a = b
  · have c1 : (a == b) = true := by rw [c0]; simp
    have c2 : (a != b) = false := by rw [c0]; simp
    simp +decide [Tryz.f117, Raw.av, T1, T2, T3, K1, K2, K3, intA, K4, c1, c2]
  · have c1 : (a == b) = false := by simpa using c0
    have c2 : (a != b) = true := by simpa using c0
    by_cases c3 : a < b
    · rw [HS.1 c3]
      simp +decide [Tryz.f117, Raw.av, T1, T2, T3, K1, K2, c1, c2, c3]
    · rw [HS.2 (by omega)]
      simp +decide [Tryz.f117, Raw.av, T1, T2, T3, K1, K2, c1, c2, c3]
theorem con_pcmp : ∀ args r, o2 (fun x y => .lit (.int .i64 (sgR (x.q - y.q)))) args = some r → Con Tryz.prog 117 args r :=
  con_raw2 fun x y h1 h2 h3 h4 hx hy => con_of orcC_ok mixed Tryz.func117 (body_some (by kernel_rfl) Tryz.func117) (pcmp_run h1 h2 h3 h4 hx hy)
end Go.Proofs.YtkakmdadnhjphaaGreatDoor
set_option linter.all false
namespace Go.Proofs.YtkakmdadnhjphaaGreatDoor
open Go.RowKit
/-- the calls on rational numbers -/
noncomputable def orc0 : FuncId → Option Orc := (ext (ext (ext (ext (ext (ext (ext (ext (ext (ext (ext (ext (ext (ext (ext (ext (ext (ext (ext noO 86 (.pure (o2 fun x y => ratA (x.q + y.q)))) 105 (.pure (o2 fun x y => ratA (x.q - y.q)))) 87 (.pure (o2 fun x y => ratA (x.q * y.q)))) 39 (.pure (o1 fun x => ratA (-x.q)))) 104 (.pure (o1 fun x => ratA x.q))) 30 (.pure (o1 fun x => .lit (.int .i64 (sgR x.q))))) 40 (.pure (o2 fun x y => .lit (.int .i64 (sgR (x.q - y.q)))))) 88 (.pure (o2 fun x y => .lit (.bool (decide (x.s = y.s ∧ x.l1 = y.l1 ∧ x.l2 = y.l2)))))) 100 (.pure (o1 fun x => .lit (.bool (decide (RatV x.s x.l1 x.l2)))))) 35 (.pure (oZ fun z => ratA (z : Rat)))) 55 (.pure (oZZ fun x y => .tup [ratA ((x : Rat) / (y : Rat)), .lit (.int .i64 0)]))) 228 (.pure (o2 fun x y => ratA (x.q + y.q)))) 206 (.pure (o2 fun x y => ratA (x.q * y.q)))) 95 (.pure (o1 fun x => ratA (-x.q)))) 182 (.pure (o1 fun x => ratA x.q))) 83 (.pure (o1 fun x => .lit (.int .i64 (sgR x.q))))) 192 (.pure (o1 fun x => .lit (.bool (decide (RatV x.s x.l1 x.l2)))))) 82 (.pure (oZ fun z => ratA (z : Rat)))) 117 (.pure (o2 fun x y => .lit (.int .i64 (sgR (x.q - y.q))))))
theorem orc0_ok : OrcOk Tryz.prog orc0 := by
  refine OrcOk.extP (OrcOk.extP (OrcOk.extP (OrcOk.extP (OrcOk.extP (OrcOk.extP (OrcOk.extP (OrcOk.extP (OrcOk.extP (OrcOk.extP (OrcOk.extP (OrcOk.extP (OrcOk.extP (OrcOk.extP (OrcOk.extP (OrcOk.extP (OrcOk.extP (OrcOk.extP (OrcOk.extP OrcOk.none (by kernel_rfl) ?_) (by kernel_rfl) ?_) (by kernel_rfl) ?_) (by kernel_rfl) ?_) (by kernel_rfl) ?_) (by kernel_rfl) ?_) (by kernel_rfl) ?_) (by kernel_rfl) ?_) (by kernel_rfl) ?_) (by kernel_rfl) ?_) (by kernel_rfl) ?_) (by kernel_rfl) ?_) (by kernel_rfl) ?_) (by kernel_rfl) ?_) (by kernel_rfl) ?_) (by kernel_rfl) ?_) (by kernel_rfl) ?_) (by kernel_rfl) ?_) (by kernel_rfl) ?_
  · exact con2 fun w x y a1 a2 a3 a4 n1 c1 n2 c2 n3 c3 n4 c4 h1 h2 h3 h4 b1 b2 b3 b4 => (fradd_any w h1 h2 h3 h4 (by omega) (by omega) (by omega) (by omega)).mono fun _ _ h => h.ret
  · exact con2 fun w x y a1 a2 a3 a4 n1 c1 n2 c2 n3 c3 n4 c4 h1 h2 h3 h4 b1 b2 b3 b4 => (frsub_any w h1 h2 h3 h4 (by omega) (by omega) (by omega) (by omega)).mono fun _ _ h => h.ret
  · exact con2 fun w x y a1 a2 a3 a4 n1 c1 n2 c2 n3 c3 n4 c4 h1 h2 h3 h4 b1 b2 b3 b4 => (frmul_any w h1 h2 h3 h4 (by omega) (by omega) (by omega) (by omega)).mono fun _ _ h => h.ret
  · exact con1 fun w x a1 a2 n1 c1 n2 c2 h1 h2 b1 b2 => (fneg_any w h1 h2 (by omega) (by omega)).mono fun _ _ h => h.ret
  · exact con1 fun w x a1 a2 n1 c1 n2 c2 h1 h2 b1 b2 => (fcanon_any w h1 h2 (by omega) (by omega)).mono fun _ _ h => h.ret
  · exact con1 fun w x a1 a2 n1 c1 n2 c2 h1 h2 b1 b2 => (fsign_any w x.l2 h1 (by omega)).mono fun _ _ h => h.ret
  · exact con2 fun w x y a1 a2 a3 a4 n1 c1 n2 c2 n3 c3 n4 c4 h1 h2 h3 h4 b1 b2 b3 b4 => (frcmp_any w h1 h2 h3 h4 (by omega) (by omega) (by omega) (by omega)).mono fun _ _ h => h.ret
  · exact con2 fun w x y a1 a2 a3 a4 n1 c1 n2 c2 n3 c3 n4 c4 h1 h2 h3 h4 b1 b2 b3 b4 => (frsame_any w h1 h2 h3 h4 (by omega) (by omega) (by omega) (by omega)).mono fun _ _ h => h.ret
  · exact con1 fun w x a1 a2 n1 c1 n2 c2 h1 h2 b1 b2 => (fvalid_any w h1 h2 (by omega) (by omega)).mono fun _ _ h => h.ret
  · exact con_of_z
  · exact con_frac
  · exact con2 fun w x y a1 a2 a3 a4 n1 c1 n2 c2 n3 c3 n4 c4 h1 h2 h3 h4 b1 b2 b3 b4 => (radd_any w h1 h2 h3 h4 (by omega) (by omega) (by omega) (by omega)).mono fun _ _ h => h.ret
  · exact con2 fun w x y a1 a2 a3 a4 n1 c1 n2 c2 n3 c3 n4 c4 h1 h2 h3 h4 b1 b2 b3 b4 => (rmul_any w h1 h2 h3 h4 (by omega) (by omega) (by omega) (by omega)).mono fun _ _ h => h.ret
  · exact con1 fun w x a1 a2 n1 c1 n2 c2 h1 h2 b1 b2 => (rneg_any w h1 h2 (by omega) (by omega)).mono fun _ _ h => h.ret
  · exact con1 fun w x a1 a2 n1 c1 n2 c2 h1 h2 b1 b2 => (canon_any w h1 h2 (by omega) (by omega)).mono fun _ _ h => h.ret
  · exact con1 fun w x a1 a2 n1 c1 n2 c2 h1 h2 b1 b2 => (rsign_any w x.l2 h1 (by omega)).mono fun _ _ h => h.ret
  · exact con1 fun w x a1 a2 n1 c1 n2 c2 h1 h2 b1 b2 => (rvalid_any w h1 h2 (by omega) (by omega)).mono fun _ _ h => h.ret
  · exact con_of_zp
  · exact con_pcmp
end Go.Proofs.YtkakmdadnhjphaaGreatDoor
