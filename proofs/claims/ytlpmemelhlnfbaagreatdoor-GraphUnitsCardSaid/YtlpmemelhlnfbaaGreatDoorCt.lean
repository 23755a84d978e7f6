/- Calls of the library on text, as rows of the table of callees: strconv.Itoa, strings.Repeat, strings.Join. -/
import Derived.Test.YtlpmemelhlnfbaaGreatDoorSg
import Derived.Test.YtlpmemelhlnfbaaGreatDoorCd
set_option linter.all false
set_option linter.all false
namespace Go.Proofs.YtlpmemelhlnfbaaGreatDoor
open Go.RowKit

theorem Glob.whole {w : World} {ok : Nat → Nat → Prop} (h : Glob w ok) {g : Nat} {vs : List Value} (hg : gtab g = some (vs.map .lit)) : ∃ t fr, w.heap[g]? = some (.cells vs.toArray t fr) := by
  obtain ⟨h1, t, h2⟩ := h.1 g _ hg
  obtain ⟨b, o, hp, hm⟩ := h1.mem_inv
  cases hp
  unfold World.shape? at h2
  split at h2
  · rename_i c e fr hc
    simp only [Option.some.injEq, Prod.mk.injEq] at h2
    obtain ⟨rfl, h2⟩ := h2
    refine ⟨e, fr, ?_⟩
    rw [hc]
    congr 2
    apply Array.ext_getElem?
    intro i
    rcases Nat.lt_or_ge i vs.length with hi | hi
    · obtain ⟨_, u, h3, h4⟩ := hm i (.lit vs[i]) (by simp [List.getElem?_eq_getElem hi])
      cases h4
      simp only [World.cell?, hc, Nat.zero_add] at h3
      simpa [List.getElem?_eq_getElem hi] using h3
    · rw [Array.getElem?_eq_none (by rw [h2]; simpa using hi), Array.getElem?_eq_none (by simpa using hi)]
  · cases h2
theorem globTab {w : World} {ok : Nat → Nat → Prop} (h : Glob w ok) : Lib.TabIs Tryz.prog w "internal/strconv.uint64pow10" .u64 Lib.pow10Tab := by
  obtain ⟨t, fr, hw⟩ := h.whole (g := 0) (vs := Lib.pow10Tab.map fun z => Value.int .u64 z) rfl
  have hg : Tryz.prog.globalNamed "internal/strconv.uint64pow10" = some 0 := by kernel_rfl
  unfold Lib.TabIs World.var?
  rw [hg]
  simp [hw]
theorem below_grow_drew {w : World} {k : Nat} {os : Array Obj} : Below w.heap.size w (Sort.grow (w.drewN k) os) := by
  refine ⟨rfl, rfl, rfl, by simp [Sort.grow], fun g hg => ?_⟩
  simp only [Sort.grow, World.heap_drewN]
  rw [Array.getElem?_append_left hg]
/-- strconv.Itoa -/
def oItoa : List AV → Option AV
  | [.lit (.int .i64 n)] => if -9223372036854775808 ≤ n ∧ n ≤ 9223372036854775807 then some (.lit (.string ⟨(Lib.itoa n).toArray⟩)) else none
  | _ => none
theorem con_itoa : ∀ args r, oItoa args = some r → Con Tryz.prog 93 args r := fun args r hr => by
  unfold oItoa at hr
  split at hr
  · rename_i n
    split at hr
    · rename_i hn
      cases hr
      intro w ok vs hgl hv
      obtain ⟨v, rfl, hv1⟩ := rv_list1 hv
      cases hv1
      refine (Tryz.strconv_Itoa n hn.1 hn.2 w (globTab hgl)).mono ?_
      rintro e w' ⟨rfl, k, os, rfl⟩
      exact ⟨_, rfl, .lit _, below_grow_drew⟩
    · cases hr
  · cases hr
/-- strings.Repeat -/
def oRepeat : List AV → Option AV
  | [.lit (.string s), .lit (.int .i64 c)] => if 0 ≤ c ∧ c ≤ 9223372036854775807 ∧ s.size * c.toNat ≤ 140737488355328 then some (.lit (.string ⟨(Lib.repeatL s.data.toList c.toNat).toArray⟩)) else none
  | _ => none
theorem con_repeat : ∀ args r, oRepeat args = some r → Con Tryz.prog 211 args r := fun args r hr => by
  unfold oRepeat at hr
  split at hr
  · rename_i s c
    split at hr
    · rename_i hn
      cases hr
      intro w ok vs hgl hv
      obtain ⟨v, v2, rfl, hv1, hv2⟩ := rv_list2 hv
      cases hv1
      cases hv2
      obtain ⟨m, rfl⟩ : ∃ m : Nat, c = m := ⟨c.toNat, by omega⟩
      rw [Int.toNat_natCast] at hn ⊢
      refine (Tryz.strings_Repeat s m w (by omega) hn.2.2).mono ?_
      rintro e w' ⟨rfl, hb⟩
      exact ⟨_, rfl, .lit _, hb⟩
    · cases hr
  · cases hr
/-- elements that are strings -/
def strsL : List (List AV) → Option (List ByteArray)
  | [] => some []
  | [.lit (.string s)] :: l => (strsL l).map (s :: ·)
  | _ => none
theorem strsL_get : ∀ {es : List (List AV)} {l : List ByteArray}, strsL es = some l → l.length = es.length ∧ ∀ (j : Nat) (x : ByteArray), l[j]? = some x → es[j]? = some [.lit (.string x)]
  | [], l, h => by cases h; exact ⟨rfl, fun j x hj => by simp at hj⟩
  | e :: es, l, h => by
    unfold strsL at h
    split at h
    · rename_i heq; cases heq
    · rename_i s l' heq
      cases heq
      obtain ⟨l', h1, rfl⟩ := Option.map_eq_some_iff.1 h
      obtain ⟨h2, h3⟩ := strsL_get h1
      refine ⟨by simp [h2], fun j x hj => ?_⟩
      cases j with
      | zero => simp only [List.getElem?_cons_zero, Option.some.injEq] at hj; subst hj; rfl
      | succ j => exact h3 j x (by simpa using hj)
    · cases h
/-- strings.Join -/
def oJoin : List AV → Option AV
  | [.sl 1 es, .lit (.string sep)] => match strsL es with
    | some xs => if xs.length ≤ 140737488355328 ∧ (Lib.join (xs.map (·.data.toList)) sep.data.toList).length ≤ 140737488355328 then some (.lit (.string ⟨(Lib.join (xs.map (·.data.toList)) sep.data.toList).toArray⟩)) else none
    | none => none
  | _ => none
theorem con_join : ∀ args r, oJoin args = some r → Con Tryz.prog 213 args r := fun args r hr => by
  unfold oJoin at hr
  split at hr
  · rename_i es sep
    split at hr
    · rename_i xs hxs
      split at hr
      · rename_i hn
        cases hr
        intro w ok vs hgl hv
        obtain ⟨v, v2, rfl, hv1, hv2⟩ := rv_list2 hv
        cases hv2
        obtain ⟨hlen, hget⟩ := strsL_get hxs
        cases hv1 with
        | nil a c =>
          cases hxs
          refine (Tryz.strings_Join_none a c sep w).mono ?_
          rintro e w' ⟨rfl, rfl⟩
          exact ⟨_, rfl, .lit _, Below.refl _ _⟩
        | sl hk hcap hm h =>
          rename_i b o c
          rcases Nat.eq_zero_or_pos es.length with h0 | h0
          · have e0 : es = [] := List.eq_nil_of_length_eq_zero h0
            subst e0
            cases hxs
            refine (Tryz.strings_Join_none (some ⟨b, o, none⟩) c sep w).mono ?_
            rintro e w' ⟨rfl, rfl⟩
            exact ⟨_, rfl, .lit _, Below.refl _ _⟩
          · have hcell : ∀ (j : Nat) x, xs[j]? = some x → w.cell? ⟨b, o + j, none⟩ = some (.string x) := fun j x hj => by
              have h1 := hget j x hj
              have h2 := hm j 0 _ _ h1 rfl
              have h3 := h j 0 _ _ h1 rfl
              obtain ⟨u, hu⟩ := Option.isSome_iff_exists.1 h2.2
              rw [hu] at h3
              cases h3
              simpa using hu
            have hbk : b < w.heap.size := by
              obtain ⟨x, hx⟩ : ∃ x, xs[0]? = some x := ⟨xs[0]'(by omega), List.getElem?_eq_getElem _⟩
              exact cell_lt (hcell 0 x hx)
            have hj := Tryz.strings_Join b o c xs sep w hcell hbk hn.1 (by omega) hn.2
            rw [hlen] at hj
            refine hj.mono ?_
            rintro e w' ⟨rfl, hb⟩
            exact ⟨_, rfl, .lit _, hb⟩
      · cases hr
    · cases hr
  · cases hr
end Go.Proofs.YtlpmemelhlnfbaaGreatDoor
