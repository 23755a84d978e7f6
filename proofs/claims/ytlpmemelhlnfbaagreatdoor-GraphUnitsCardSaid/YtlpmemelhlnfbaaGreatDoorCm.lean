/- The program's calls on rational numbers that are run abstractly over further calls: Sub, Cmp. -/
import Derived.Test.YtlpmemelhlnfbaaGreatDoorCd
set_option linter.all false
set_option linter.all false
set_option maxRecDepth 100000
set_option maxHeartbeats 6400000
namespace Go.Proofs.YtlpmemelhlnfbaaGreatDoor
open Go.RowKit

theorem con_of_zp : ∀ args r, oZ (fun z => ratA (z : Rat)) args = some r → Con Tryz.prog 79 args r := fun args r hr => by
  unfold oZ at hr
  split at hr
  · rename_i z
    split at hr
    · rename_i hz
      cases hr
      refine con_ret fun w ok vs hv => ?_
      obtain ⟨v, rfl, hv1⟩ := rv_list1 hv
      cases hv1
      exact (rof_any w z hz.1 hz.2).mono fun _ _ h => h.ret
    · cases hr
  · cases hr
theorem okU_on {w w' : World} (hb : Below w.heap.size w w') {b o : Nat} (h : okU w b o) : okU w' b o := by
  obtain ⟨z, hz⟩ := h
  have hl : b < w.heap.size := World.block_lt_of_cell? w ⟨b, o, none⟩ hz
  exact ⟨z, by rw [hb.cell (p := ⟨b, o, none⟩) hl]; exact hz⟩
theorem rv1 {R : AV → Value → Prop} {a : AV} {v : Value} (h : R a v) : RV R [a] [v] := ⟨rfl, fun i d hi => by
  match i, hi with
  | 0, hi => cases hi; exact ⟨v, rfl, h⟩
  | i + 1, hi => simp at hi⟩
theorem rv2 {R : AV → Value → Prop} {a b : AV} {v u : Value} (h : R a v) (g : R b u) : RV R [a, b] [v, u] := ⟨rfl, fun i d hi => by
  match i, hi with
  | 0, hi => cases hi; exact ⟨v, rfl, h⟩
  | 1, hi => cases hi; exact ⟨u, rfl, g⟩
  | i + 2, hi => simp at hi⟩
section
variable {P : Program} {f : FuncId}
/-- the ends of a call whose arguments were taken for numbers -/
theorem con_up {w w' : World} {ok : Nat → Nat → Prop} {r : AV} {v : Value} (hb : Below w.heap.size w w') (h : RepT w' (okN (fun b o => ok b o ∨ okU w b o) w w') r v) : RepT w' (okN ok w w') r v :=
  h.mono (fun _ _ _ _ h => h) fun b o u h3 h4 => by
    rcases h3 with (h3 | h3) | h3 | h3
    · exact .inl h3
    · exact .inr (.inr (okU_on hb h3))
    · exact .inr (.inl h3)
    · exact .inr (.inr h3)
theorem Con.raw2 {A B : AV} {x y : Raw} {r : AV} (hA : decR A = some x) (hB : decR B = some y) (h : Con P f [x.av, y.av] r) : Con P f [A, B] r := by
  intro w ok vs hg hv
  obtain ⟨v, u, rfl, hv1, hv2⟩ := rv_list2 hv
  obtain ⟨a1, n1, c1, a2, n2, c2, rfl, h1, h2⟩ := decR_sound hv1 hA
  obtain ⟨a3, n3, c3, a4, n4, c4, rfl, h3, h4⟩ := decR_sound hv2 hB
  refine (h w (fun b o => ok b o ∨ okU w b o) _ (hg.mono (fun _ _ _ _ h => h) (fun _ _ _ h _ => .inl h) fun _ _ => rfl) (rv2 ((raw_rep h1 h2).mono (fun _ _ _ _ h => h) fun _ _ _ h _ => .inr h) ((raw_rep h3 h4).mono (fun _ _ _ _ h => h) fun _ _ _ h _ => .inr h))).mono ?_
  rintro e w' ⟨v, he, hr, hb⟩
  exact ⟨v, he, con_up hb hr, hb⟩
theorem con_raw2 {F : Raw → Raw → AV} (h : ∀ x y : Raw, Lim x.l1 → Lim x.l2 → Lim y.l1 → Lim y.l2 → x.few = true → y.few = true → Con P f [x.av, y.av] (F x y)) : ∀ args r, o2 F args = some r → Con P f args r := by
  intro args r hr
  unfold o2 at hr
  split at hr
  · rename_i a b
    split at hr
    · rename_i x y hx hy
      split at hr
      · rename_i hfew
        cases hr
        rw [Bool.and_eq_true] at hfew
        intro w ok vs hg hv
        obtain ⟨v, u, e, hv1, hv2⟩ := rv_list2 hv
        obtain ⟨a1, n1, c1, a2, n2, c2, _, h1, h2⟩ := decR_sound hv1 hx
        obtain ⟨a3, n3, c3, a4, n4, c4, _, h3, h4⟩ := decR_sound hv2 hy
        exact Con.raw2 hx hy (h x y h1.lim h2.lim h3.lim h4.lim hfew.1 hfew.2) w ok vs hg hv
      · cases hr
    · cases hr
  · cases hr
end
theorem o2_raw {F : Raw → Raw → AV} {x y : Raw} (h1 : Lim x.l1) (h2 : Lim x.l2) (h3 : Lim y.l1) (h4 : Lim y.l2) (hx : x.few = true) (hy : y.few = true) : o2 F [.agg [.lit (.bool x.s), natA x.l1, natA x.l2], .agg [.lit (.bool y.s), natA y.l1, natA y.l2]] = some (F x y) := by
  have e1 : decR (.agg [.lit (.bool x.s), natA x.l1, natA x.l2]) = some x := decR_av h1 h2
  have e2 : decR (.agg [.lit (.bool y.s), natA y.l1, natA y.l2]) = some y := decR_av h3 h4
  simp only [o2, e1, e2, hx, hy, Bool.and_self, if_true]
theorem o1_raw {F : Raw → AV} {x : Raw} (h1 : Lim x.l1) (h2 : Lim x.l2) (hx : x.few = true) : o1 F [.agg [.lit (.bool x.s), natA x.l1, natA x.l2]] = some (F x) := by
  have e1 : decR (.agg [.lit (.bool x.s), natA x.l1, natA x.l2]) = some x := decR_av h1 h2
  simp only [o1, e1, hx, if_true]
theorem raw_neg_q (x : Raw) : (⟨!x.s, x.l1, x.l2⟩ : Raw).q = -x.q := by
  unfold Raw.q sv
  rw [rat_neg]
-- Sub
noncomputable def fAddQ : List AV → Option AV := o2 fun x y => ratA (x.q + y.q)
noncomputable def orcS : FuncId → Option Orc := ext noO 136 (.pure fAddQ)
theorem orcS_ok : OrcOk Tryz.prog orcS := by
  refine OrcOk.extP OrcOk.none (by kernel_rfl) ?_
  exact con2 fun w x y a1 a2 a3 a4 n1 c1 n2 c2 n3 c3 n4 c4 h1 h2 h3 h4 b1 b2 b3 b4 => (radd_any w h1 h2 h3 h4 (by omega) (by omega) (by omega) (by omega)).mono fun _ _ h => h.ret
def decI : AV → Option (Bool × List Nat)
  | .agg [.lit (.bool s), a] => match decN a with
    | some l => some (s, l)
    | none => none
  | _ => none
def fewN (l : List Nat) : Bool := Nat.ble l.length 68719476736
def oI1 (F : Bool × List Nat → AV) : List AV → Option AV
  | [a] => match decI a with
    | some x => if fewN x.2 then some (F x) else none
    | none => none
  | _ => none
def oI2 (F : Bool × List Nat → Bool × List Nat → AV) : List AV → Option AV
  | [a, b] => match decI a, decI b with
    | some x, some y => if fewN x.2 && fewN y.2 then some (F x y) else none
    | _, _ => none
  | _ => none
def oN2 (F : List Nat → List Nat → AV) : List AV → Option AV
  | [a, b] => match decN a, decN b with
    | some x, some y => if fewN x && fewN y then some (F x y) else none
    | _, _ => none
  | _ => none
theorem decI_sound {w : World} {ok : Nat → Nat → Prop} {d : AV} {x : Bool × List Nat} {v : Value} (h : RepT w ok d v) (hd : decI d = some x) : ∃ a n c, v = .agg #[.bool x.1, .slice a n c] ∧ LimR w a n c x.2 := by
  unfold decI at hd
  split at hd
  · rename_i s a
    split at hd
    · rename_i l h1
      cases hd
      cases h with
      | agg hn hh =>
        rename_i vs
        have g0 := hh 0 _ rfl
        have g1 := hh 1 _ rfl
        obtain ⟨a1, n1, c1, e1, k1⟩ := decN_sound g1 h1
        refine ⟨a1, n1, c1, ?_, k1⟩
        have e0 : vs.getD 0 undef = .bool s := by
          generalize vs.getD 0 undef = x at g0
          cases g0; rfl
        congr 1
        apply Array.ext
        · simpa using hn
        · intro i hi1 hi2
          have h9 : i = 0 ∨ i = 1 := by simp at hi2; omega
          have gd : vs.getD i undef = vs[i] := by rw [Array.getD_eq_getD_getElem?, Array.getElem?_eq_getElem hi1]; rfl
          rcases h9 with rfl | rfl
          · rw [← gd, e0]; rfl
          · rw [← gd, e1]; rfl
    · cases hd
  · cases hd
theorem few_of {n : Nat} {l : List Nat} (h : fewN l = true) (hn : l.length = n) : n ≤ 68719476736 := by subst hn; exact Nat.le_of_ble_eq_true h
section
variable {P : Program} {f : FuncId}
theorem conI1 {F : Bool × List Nat → AV} (h : ∀ (w : World) (x : Bool × List Nat) (a : Option Addr) (n c : Nat), LimR w a n c x.2 → n ≤ 68719476736 → Calls P f #[.agg #[.bool x.1, .slice a n c]] w (Ret (F x) w)) : ∀ args r, oI1 F args = some r → Con P f args r := by
  intro args r hr
  unfold oI1 at hr
  split at hr
  · rename_i a
    split at hr
    · rename_i x hx
      split at hr
      · rename_i hfew
        cases hr
        refine con_ret fun w ok vs hv => ?_
        obtain ⟨v, rfl, hv1⟩ := rv_list1 hv
        obtain ⟨a1, n1, c1, rfl, h1⟩ := decI_sound hv1 hx
        exact h w x a1 n1 c1 h1 (few_of hfew h1.len)
      · cases hr
    · cases hr
  · cases hr
theorem conN2 {F : List Nat → List Nat → AV} (h : ∀ (w : World) (x y : List Nat) (a1 a2 : Option Addr) (n1 c1 n2 c2 : Nat), LimR w a1 n1 c1 x → LimR w a2 n2 c2 y → n1 ≤ 68719476736 → n2 ≤ 68719476736 → Calls P f #[.slice a1 n1 c1, .slice a2 n2 c2] w (Ret (F x y) w)) : ∀ args r, oN2 F args = some r → Con P f args r := by
  intro args r hr
  unfold oN2 at hr
  split at hr
  · rename_i a b
    split at hr
    · rename_i x y hx hy
      split at hr
      · rename_i hfew
        cases hr
        rw [Bool.and_eq_true] at hfew
        refine con_ret fun w ok vs hv => ?_
        obtain ⟨v, u, rfl, hv1, hv2⟩ := rv_list2 hv
        obtain ⟨a1, n1, c1, rfl, h1⟩ := decN_sound hv1 hx
        obtain ⟨a2, n2, c2, rfl, h2⟩ := decN_sound hv2 hy
        exact h w x y a1 a2 n1 c1 n2 c2 h1 h2 (few_of hfew.1 h1.len) (few_of hfew.2 h2.len)
      · cases hr
    · cases hr
  · cases hr
def intR (x : Bool × List Nat) : AV := .agg [.lit (.bool x.1), natA x.2]
theorem conI2r {F : Bool × List Nat → Bool × List Nat → AV} (h : ∀ x y : Bool × List Nat, Lim x.2 → Lim y.2 → fewN x.2 = true → fewN y.2 = true → Con P f [intR x, intR y] (F x y)) : ∀ args r, oI2 F args = some r → Con P f args r := by
  intro args r hr
  unfold oI2 at hr
  split at hr
  · rename_i a b
    split at hr
    · rename_i x y hx hy
      split at hr
      · rename_i hfew
        cases hr
        rw [Bool.and_eq_true] at hfew
        intro w ok vs hg hv
        obtain ⟨v, u, rfl, hv1, hv2⟩ := rv_list2 hv
        obtain ⟨a1, n1, c1, rfl, h1⟩ := decI_sound hv1 hx
        obtain ⟨a2, n2, c2, rfl, h2⟩ := decI_sound hv2 hy
        have rep : ∀ {x : Bool × List Nat} {a : Option Addr} {n c : Nat}, LimR w a n c x.2 → RepT w (fun b o => ok b o ∨ okU w b o) (intR x) (.agg #[.bool x.1, .slice a n c]) := fun {x a n c} h => by
          refine .agg rfl fun i d hi => ?_
          match i, hi with
          | 0, hi => cases hi; exact .lit _
          | 1, hi => cases hi; exact (natA_rep h).mono (fun _ _ _ _ h => h) fun _ _ _ h _ => .inr h
          | i + 2, hi => simp at hi
        refine (h x y h1.lim h2.lim hfew.1 hfew.2 w (fun b o => ok b o ∨ okU w b o) _ (hg.mono (fun _ _ _ _ h => h) (fun _ _ _ h _ => .inl h) fun _ _ => rfl) (rv2 (rep h1) (rep h2))).mono ?_
        rintro e w' ⟨v, he, hr, hb⟩
        exact ⟨v, he, con_up hb hr, hb⟩
      · cases hr
    · cases hr
  · cases hr
end
theorem sign_cases (x : Int) : (x < 0 ∧ x.sign = -1) ∨ (x = 0 ∧ x.sign = 0) ∨ (0 < x ∧ x.sign = 1) := by
  rcases Int.lt_trichotomy x 0 with h | h | h
  · exact .inl ⟨h, Int.sign_eq_neg_one_of_neg h⟩
  · exact .inr (.inl ⟨h, by rw [h]; rfl⟩)
  · exact .inr (.inr ⟨h, Int.sign_eq_one_of_pos h⟩)
theorem sub_sign {x y : Int} : (x.sign < y.sign → (x - y).sign = -1) ∧ (y.sign < x.sign → (x - y).sign = 1) := by
  rcases sign_cases x with h | h | h <;> rcases sign_cases y with g | g | g <;> rcases sign_cases (x - y) with k | k | k <;> omega
theorem icmp_plain (s1 s2 : Bool) (l1 l2 : List Nat) : (iv s1 l1).sign = (iv s2 l2).sign → ((iv s1 l1).sign < 0 → cmpN (val l2) (val l1) = (iv s1 l1 - iv s2 l2).sign) ∧ (¬ (iv s1 l1).sign < 0 → cmpN (val l1) (val l2) = (iv s1 l1 - iv s2 l2).sign) := by
  unfold iv cmpN
  generalize val l1 = a
  generalize val l2 = b
  intro h
  generalize hx : (if s1 = true then -(a : Int) else (a : Int)) = x at *
  generalize hy : (if s2 = true then -(b : Int) else (b : Int)) = y at *
  constructor
  · intro h0
    cases s1 <;> cases s2 <;> simp at hx hy <;> rcases sign_cases x with h1 | h1 | h1 <;> rcases sign_cases y with g | g | g <;> rcases sign_cases (x - y) with k | k | k <;> split <;> (try split) <;> omega
  · intro h0
    cases s1 <;> cases s2 <;> simp at hx hy <;> rcases sign_cases x with h1 | h1 | h1 <;> rcases sign_cases y with g | g | g <;> rcases sign_cases (x - y) with k | k | k <;> split <;> (try split) <;> omega
theorem oI1_raw {F : Bool × List Nat → AV} {s : Bool} {l : List Nat} (h1 : Lim l) (hx : fewN l = true) : oI1 F [.agg [.lit (.bool s), natA l]] = some (F (s, l)) := by
  have e1 : decI (.agg [.lit (.bool s), natA l]) = some (s, l) := by simp only [decI, decN_nat h1]
  simp only [oI1, e1, hx, if_true]
theorem oI2_raw {F : Bool × List Nat → Bool × List Nat → AV} {s t : Bool} {l m : List Nat} (h1 : Lim l) (h2 : Lim m) (hx : fewN l = true) (hy : fewN m = true) : oI2 F [.agg [.lit (.bool s), natA l], .agg [.lit (.bool t), natA m]] = some (F (s, l) (t, m)) := by
  have e1 : decI (.agg [.lit (.bool s), natA l]) = some (s, l) := by simp only [decI, decN_nat h1]
  have e2 : decI (.agg [.lit (.bool t), natA m]) = some (t, m) := by simp only [decI, decN_nat h2]
  simp only [oI2, e1, e2, hx, hy, Bool.and_self, if_true]
theorem oN2_raw {F : List Nat → List Nat → AV} {l m : List Nat} (h1 : Lim l) (h2 : Lim m) (hx : fewN l = true) (hy : fewN m = true) : oN2 F [natA l, natA m] = some (F l m) := by
  simp only [oN2, decN_nat h1, decN_nat h2, hx, hy, Bool.and_self, if_true]
-- integer.Cmp
noncomputable def fISgn : List AV → Option AV := oI1 fun x => .lit (.int .i64 (iv x.1 x.2).sign)
noncomputable def fNCmp : List AV → Option AV := oN2 fun x y => .lit (.int .i64 (cmpN (val x) (val y)))
noncomputable def orcI : FuncId → Option Orc := ext (ext noO 151 (.pure fISgn)) 191 (.pure fNCmp)
theorem orcI_ok : OrcOk Tryz.prog orcI := by
  refine OrcOk.extP (OrcOk.extP OrcOk.none (by kernel_rfl) ?_) (by kernel_rfl) ?_
  · exact conI1 fun w x a n c h hn => (isign_any w h (by omega)).mono fun _ _ h => h.ret
  · exact conN2 fun w x y a1 a2 n1 c1 n2 c2 h1 h2 b1 b2 => (ncmp_any w h1 h2 (by omega) (by omega)).mono fun e w' h => by
      obtain ⟨he, k, rfl⟩ := h
      exact ⟨_, he, .lit _, (Below.refl _ _).drewN k⟩
def icmpF (x y : Bool × List Nat) : AV := .lit (.int .i64 (iv x.1 x.2 - iv y.1 y.2).sign)
theorem icmp_run {x y : Bool × List Nat} (h1 : Lim x.2) (h2 : Lim y.2) (hx : fewN x.2 = true) (hy : fewN y.2 = true) : fnP Tryz.prog orcI noL 5 Tryz.f238 [intR x, intR y] = some (icmpF x y) := by
  obtain ⟨s, l⟩ := x
  obtain ⟨t, m⟩ := y
  have K1 : fISgn [.agg [.lit (.bool s), natA l]] = some (.lit (.int .i64 (iv s l).sign)) := oI1_raw h1 hx
  have K2 : fISgn [.agg [.lit (.bool t), natA m]] = some (.lit (.int .i64 (iv t m).sign)) := oI1_raw h2 hy
  have K3 : fNCmp [natA l, natA m] = some (.lit (.int .i64 (cmpN (val l) (val m)))) := oN2_raw h1 h2 hx hy
  have K4 : fNCmp [natA m, natA l] = some (.lit (.int .i64 (cmpN (val m) (val l)))) := oN2_raw h2 h1 hy hx
  have T1 : orcI 151 = some (.pure fISgn) := by unfold orcI ext; rw [if_neg (by decide), if_pos rfl]
  have T2 : orcI 191 = some (.pure fNCmp) := by unfold orcI ext; rw [if_pos rfl]
  have HP := icmp_plain s t l m
  have HS := sub_sign (x := iv s l) (y := iv t m)
  unfold icmpF
  dsimp only
  generalize (iv s l - iv t m).sign = z at *
  generalize (iv s l).sign = a at *
  generalize (iv t m).sign = b at *
  unfold fnP
  by_cases c1 : a < b
  · rw [HS.1 c1]
    simp +decide [Tryz.f238, intR, T1, T2, K1, K2, c1]
  by_cases c2 : b < a
  · rw [HS.2 c2]
    simp +decide [Tryz.f238, intR, T1, T2, K1, K2, c1, c2]
  obtain ⟨p1, p2⟩ := HP (by omega)
  by_cases c3 : a < 0
  · rw [← p1 c3]
    simp +decide [Tryz.f238, intR, T1, T2, K1, K2, K4, c1, c2, c3]
  · rw [← p2 c3]
    simp +decide [Tryz.f238, intR, T1, T2, K1, K2, K3, c1, c2, c3]
-- Cmp
def intA (z : Int) : AV := .agg [.lit (.bool (decide (z < 0))), natA (lmb z.natAbs)]
noncomputable def fSgnQ : List AV → Option AV := o1 fun x => .lit (.int .i64 (sgR x.q))
noncomputable def fCross : List AV → Option AV := o2 fun x y => .tup [intA (iv x.s x.l1 * dn y.l2), intA (iv y.s y.l1 * dn x.l2)]
noncomputable def fICmp : List AV → Option AV := oI2 icmpF
noncomputable def orcC : FuncId → Option Orc := ext (ext (ext noO 77 (.pure fSgnQ)) 188 (.pure fCross)) 238 (.pure fICmp)
theorem intC_rep {w : World} {s : Bool} {a : Option Addr} {n c : Nat} {z : Int} (h : IntC w s a n c z) : RepT w (okU w) (intA z) (.agg #[.bool s, .slice a n c]) := by
  have e : s = decide (z < 0) := h.sign.out
  subst e
  refine .agg rfl fun i d hi => ?_
  match i, hi with
  | 0, hi => cases hi; exact .lit _
  | 1, hi => cases hi; exact natA_rep h.mag
  | i + 2, hi => simp at hi
theorem orcC_ok : OrcOk Tryz.prog orcC := by
  refine OrcOk.extP (OrcOk.extP (OrcOk.extP OrcOk.none (by kernel_rfl) ?_) (by kernel_rfl) ?_) (by kernel_rfl) ?_
  · exact con1 fun w x a1 a2 n1 c1 n2 c2 h1 h2 b1 b2 => (rsign_any w x.l2 h1 (by omega)).mono fun _ _ h => h.ret
  · exact con2 fun w x y a1 a2 a3 a4 n1 c1 n2 c2 n3 c3 n4 c4 h1 h2 h3 h4 b1 b2 b3 b4 => (cross_any w h1 h2 h3 h4 (by omega) (by omega) (by omega) (by omega)).mono fun e w' h => by
      obtain ⟨s1, a1, n1, c1, s2, a2, n2, c2, rfl, g1, g2, hb⟩ := h
      refine ⟨_, rfl, .tup rfl fun i d hi => ?_, hb⟩
      match i, hi with
      | 0, hi => cases hi; exact intC_rep g1
      | 1, hi => cases hi; exact intC_rep g2
      | i + 2, hi => simp at hi
  · exact conI2r fun x y h1 h2 hx hy => con_of orcI_ok mixed Tryz.func238 (body_some (by kernel_rfl) Tryz.func238) (icmp_run h1 h2 hx hy)
theorem sgR_mk {z : Int} {d : Nat} (h : 0 < d) : sgR (mkRat z d) = z.sign := by
  have h2 := sgR_sv (decide (z < 0)) (lmb z.natAbs) (lmb d)
  have e : iv (decide (z < 0)) (lmb z.natAbs) = z := by
    unfold iv
    rw [val_lmb]
    by_cases hz : z < 0 <;> simp [hz] <;> omega
  have e2 : sv (decide (z < 0)) (lmb z.natAbs) (lmb d) = mkRat z d := by
    have e3 : dn (lmb d) = d := by
      unfold dn
      rw [val_lmb]
      have h0 : ¬ d = 0 := by omega
      simp only [h0, if_false]
    unfold sv
    rw [e3]
    have e4 : sgi (decide (z < 0)) (val (lmb z.natAbs)) = z := e
    rw [e4]
  rw [e, e2] at h2
  exact h2.symm
theorem sv_sub (x y : Raw) : sgR (x.q - y.q) = (iv x.s x.l1 * (dn y.l2 : Int) - iv y.s y.l1 * (dn x.l2 : Int)).sign := by
  rw [Rat.sub_eq_add_neg, ← raw_neg_q]
  unfold Raw.q sv
  rw [← rat_add _ _ (dn_pos _) (dn_pos _), sgR_mk (Nat.mul_pos (dn_pos _) (dn_pos _))]
  congr 1
  have e : sgi (!y.s) (val y.l1) = -(iv y.s y.l1) := by
    unfold sgi iv
    cases y.s <;> simp
  dsimp only
  rw [e, Int.neg_mul, Int.sub_eq_add_neg]
  rfl
theorem sgR_sub {p q : Rat} : (sgR p < sgR q → sgR (p - q) = -1) ∧ (sgR q < sgR p → sgR (p - q) = 1) := by
  have np : ∀ r : Rat, (r < 0 ∧ sgR r = -1) ∨ (r = 0 ∧ sgR r = 0) ∨ (0 < r ∧ sgR r = 1) := fun r => by
    have h1 := @Rat.num_nonneg r
    have h2 : r.num = 0 ↔ r = 0 := Rat.num_eq_zero
    unfold sgR
    rcases sign_cases r.num with h | h | h
    · refine .inl ⟨?_, h.2⟩
      have : ¬ 0 ≤ r := fun h3 => by have := h1.2 h3; omega
      grind
    · exact .inr (.inl ⟨h2.1 h.1, h.2⟩)
    · refine .inr (.inr ⟨?_, h.2⟩)
      have h3 := h1.1 (by omega)
      have h4 : r ≠ 0 := fun h4 => by have := h2.2 h4; omega
      grind
  rcases np p with h | h | h <;> rcases np q with g | g | g <;> rcases np (p - q) with k | k | k <;> first | omega | grind
theorem few_mul {x y : Raw} (h1 : Lim x.l1) (h4 : Lim y.l2) (hx : x.few = true) (hy : y.few = true) : fewN (lmb (iv x.s x.l1 * (dn y.l2 : Int)).natAbs) = true := by
  have a1 := (Raw.few_parts hx).1
  have a2 := (Raw.few_parts hy).2
  have e1 := lmb_len_mul (val x.l1) (dn y.l2)
  have e2 := lmb_len_val h1
  have e3 : (lmb (dn y.l2)).length ≤ y.l2.length + 1 := by
    unfold dn
    split
    · rw [lmb_one]; simp
    · have := lmb_len_val h4; omega
  have e4 : (iv x.s x.l1 * (dn y.l2 : Int)).natAbs = val x.l1 * dn y.l2 := by
    rw [Int.natAbs_mul, Int.natAbs_natCast]
    congr 1
    unfold iv
    cases x.s <;> simp
  rw [e4]
  exact Nat.ble_eq_true_of_le (by omega)
theorem pcmp_run {x y : Raw} (h1 : Lim x.l1) (h2 : Lim x.l2) (h3 : Lim y.l1) (h4 : Lim y.l2) (hx : x.few = true) (hy : y.few = true) : fnP Tryz.prog orcC noL 5 Tryz.f205 [x.av, y.av] = some (.lit (.int .i64 (sgR (x.q - y.q)))) := by
  have K1 : fSgnQ [.agg [.lit (.bool x.s), natA x.l1, natA x.l2]] = some (.lit (.int .i64 (sgR x.q))) := o1_raw h1 h2 hx
  have K2 : fSgnQ [.agg [.lit (.bool y.s), natA y.l1, natA y.l2]] = some (.lit (.int .i64 (sgR y.q))) := o1_raw h3 h4 hy
  have K3 : fCross [.agg [.lit (.bool x.s), natA x.l1, natA x.l2], .agg [.lit (.bool y.s), natA y.l1, natA y.l2]] = some (.tup [intA (iv x.s x.l1 * dn y.l2), intA (iv y.s y.l1 * dn x.l2)]) := o2_raw h1 h2 h3 h4 hx hy
  have key : ∀ p q : Int, fewN (lmb p.natAbs) = true → fewN (lmb q.natAbs) = true → fICmp [.agg [.lit (.bool (decide (p < 0))), natA (lmb p.natAbs)], .agg [.lit (.bool (decide (q < 0))), natA (lmb q.natAbs)]] = some (.lit (.int .i64 (p - q).sign)) := fun p q hp hq => by
    unfold fICmp
    rw [oI2_raw (lim_lmb _) (lim_lmb _) hp hq]
    have e : ∀ z : Int, iv (decide (z < 0)) (lmb z.natAbs) = z := fun z => by
      unfold iv
      rw [val_lmb]
      by_cases hz : z < 0 <;> simp [hz] <;> omega
    unfold icmpF
    dsimp only
    rw [e, e]
  have K4 := key (iv x.s x.l1 * dn y.l2) (iv y.s y.l1 * dn x.l2) (few_mul h1 h4 hx hy) (few_mul h3 h2 hy hx)
  rw [← sv_sub] at K4
  have T1 : orcC 77 = some (.pure fSgnQ) := by unfold orcC ext; rw [if_neg (by decide), if_neg (by decide), if_pos rfl]
  have T2 : orcC 188 = some (.pure fCross) := by unfold orcC ext; rw [if_neg (by decide), if_pos rfl]
  have T3 : orcC 238 = some (.pure fICmp) := by unfold orcC ext; rw [if_pos rfl]
  have HS := sgR_sub (p := x.q) (q := y.q)
  generalize iv x.s x.l1 * (dn y.l2 : Int) = p at *
  generalize iv y.s y.l1 * (dn x.l2 : Int) = q at *
  generalize sgR (x.q - y.q) = z at *
  generalize sgR x.q = a at *
  generalize sgR y.q = b at *
  unfold fnP
  by_cases c0 : a = b
  · have c1 : (a == b) = true := by rw [c0]; simp
    have c2 : (a != b) = false := by rw [c0]; simp
    simp +decide [Tryz.f205, Raw.av, T1, T2, T3, K1, K2, K3, intA, K4, c1, c2]
  · have c1 : (a == b) = false := by simpa using c0
    have c2 : (a != b) = true := by simpa using c0
    by_cases c3 : a < b
    · rw [HS.1 c3]
      simp +decide [Tryz.f205, Raw.av, T1, T2, T3, K1, K2, c1, c2, c3]
    · rw [HS.2 (by omega)]
      simp +decide [Tryz.f205, Raw.av, T1, T2, T3, K1, K2, c1, c2, c3]
theorem con_pcmp : ∀ args r, o2 (fun x y => .lit (.int .i64 (sgR (x.q - y.q)))) args = some r → Con Tryz.prog 205 args r :=
  con_raw2 fun x y h1 h2 h3 h4 hx hy => con_of orcC_ok mixed Tryz.func205 (body_some (by kernel_rfl) Tryz.func205) (pcmp_run h1 h2 h3 h4 hx hy)
end Go.Proofs.YtlpmemelhlnfbaaGreatDoor
