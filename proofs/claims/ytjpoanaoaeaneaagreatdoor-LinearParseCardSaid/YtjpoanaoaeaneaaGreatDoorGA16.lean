import Derived.Test.YtjpoanaoaeaneaaGreatDoorGA12
import Derived.Test.YtjpoanaoaeaneaaGreatDoorGA14
import Derived.Test.YtjpoanaoaeaneaaGreatDoorGA15
import Derived.Test.YtjpoanaoaeaneaaGreatDoorGA7
import Derived.Test.YtjpoanaoaeaneaaGreatDoorGA5
import Derived.Test.YtjpoanaoaeaneaaGreatDoorGA6
import Derived.Test.YtjpoanaoaeaneaaGreatDoorGA9
set_option linter.all false
set_option maxRecDepth 100000
set_option maxHeartbeats 6400000
set_option exponentiation.threshold 400
namespace Go.Proofs.YtjpoanaoaeaneaaGreatDoor
open Go.RowKit
attribute [local irreducible] run runL loopG exec
theorem skL_idem : ∀ l : List UInt8, skL (skL l) = skL l
  | [] => rfl
  | c :: l => by
    by_cases h : c = 32
    · rw [h, skL_b]; exact skL_idem l
    · rw [skL_ne h, skL_ne h]
theorem skL_D {l : List UInt8} (h : isIn D10 l = true) : skL l = l := by
  obtain ⟨c, r, rfl, hd⟩ := (isIn_D l).1 h
  exact skL_ne (isD_ne hd (by decide))
theorem hd_is {l : List UInt8} {c : UInt8} (hc : 0 < c.toNat) : hd l = (c.toNat : Int) ↔ ∃ r, l = c :: r := by
  cases l with
  | nil => exact ⟨fun h => (by have : hd [] = 0 := rfl; omega), fun ⟨r, h⟩ => (by cases h)⟩
  | cons d r =>
    have e : hd (d :: r) = (d.toNat : Int) := rfl
    rw [e]
    exact ⟨fun h => ⟨r, by rw [u8n.2 (by omega : d.toNat = c.toNat)]⟩, fun ⟨r', h⟩ => by cases h; rfl⟩
section
variable {n k : Nat} {L l : List UInt8} {f : Form} {neg : Bool}
theorem rB_sc {c : UInt8} {bad : Bool} (h : c :: l <:+ L) : rB L l bad = .box 108 [.lit (.string (bs L)), .lit (.int .i64 (po L (c :: l) + 1)), .lit (.bool bad)] false := by
  rw [(po_lt h).2]; rfl
theorem rvr_n (hL : L.length ≤ 1000) (h : 120 :: l <:+ L) (hn : nmP true 9 l = none) : runL (n + 3) 149 [.ptr 0 0] [rB L (120 :: l) false] = some (.lit (.int .i64 0), [(0, rB L l true)]) := by
  have K := rdg_n (n := n) (most := 9) hL (suf_tl h) hn
  rw [rB_sc h] at K
  exact rvr_f1 (n := n) (a0 := ⟨bs L, po L (120 :: l), false⟩) (r := []) (po_in hL h) K (k_uint (k := 0) (by omega)) ⟨by omega, by omega⟩
theorem rvr_s (hL : L.length ≤ 1000) (h : 120 :: l <:+ L) {d r : List UInt8} (hn : nmP true 9 l = some (d, r)) : runL (n + 3) 149 [.ptr 0 0] [rB L (120 :: l) false] = some (.lit (.int .i64 (dgV d 0 : Nat)), [(0, rB L r (isIn D10 r))]) := by
  have K := rdg_s (n := n) (most := 9) hL (suf_tl h) (by omega) (by omega) hn
  rw [rB_sc h] at K
  obtain ⟨e1, e2, e3, e4⟩ := nmP_ok hn (by omega)
  have hlt : dgV d 0 < 10 ^ 9 := Nat.lt_of_lt_of_le (dgV_lt d 0 0 e2 (by decide)) (Nat.pow_le_pow_right (by omega) (by omega))
  exact rvr_f1 (n := n) (a0 := ⟨bs L, po L (120 :: l), false⟩) (po_in hL h) K (k_uint (k := dgV d 0) (by omega)) ⟨by omega, by omega⟩
def RpE (n : Nat) (L : List UInt8) (f : Form) (neg : Bool) (l r : List UInt8) : Prop := runL (n + 4) 79 [.ptr 0 0, formV f, .lit (.bool neg)] [rB L l false] = some (formV f, [(0, rB L r true)])
def RpR (n : Nat) (L : List UInt8) (f : Form) (neg : Bool) (l : List UInt8) : Except (List UInt8) (Form × List UInt8) → Prop
  | .error r => RpE n L f neg l r
  | .ok p => (isIn D10 p.2 = true ∧ RpE n L f neg l p.2) ∨ runL (n + 4) 79 [.ptr 0 0, formV f, .lit (.bool neg)] [rB L l false] = some (formV p.1, [(0, rB L p.2 false)])
theorem one_l1 : (rawQ (ofQ 1)).l1 = lmb 1 := by decide +kernel
theorem one_l2 : (rawQ (ofQ 1)).l2 = [] := by decide +kernel
theorem plus_r {m : Nat} {v : Int} {c : Raw} {q : Rat} (hf : RdF k f) (hk : k ≤ 1000) (hR : RawB c) (hc : c.q = q) (hq : H q ≤ 100) : run (m + 1) 98 [formV f, .lit (.int .i64 v), .agg [.lit (.bool c.s), natA c.l1, natA c.l2]] = some (formV (plusV false f.1 v q, f.2)) := by
  have := plusR_c (n := m) (v := v) (hf.t.mono (by omega)) (by have := hf.l; omega) hR (by rw [hc]; omega)
  rw [hc] at this
  exact this
theorem va_r {q : Rat} (h : 120 :: l <:+ L) (hL : L.length ≤ 1000) {l0 : List UInt8}
    (h0 : ∀ r v, runL (n + 3) 149 [.ptr 0 0] [rB L (120 :: l) false] = some (.lit (.int .i64 v), [(0, rB L r true)]) → RpE n L f neg l0 r)
    (h1 : ∀ r v, runL (n + 3) 149 [.ptr 0 0] [rB L (120 :: l) false] = some (.lit (.int .i64 v), [(0, rB L r false)]) → runL (n + 4) 79 [.ptr 0 0, formV f, .lit (.bool neg)] [rB L l0 false] = some (formV (plusV false f.1 v q, f.2), [(0, rB L r false)])) :
    RpR n L f neg l0 (vaL f q l) := by
  unfold vaL
  rw [nm_P]
  cases e : nmP true 9 l with
  | none => exact h0 l 0 (rvr_n hL h e)
  | some p =>
    obtain ⟨d, r⟩ := p
    have K := rvr_s (n := n) hL h e
    cases c : isIn D10 r with
    | true => rw [c] at K; exact .inl ⟨c, h0 r _ K⟩
    | false => rw [c] at K; exact .inr (h1 r _ K)
theorem rpart_c (hL : L.length ≤ 1000) (h : l <:+ L) (hf : RdF k f) (hk : k ≤ 1000) : RpR n L f neg l (paL f neg (skL l)) := by
  have hc2 := hf.c
  have K1 := rbk_c (n := n + 2) (bad := false) hL h
  have h1 := (skL_suf l).trans h
  have K3 := rpk_c (n := n + 3) (bad := false) hL h1
  have n120 : 0 < (120 : UInt8).toNat := by decide
  by_cases c4 : hd (skL l) = 120
  · obtain ⟨r, er⟩ := (hd_is n120).1 c4
    rw [er] at K1 K3 h1 c4 ⊢
    rw [paL, if_pos rfl]
    have hq : qv neg 1 1 = (rdR neg 1 none).q := (rdR_q neg 1 none (fun _ h => (by cases h))).symm
    have hH : H (qv neg 1 1) ≤ 100 := qv_H (by decide +kernel) (by decide +kernel) (by omega)
    have hR : RawB (rdR neg 1 none) := rdR_b (by decide +kernel) (fun _ h => (by cases h))
    refine va_r h1 hL (fun r v K5 => rpa_f12 (n := n) (a0 := ⟨bs L, po L l, false⟩) K1 K3 c4 K5 rfl) (fun r v K5 => ?_)
    have P := plus_r (m := n + 2) (v := v) hf hk hR hq.symm hH
    refine rpa_f13 (n := n) (a0 := ⟨bs L, po L l, false⟩) K1 K3 c4 K5 rfl ?_
    rw [one_l1, one_l2]
    exact P
  · have hx : isIn [120] (skL l) = false := by
      cases e : isIn [120] (skL l) with
      | false => rfl
      | true => obtain ⟨r, er⟩ := isIn_t e; exact absurd (by rw [er]; rfl) c4
    have hp : paL f neg (skL l) = nuL f neg (skL l) := by
      cases e : skL l with
      | nil => rfl
      | cons c r => rw [e] at hx; rw [paL, if_neg (isIn_f hx)]
    rw [hp]
    unfold nuL
    rw [nm_P]
    cases e : nmP true 200 (skL l) with
    | none =>
      have K5 := rdg_n (n := n + 1) (most := 200) hL h1 e
      have K6 := rbk_c (n := n + 2) (bad := true) hL h1
      rw [skL_idem] at K6
      exact rpa_f11 (n := n) (a0 := ⟨bs L, po L l, false⟩) (r2 := []) K1 K3 c4 K5 K6 rfl
    | some p =>
      obtain ⟨d, r⟩ := p
      show RpR n L f neg l (deL f neg (dgV d 0) (skL r))
      obtain ⟨e1, e2, e3, e4⟩ := nmP_ok e (by omega)
      have hr : r <:+ L := List.IsSuffix.trans ⟨d, e1.symm⟩ h1
      have ha := nmP_small e (by omega) (by omega)
      have K5 := rdg_s (n := n + 1) (most := 200) hL h1 (by omega) (by omega) e
      have hq : qv neg (dgV d 0) 1 = (rdR neg (dgV d 0) none).q := (rdR_q neg (dgV d 0) none (fun _ h => (by cases h))).symm
      have hH : H (qv neg (dgV d 0) 1) ≤ 100 := qv_H ha (by decide +kernel) (by omega)
      have hR : RawB (rdR neg (dgV d 0) none) := rdR_b ha (fun _ h => (by cases h))
      cases b1 : isIn D10 r with
      | true =>
        rw [b1] at K5
        have K6 := rbk_c (n := n + 2) (bad := true) hL hr
        rw [skL_D b1] at K6 ⊢
        obtain ⟨c, r', rfl, hd2⟩ := (isIn_D r).1 b1
        rw [deL, if_neg (isD_ne hd2 (by decide)), afL, if_neg (isD_ne hd2 (by decide))]
        exact .inl ⟨b1, rpa_f11 (n := n) (a0 := ⟨bs L, po L l, false⟩) K1 K3 c4 K5 K6 rfl⟩
      | false =>
        rw [b1] at K5
        have K6 := rbk_c (n := n + 2) (bad := false) hL hr
        have hs := (skL_suf r).trans hr
        have K8 := rpk_c (n := n + 3) (bad := false) hL hs
        by_cases c9 : hd (skL r) = 47
        · obtain ⟨r1, er⟩ := (hd_is (c := 47) (by decide)).1 c9
          rw [er] at K6 K8 hs c9 ⊢
          have W := po_in hL hs
          have hs1 := suf_tl hs
          have K11 := rbk_c (n := n + 2) (bad := false) hL hs1
          rw [rB_sc hs] at K11
          have hs2 := (skL_suf r1).trans hs1
          rw [deL, if_pos rfl, nm_P]
          cases e6 : nmP false 200 (skL r1) with
          | none =>
            have K12 := rdg_n (n := n + 1) (most := 200) hL hs2 e6
            have K13 := rbk_c (n := n + 2) (bad := true) hL hs2
            rw [skL_idem] at K13
            exact rpa_f1 (n := n) (a0 := ⟨bs L, po L l, false⟩) (r4 := []) K1 K3 c4 K5 K6 rfl K8 c9 W K11 K12 K13 rfl
          | some p2 =>
            obtain ⟨d2, r3⟩ := p2
            show RpR n L f neg l (afL f (qv neg (dgV d 0) (dgV d2 0)) (skL r3))
            obtain ⟨f1, f2, f3, f4⟩ := nmP_ok e6 (by omega)
            have hs3 : r3 <:+ L := List.IsSuffix.trans ⟨d2, f1.symm⟩ hs2
            have K12 := rdg_s (n := n + 1) (most := 200) hL hs2 (by omega) (by omega) e6
            have hb := nmP_small e6 (by omega) (by omega)
            have hb0 := nmP_pos e6 (by omega)
            have hq2 : qv neg (dgV d 0) (dgV d2 0) = (rdR neg (dgV d 0) (some (dgV d2 0))).q := (rdR_q neg (dgV d 0) (some (dgV d2 0)) (fun _ h => (by cases h; exact hb0))).symm
            have hH2 : H (qv neg (dgV d 0) (dgV d2 0)) ≤ 100 := qv_H ha hb hb0
            have hR2 : RawB (rdR neg (dgV d 0) (some (dgV d2 0))) := rdR_b ha (fun _ h => (by cases h; exact hb))
            cases b2 : isIn D10 r3 with
            | true =>
              rw [b2] at K12
              have K13 := rbk_c (n := n + 2) (bad := true) hL hs3
              rw [skL_D b2] at K13 ⊢
              obtain ⟨c, r', rfl, hd2⟩ := (isIn_D r3).1 b2
              rw [afL, if_neg (isD_ne hd2 (by decide))]
              exact .inl ⟨b2, rpa_f1 (n := n) (a0 := ⟨bs L, po L l, false⟩) K1 K3 c4 K5 K6 rfl K8 c9 W K11 K12 K13 rfl⟩
            | false =>
              rw [b2] at K12
              have K13 := rbk_c (n := n + 2) (bad := false) hL hs3
              have hs4 := (skL_suf r3).trans hs3
              have K15 := rpk_c (n := n + 3) (bad := false) hL hs4
              by_cases c16 : hd (skL r3) = 42
              · obtain ⟨r4, er4⟩ := (hd_is (c := 42) (by decide)).1 c16
                rw [er4] at K13 K15 hs4 c16 ⊢
                rw [afL, if_pos rfl]
                have W2 := po_in hL hs4
                have hs5 := suf_tl hs4
                have K18 := rbk_c (n := n + 2) (bad := false) hL hs5
                rw [rB_sc hs4] at K18
                have hs6 := (skL_suf r4).trans hs5
                have K19 := rpk_c (n := n + 3) (bad := false) hL hs6
                by_cases c20 : hd (skL r4) = 120
                · obtain ⟨r5, er5⟩ := (hd_is n120).1 c20
                  rw [er5] at K18 K19 hs6 c20 ⊢
                  dsimp only
                  rw [if_pos rfl]
                  exact va_r hs6 hL (fun r v K21 => rpa_f4 (n := n) (a0 := ⟨bs L, po L l, false⟩) K1 K3 c4 K5 K6 rfl K8 c9 W K11 K12 K13 rfl K15 c16 W2 K18 K19 c20 K21 rfl)
                    (fun r v K21 => rpa_f5 (n := n) (a0 := ⟨bs L, po L l, false⟩) K1 K3 c4 K5 K6 rfl K8 c9 W K11 K12 K13 rfl K15 c16 W2 K18 K19 c20 K21 rfl (plus_r (m := n + 2) (v := v) hf hk hR2 hq2.symm hH2))
                · have T : RpE n L f neg l (skL r4) := rpa_f3 (n := n) (a0 := ⟨bs L, po L l, false⟩) K1 K3 c4 K5 K6 rfl K8 c9 W K11 K12 K13 rfl K15 c16 W2 K18 K19 c20
                  cases e7 : skL r4 with
                  | nil => rw [e7] at T; exact T
                  | cons x y =>
                    rw [e7] at T c20
                    dsimp only
                    rw [if_neg (fun e => c20 (by rw [e]; rfl))]
                    exact T
              · have e5 : afL f (qv neg (dgV d 0) (dgV d2 0)) (skL r3) = .ok ((f.1, f.2 + qv neg (dgV d 0) (dgV d2 0)), skL r3) := by
                  cases e : skL r3 with
                  | nil => rfl
                  | cons x y => rw [e] at c16; rw [afL, if_neg (fun e => c16 (by rw [e]; rfl))]
                rw [e5, hq2]
                exact .inr (rpa_f2 (n := n) (a0 := ⟨bs L, po L l, false⟩) K1 K3 c4 K5 K6 rfl K8 c9 W K11 K12 K13 rfl K15 c16 (by omega) hR2)
        · have e0 : deL f neg (dgV d 0) (skL r) = afL f (qv neg (dgV d 0) 1) (skL r) := by
            cases e : skL r with
            | nil => rfl
            | cons x y => rw [e] at c9; rw [deL, if_neg (fun e => c9 (by rw [e]; rfl))]
          rw [e0]
          by_cases c12 : hd (skL r) = 42
          · obtain ⟨r4, er4⟩ := (hd_is (c := 42) (by decide)).1 c12
            rw [er4] at K6 K8 hs c9 c12 ⊢
            rw [afL, if_pos rfl]
            have W2 := po_in hL hs
            have hs5 := suf_tl hs
            have K14 := rbk_c (n := n + 2) (bad := false) hL hs5
            rw [rB_sc hs] at K14
            have hs6 := (skL_suf r4).trans hs5
            have K15 := rpk_c (n := n + 3) (bad := false) hL hs6
            by_cases c16 : hd (skL r4) = 120
            · obtain ⟨r5, er5⟩ := (hd_is n120).1 c16
              rw [er5] at K14 K15 hs6 c16 ⊢
              dsimp only
              rw [if_pos rfl]
              refine va_r hs6 hL (fun r v K17 => rpa_f9 (n := n) (a0 := ⟨bs L, po L l, false⟩) K1 K3 c4 K5 K6 rfl K8 c9 rfl K8 c12 W2 K14 K15 c16 K17 rfl) (fun r v K17 => ?_)
              have P := plus_r (m := n + 2) (v := v) hf hk hR hq.symm hH
              refine rpa_f10 (n := n) (a0 := ⟨bs L, po L l, false⟩) K1 K3 c4 K5 K6 rfl K8 c9 rfl K8 c12 W2 K14 K15 c16 K17 rfl ?_
              rw [one_l2]
              exact P
            · have T : RpE n L f neg l (skL r4) := rpa_f8 (n := n) (a0 := ⟨bs L, po L l, false⟩) K1 K3 c4 K5 K6 rfl K8 c9 rfl K8 c12 W2 K14 K15 c16
              cases e7 : skL r4 with
              | nil => rw [e7] at T; exact T
              | cons x y =>
                rw [e7] at T c16
                dsimp only
                rw [if_neg (fun e => c16 (by rw [e]; rfl))]
                exact T
          · have e5 : afL f (qv neg (dgV d 0) 1) (skL r) = .ok ((f.1, f.2 + qv neg (dgV d 0) 1), skL r) := by
              cases e : skL r with
              | nil => rfl
              | cons x y => rw [e] at c12; rw [afL, if_neg (fun e => c12 (by rw [e]; rfl))]
            rw [e5, hq]
            have hR' : RawB (⟨neg, lmb (dgV d 0), (rawQ (ofQ 1)).l2⟩ : Raw) := by rw [one_l2]; exact hR
            have T := rpa_f7 (n := n) (a1 := f) (a2 := neg) (a0 := ⟨bs L, po L l, false⟩) K1 K3 c4 K5 K6 rfl K8 c9 rfl K8 c12 (by omega) hR'
            rw [one_l2] at T
            exact .inr T
end
end Go.Proofs.YtjpoanaoaeaneaaGreatDoor
set_option linter.all false
set_option maxRecDepth 100000
set_option maxHeartbeats 6400000
namespace Go.Proofs.YtjpoanaoaeaneaaGreatDoor
open Go.RowKit
noncomputable def lps_C7 : Code := (loopsOf (bodyOf Tryz.f19)).getD 0 .skip
def lps_h7 (a0 : ByteArray) (d_7 : Bool) (i_7 : Int) (l_7 : List (Int × Rat)) (s_7 : Rat) : St :=
  ⟨[(0, .lit (.string a0)), (2, .ptr 0 0), (5, .ptr 1 0), (6, .ptr 2 0), (7, .lit (.bool d_7))],
   [(0, some (.box 28 [.nl 4, .lit (.bool false), .nl 1, .nl 1] false)),
    (1, some (.box 98 [.lit (.string a0), .lit (.int .i64 i_7)] false)),
    (2, some (.box 28 [.sl 4 (l_7.map termC), .lit (.bool (rawQ s_7).s), natA (rawQ s_7).l1, natA (rawQ s_7).l2] false))], 3⟩
def lps_o7a (z15 : Int) : St :=
  ⟨[(2, .ptr 0 0), (3, .lit (.int .i64 z15)), (4, .lit (.int .i64 4))],
   [(0, some (.box 28 [.nl 4, .lit (.bool false), .nl 1, .nl 1] false))], 1⟩
def lps_o7b (r11 : Form) : St :=
  ⟨[(2, .ptr 0 0), (3, .lit (.int .i64 0)), (4, .lit (.int .i64 0))],
   [(0, some (.box 28 [.sl 4 (r11.1.map termC), .lit (.bool (rawQ r11.2).s), natA (rawQ r11.2).l1, natA (rawQ r11.2).l2] false))], 1⟩
def lps_o7c (z17 : Int) : St :=
  ⟨[(2, .ptr 0 0), (3, .lit (.int .i64 z17)), (4, .lit (.int .i64 4))],
   [(0, some (.box 28 [.nl 4, .lit (.bool false), .nl 1, .nl 1] false))], 1⟩
section
variable {r12 : Bool} {r14 : Bool} {z16 : Int} {z14 : Int} {a0 : ByteArray} {s_7 : Rat} {d_7 : Bool} {l_7 : List (Int × Rat)} {z15 : Int} {i_7 : Int} {z17 : Int} {r13 : Bool} {n : Nat} {r11 : Form} {z18 : Int} {r : Bool} {z2 : Int} {r2 : Bool} {z : Int} {z3 : Int}
theorem lps_r7_1 (K1 : runL (n + 10) 69 [.ptr 0 0] [.box 98 [.lit (.string a0), .lit (.int .i64 i_7)] false] = some (.tup [], [(0, .box 98 [.lit (.string a0), .lit (.int .i64 z14)] false)])) (K2 : runL (n + 10) 71 [.ptr 0 0, formV (l_7, s_7), .lit (.bool d_7)] [.box 98 [.lit (.string a0), .lit (.int .i64 z14)] false] = some (.tup [formV r11, .lit (.bool r12)], [(0, .box 98 [.lit (.string a0), .lit (.int .i64 z15)] false)])) (C3 : r12 = true) (K4 : runL (n + 10) 69 [.ptr 0 0] [.box 98 [.lit (.string a0), .lit (.int .i64 z15)] false] = some (.tup [], [(0, .box 98 [.lit (.string a0), .lit (.int .i64 z16)] false)])) (C5 : ¬ z16 = (a0.size : Int)) (K6 : runL (n + 10) 70 [.ptr 0 0, .lit (.string (⟨#[43, 45]⟩ : ByteArray))] [.box 98 [.lit (.string a0), .lit (.int .i64 z16)] false] = some (.lit (.bool r13), [(0, .box 98 [.lit (.string a0), .lit (.int .i64 z17)] false)])) (C7 : r13 = true) (K8 : runL (n + 10) 70 [.ptr 0 0, .lit (.string (⟨#[45]⟩ : ByteArray))] [.box 98 [.lit (.string a0), .lit (.int .i64 z17)] false] = some (.lit (.bool r14), [(0, .box 98 [.lit (.string a0), .lit (.int .i64 z18)] false)])) (W9 : InI (z18 + 1)) :
    Cont 0 (exec Tryz.prog (tab (n + 11)) 0 68 (livesOf 19) big lps_C7) (livesOf 19 7) (lps_h7 a0 d_7 i_7 l_7 s_7) (lps_h7 a0 r14 (z18 + 1) r11.1 r11.2) := by
  simp only [formV] at K2
  have C5_ : (z16 == (a0.size : Int)) = false := by simpa using C5
  have C5_n : (z16 != (a0.size : Int)) = true := by simpa using C5
  have W9_ : IntKind.i64.wrap (z18 + 1) = z18 + 1 := wr64 W9.1 W9.2
  rw [C3] at K2
  rw [C7] at K6
  unfold Cont
  simp +decide [lps_h7, loopsOf, Tryz.f19, lps_C7, K1, K2, C3, K4, C5_, C5_n, K6, C7, K8, W9_]
  all_goals simp +decide [natA]
theorem lps_x7_1 (K1 : runL (n + 10) 69 [.ptr 0 0] [.box 98 [.lit (.string a0), .lit (.int .i64 i_7)] false] = some (.tup [], [(0, .box 98 [.lit (.string a0), .lit (.int .i64 z14)] false)])) (K2 : runL (n + 10) 71 [.ptr 0 0, formV (l_7, s_7), .lit (.bool d_7)] [.box 98 [.lit (.string a0), .lit (.int .i64 z14)] false] = some (.tup [formV r11, .lit (.bool r12)], [(0, .box 98 [.lit (.string a0), .lit (.int .i64 z15)] false)])) (C3 : r12 = false) :
    Leave 0 (exec Tryz.prog (tab (n + 11)) 0 68 (livesOf 19) big lps_C7) (livesOf 19 (outOf 7)) (lps_h7 a0 d_7 i_7 l_7 s_7) (.ret) (lps_o7a z15) := by
  simp only [formV] at K2
  rw [C3] at K2
  unfold Leave
  simp +decide [lps_h7, loopsOf, Tryz.f19, lps_o7a, lps_C7, K1, K2, C3]
theorem lps_x7_2 (K1 : runL (n + 10) 69 [.ptr 0 0] [.box 98 [.lit (.string a0), .lit (.int .i64 i_7)] false] = some (.tup [], [(0, .box 98 [.lit (.string a0), .lit (.int .i64 z14)] false)])) (K2 : runL (n + 10) 71 [.ptr 0 0, formV (l_7, s_7), .lit (.bool d_7)] [.box 98 [.lit (.string a0), .lit (.int .i64 z14)] false] = some (.tup [formV r11, .lit (.bool r12)], [(0, .box 98 [.lit (.string a0), .lit (.int .i64 z15)] false)])) (C3 : r12 = true) (K4 : runL (n + 10) 69 [.ptr 0 0] [.box 98 [.lit (.string a0), .lit (.int .i64 z15)] false] = some (.tup [], [(0, .box 98 [.lit (.string a0), .lit (.int .i64 z16)] false)])) (C5 : z16 = (a0.size : Int)) :
    Leave 0 (exec Tryz.prog (tab (n + 11)) 0 68 (livesOf 19) big lps_C7) (livesOf 19 (outOf 7)) (lps_h7 a0 d_7 i_7 l_7 s_7) (.ret) (lps_o7b r11) := by
  simp only [formV] at K2
  have C5_ : (z16 == (a0.size : Int)) = true := by rw [C5]; simp
  have C5_n : (z16 != (a0.size : Int)) = false := by rw [C5]; simp
  rw [C3] at K2
  unfold Leave
  simp +decide [lps_h7, loopsOf, Tryz.f19, lps_o7b, lps_C7, K1, K2, C3, K4, C5_, C5_n]
theorem lps_x7_3 (K1 : runL (n + 10) 69 [.ptr 0 0] [.box 98 [.lit (.string a0), .lit (.int .i64 i_7)] false] = some (.tup [], [(0, .box 98 [.lit (.string a0), .lit (.int .i64 z14)] false)])) (K2 : runL (n + 10) 71 [.ptr 0 0, formV (l_7, s_7), .lit (.bool d_7)] [.box 98 [.lit (.string a0), .lit (.int .i64 z14)] false] = some (.tup [formV r11, .lit (.bool r12)], [(0, .box 98 [.lit (.string a0), .lit (.int .i64 z15)] false)])) (C3 : r12 = true) (K4 : runL (n + 10) 69 [.ptr 0 0] [.box 98 [.lit (.string a0), .lit (.int .i64 z15)] false] = some (.tup [], [(0, .box 98 [.lit (.string a0), .lit (.int .i64 z16)] false)])) (C5 : ¬ z16 = (a0.size : Int)) (K6 : runL (n + 10) 70 [.ptr 0 0, .lit (.string (⟨#[43, 45]⟩ : ByteArray))] [.box 98 [.lit (.string a0), .lit (.int .i64 z16)] false] = some (.lit (.bool r13), [(0, .box 98 [.lit (.string a0), .lit (.int .i64 z17)] false)])) (C7 : r13 = false) :
    Leave 0 (exec Tryz.prog (tab (n + 11)) 0 68 (livesOf 19) big lps_C7) (livesOf 19 (outOf 7)) (lps_h7 a0 d_7 i_7 l_7 s_7) (.ret) (lps_o7c z17) := by
  simp only [formV] at K2
  have C5_ : (z16 == (a0.size : Int)) = false := by simpa using C5
  have C5_n : (z16 != (a0.size : Int)) = true := by simpa using C5
  rw [C3] at K2
  rw [C7] at K6
  unfold Leave
  simp +decide [lps_h7, loopsOf, Tryz.f19, lps_o7c, lps_C7, K1, K2, C3, K4, C5_, C5_n, K6, C7]
theorem lps_f1 (K1 : runL (n + 10) 69 [.ptr 0 0] [.box 98 [.lit (.string a0), .lit (.int .i64 0)] false] = some (.tup [], [(0, .box 98 [.lit (.string a0), .lit (.int .i64 z)] false)])) (K2 : runL (n + 10) 70 [.ptr 0 0, .lit (.string (⟨#[45]⟩ : ByteArray))] [.box 98 [.lit (.string a0), .lit (.int .i64 z)] false] = some (.lit (.bool r), [(0, .box 98 [.lit (.string a0), .lit (.int .i64 z2)] false)])) (K3 : runL (n + 10) 70 [.ptr 0 0, .lit (.string (⟨#[43, 45]⟩ : ByteArray))] [.box 98 [.lit (.string a0), .lit (.int .i64 z2)] false] = some (.lit (.bool r2), [(0, .box 98 [.lit (.string a0), .lit (.int .i64 z3)] false)])) (C4 : r2 = true) (W5 : InI (z3 + 1)) (L6 : loopG Tryz.prog (tab (n + 11)) 0 68 (livesOf 19) 7 lps_C7 (lps_h7 a0 r (z3 + 1) [] 0) = some (.ret, lps_o7a z15)) :
    run (n + 11) 19 [.lit (.string a0)] = some (.tup [.agg [.sl 4 [], .lit (.bool false), .sl 1 [], .sl 1 []], .lit (.int .i64 z15), .lit (.int .i64 4)]) := by
  have W5_ : IntKind.i64.wrap (z3 + 1) = z3 + 1 := wr64 W5.1 W5.2
  rw [C4] at K3
  unfold run fnP
  simp +decide [Tryz.f19, K1, K2, K3, C4, W5_]
  rw [loopX_G (C' := lps_C7) (e := (lps_h7 a0 r (z3 + 1) [] 0)) ?_ ?_, L6]
  rotate_left
  · kernel_rfl
  · simp +decide [lps_h7, K1, K2, K3, C4, W5_]
  simp +decide [lps_o7a, K1, K2, K3, C4, W5_]
theorem lps_f2 (K1 : runL (n + 10) 69 [.ptr 0 0] [.box 98 [.lit (.string a0), .lit (.int .i64 0)] false] = some (.tup [], [(0, .box 98 [.lit (.string a0), .lit (.int .i64 z)] false)])) (K2 : runL (n + 10) 70 [.ptr 0 0, .lit (.string (⟨#[45]⟩ : ByteArray))] [.box 98 [.lit (.string a0), .lit (.int .i64 z)] false] = some (.lit (.bool r), [(0, .box 98 [.lit (.string a0), .lit (.int .i64 z2)] false)])) (K3 : runL (n + 10) 70 [.ptr 0 0, .lit (.string (⟨#[43, 45]⟩ : ByteArray))] [.box 98 [.lit (.string a0), .lit (.int .i64 z2)] false] = some (.lit (.bool r2), [(0, .box 98 [.lit (.string a0), .lit (.int .i64 z3)] false)])) (C4 : r2 = true) (W5 : InI (z3 + 1)) (L6 : loopG Tryz.prog (tab (n + 11)) 0 68 (livesOf 19) 7 lps_C7 (lps_h7 a0 r (z3 + 1) [] 0) = some (.ret, lps_o7b r11)) :
    run (n + 11) 19 [.lit (.string a0)] = some (.tup [formV r11, .lit (.int .i64 0), .lit (.int .i64 0)]) := by
  have W5_ : IntKind.i64.wrap (z3 + 1) = z3 + 1 := wr64 W5.1 W5.2
  rw [C4] at K3
  unfold run fnP
  simp +decide [Tryz.f19, K1, K2, K3, C4, W5_]
  rw [loopX_G (C' := lps_C7) (e := (lps_h7 a0 r (z3 + 1) [] 0)) ?_ ?_, L6]
  rotate_left
  · kernel_rfl
  · simp +decide [lps_h7, K1, K2, K3, C4, W5_]
  simp +decide [lps_o7b, K1, K2, K3, C4, W5_]
theorem lps_f4 (K1 : runL (n + 10) 69 [.ptr 0 0] [.box 98 [.lit (.string a0), .lit (.int .i64 0)] false] = some (.tup [], [(0, .box 98 [.lit (.string a0), .lit (.int .i64 z)] false)])) (K2 : runL (n + 10) 70 [.ptr 0 0, .lit (.string (⟨#[45]⟩ : ByteArray))] [.box 98 [.lit (.string a0), .lit (.int .i64 z)] false] = some (.lit (.bool r), [(0, .box 98 [.lit (.string a0), .lit (.int .i64 z2)] false)])) (K3 : runL (n + 10) 70 [.ptr 0 0, .lit (.string (⟨#[43, 45]⟩ : ByteArray))] [.box 98 [.lit (.string a0), .lit (.int .i64 z2)] false] = some (.lit (.bool r2), [(0, .box 98 [.lit (.string a0), .lit (.int .i64 z3)] false)])) (C4 : r2 = false) (L5 : loopG Tryz.prog (tab (n + 11)) 0 68 (livesOf 19) 7 lps_C7 (lps_h7 a0 r z3 [] 0) = some (.ret, lps_o7a z15)) :
    run (n + 11) 19 [.lit (.string a0)] = some (.tup [.agg [.sl 4 [], .lit (.bool false), .sl 1 [], .sl 1 []], .lit (.int .i64 z15), .lit (.int .i64 4)]) := by
  rw [C4] at K3
  unfold run fnP
  simp +decide [Tryz.f19, K1, K2, K3, C4]
  rw [loopX_G (C' := lps_C7) (e := (lps_h7 a0 r z3 [] 0)) ?_ ?_, L5]
  rotate_left
  · kernel_rfl
  · simp +decide [lps_h7, K1, K2, K3, C4]
  simp +decide [lps_o7a, K1, K2, K3, C4]
theorem lps_f5 (K1 : runL (n + 10) 69 [.ptr 0 0] [.box 98 [.lit (.string a0), .lit (.int .i64 0)] false] = some (.tup [], [(0, .box 98 [.lit (.string a0), .lit (.int .i64 z)] false)])) (K2 : runL (n + 10) 70 [.ptr 0 0, .lit (.string (⟨#[45]⟩ : ByteArray))] [.box 98 [.lit (.string a0), .lit (.int .i64 z)] false] = some (.lit (.bool r), [(0, .box 98 [.lit (.string a0), .lit (.int .i64 z2)] false)])) (K3 : runL (n + 10) 70 [.ptr 0 0, .lit (.string (⟨#[43, 45]⟩ : ByteArray))] [.box 98 [.lit (.string a0), .lit (.int .i64 z2)] false] = some (.lit (.bool r2), [(0, .box 98 [.lit (.string a0), .lit (.int .i64 z3)] false)])) (C4 : r2 = false) (L5 : loopG Tryz.prog (tab (n + 11)) 0 68 (livesOf 19) 7 lps_C7 (lps_h7 a0 r z3 [] 0) = some (.ret, lps_o7b r11)) :
    run (n + 11) 19 [.lit (.string a0)] = some (.tup [formV r11, .lit (.int .i64 0), .lit (.int .i64 0)]) := by
  rw [C4] at K3
  unfold run fnP
  simp +decide [Tryz.f19, K1, K2, K3, C4]
  rw [loopX_G (C' := lps_C7) (e := (lps_h7 a0 r z3 [] 0)) ?_ ?_, L5]
  rotate_left
  · kernel_rfl
  · simp +decide [lps_h7, K1, K2, K3, C4]
  simp +decide [lps_o7b, K1, K2, K3, C4]
end
end Go.Proofs.YtjpoanaoaeaneaaGreatDoor
set_option linter.all false
set_option maxRecDepth 100000
set_option maxHeartbeats 6400000
namespace Go.Proofs.YtjpoanaoaeaneaaGreatDoor
open Go.RowKit
attribute [local irreducible] run runL loopG exec
section
variable {n k : Nat} {L l : List UInt8} {f : Form} {neg : Bool}
theorem isIn_2 {a b c : UInt8} {r : List UInt8} : isIn [a, b] (c :: r) = decide (c = a ∨ c = b) := by
  rw [isIn, Bool.eq_iff_iff]
  simp
def ResQ (L : List UInt8) : Except (List UInt8) Form → St → Prop
  | .error r, t => t = lps_o7a (po L r)
  | .ok g, t => t = lps_o7b g
theorem lps_rnd (hL : L.length ≤ 1000) (h : l <:+ L) (hf : RdF k f) (hk : k ≤ 1000) :
    (∃ l' neg' g, Cont 0 (exec Tryz.prog (tab (n + 11)) 0 68 (livesOf 19) big lps_C7) (livesOf 19 7) (lps_h7 (bs L) neg (po L l) f.1 f.2) (lps_h7 (bs L) neg' (po L l') g.1 g.2) ∧ l' <:+ l ∧ l'.length < l.length ∧ RdF (k + 1) g ∧ ∀ m, psL (m + 1) f neg l = psL m g neg' l')
    ∨ ∃ t, Leave 0 (exec Tryz.prog (tab (n + 11)) 0 68 (livesOf 19) big lps_C7) (livesOf 19 (outOf 7)) (lps_h7 (bs L) neg (po L l) f.1 f.2) (.ret) t ∧ ∀ m, ResQ L (psL (m + 1) f neg l) t := by
  have hs := bs_size L
  have K1 := blank_c (n := n + 10) hL h
  have h1 := (skL_suf l).trans h
  have P := part_c (n := n) (neg := neg) hL h1 hf hk
  cases e : paL f neg (skL l) with
  | error r =>
    rw [e] at P
    refine .inr ⟨_, lps_x7_1 (n := n) K1 P.2 rfl, fun m => ?_⟩
    rw [psL, e]
    exact rfl
  | ok p =>
    obtain ⟨g, r⟩ := p
    rw [e] at P
    obtain ⟨s, hg, K2⟩ := P
    dsimp only at s hg K2
    have h2 := s.trans h1
    have h3 := (skL_suf r).trans h2
    have K4 := blank_c (n := n + 10) hL h2
    cases e2 : skL r with
    | nil =>
      rw [e2] at K4
      refine .inr ⟨_, lps_x7_2 (n := n) (r11 := g) K1 K2 rfl K4 (by rw [po_nil, hs]), fun m => ?_⟩
      rw [psL, e]
      dsimp only
      rw [e2]
      exact rfl
    | cons c r2 =>
      rw [e2] at K4 h3
      obtain ⟨p1, p2⟩ := po_lt h3
      have p3 := po_rg L (c :: r2)
      have K6 := is_c (n := n + 7) hL h3 [43, 45]
      rw [isIn_2] at K6
      have K8 := is_c (n := n + 7) hL h3 [45]
      rw [isIn_1] at K8
      by_cases hc : c = 43 ∨ c = 45
      · have R := lps_r7_1 (n := n) (r11 := g) K1 K2 rfl K4 (by rw [hs]; omega) K6 (decide_eq_true hc) K8 (po_in hL h3)
        rw [p2] at R
        have hl : r2 <:+ l := (suf_tl (e2 ▸ skL_suf r)).trans (s.trans (skL_suf l))
        have hlt : r2.length < l.length := by
          have a := (skL_suf r).length_le
          have b := s.length_le
          have c := (skL_suf l).length_le
          rw [e2, List.length_cons] at a
          omega
        refine .inl ⟨r2, decide (c = 45), g, R, hl, hlt, hg, fun m => ?_⟩
        rw [psL, e]
        dsimp only
        rw [e2]
        dsimp only
        rw [if_pos hc]
      · refine .inr ⟨_, lps_x7_3 (n := n) (r11 := g) K1 K2 rfl K4 (by rw [hs]; omega) K6 (decide_eq_false hc), fun m => ?_⟩
        rw [psL, e]
        dsimp only
        rw [e2]
        dsimp only
        rw [if_neg hc]
        exact rfl
theorem parts_l (hL : L.length ≤ 999) (h : l <:+ L) {K : Nat} (hK : l.length < K) :
    ∃ t, loopG Tryz.prog (tab (n + 11)) 0 68 (livesOf 19) 7 lps_C7 (lps_h7 (bs L) neg (po L l) [] 0) = some (.ret, t) ∧ ResQ L (psL K ([], 0) neg l) t := by
  have hl := h.length_le
  obtain ⟨ex, t, h1, h2⟩ := loopG_Q (β := List UInt8 × Bool × Form) (P := Tryz.prog) (O := tab (n + 11)) (m := 0) (N := 68) (lives := livesOf 19) (r := 7) (C := lps_C7) (M := l.length) (enc := fun _ b => lps_h7 (bs L) b.2.1 (po L b.1) b.2.2.1 b.2.2.2)
    (fun k b => b.1 <:+ L ∧ RdF k b.2.2 ∧ k + b.1.length ≤ l.length ∧ psL (K - k) b.2.2 b.2.1 b.1 = psL K ([], 0) neg l) (fun ex t => ex = .ret ∧ ResQ L (psL K ([], 0) neg l) t) (l, neg, ([], 0)) ⟨h, RdF.zero, by show 0 + l.length ≤ l.length; omega, rfl⟩ (by omega)
    (fun k b hk hI => by
      obtain ⟨i1, i2, i3, i4⟩ := hI
      obtain ⟨b, s, g⟩ := b
      dsimp only at i1 i2 i3 i4 ⊢
      have hK2 : K - k = (K - (k + 1)) + 1 := by omega
      rcases lps_rnd (n := n) (neg := s) (by omega) i1 i2 (by omega) with ⟨l', s', g', R, j1, j2, j3, j4⟩ | ⟨t, R, j⟩
      · refine .inl ⟨(l', s', g'), R, j1.trans i1, j3, by dsimp only; omega, ?_⟩
        dsimp only
        rw [← j4, ← hK2, i4]
      · refine .inr ⟨_, _, by simp, R, rfl, ?_⟩
        have := j (K - (k + 1))
        rw [← hK2, i4] at this
        exact this)
    (fun b hI => by
      obtain ⟨i1, i2, i3, i4⟩ := hI
      obtain ⟨b, s, g⟩ := b
      dsimp only at i1 i2 i3 i4 ⊢
      have hK2 : K - l.length = (K - (l.length + 1)) + 1 := by omega
      rcases lps_rnd (n := n) (neg := s) (by omega) i1 i2 (by omega) with ⟨l', s', g', R, j1, j2, j3, j4⟩ | ⟨t, R, j⟩
      · omega
      · refine ⟨_, _, by simp, R, rfl, ?_⟩
        have := j (K - (l.length + 1))
        rw [← hK2, i4] at this
        exact this)
  obtain ⟨rfl, h3⟩ := h2
  exact ⟨t, h1, h3⟩
def parR (L : List UInt8) : Except (List UInt8) Form → AV
  | .ok g => .tup [formV g, .lit (.int .i64 0), .lit (.int .i64 0)]
  | .error r => .tup [.agg [.sl 4 [], .lit (.bool false), .sl 1 [], .sl 1 []], .lit (.int .i64 (po L r)), .lit (.int .i64 4)]
theorem parse_c (hL : L.length ≤ 999) : run (n + 11) 19 [.lit (.string (bs L))] = some (parR L (psT L)) := by
  have h0 : L <:+ L := List.suffix_refl L
  have K1 := blank_c (n := n + 10) (by omega) h0
  have h1 := skL_suf L
  rw [pB, po_self] at K1
  have K2 := is_c (n := n + 7) (by omega) h1 [45]
  have K3 := is_c (n := n + 7) (by omega) h1 [43, 45]
  have hl := h1.length_le
  unfold psT
  cases e : skL L with
  | nil =>
    rw [e] at K1 K2 K3 h1 hl
    obtain ⟨t, G, R⟩ := parts_l (n := n) (neg := false) hL h1 (K := L.length + 1) (by simp)
    dsimp only
    cases e2 : psL (L.length + 1) ([], 0) false [] with
    | error r => rw [e2] at R; rw [show t = lps_o7a (po L r) from R] at G; exact lps_f4 (n := n) K1 K2 K3 rfl G
    | ok g => rw [e2] at R; rw [show t = lps_o7b g from R] at G; exact lps_f5 (n := n) K1 K2 K3 rfl G
  | cons c r =>
    rw [e] at K1 K2 K3 h1 hl
    obtain ⟨p1, p2⟩ := po_lt h1
    rw [isIn_1] at K2
    rw [isIn_2] at K3
    dsimp only
    rw [List.length_cons] at hl
    by_cases hc : c = 43 ∨ c = 45
    · rw [if_pos hc]
      obtain ⟨t, G, R⟩ := parts_l (n := n) (neg := decide (c = 45)) hL (suf_tl h1) (K := L.length + 1) (by omega)
      rw [← p2] at G
      cases e2 : psL (L.length + 1) ([], 0) (decide (c = 45)) r with
      | error r2 => rw [e2] at R; rw [show t = lps_o7a (po L r2) from R] at G; exact lps_f1 (n := n) K1 K2 K3 (decide_eq_true hc) (po_in (by omega) h1) G
      | ok g => rw [e2] at R; rw [show t = lps_o7b g from R] at G; exact lps_f2 (n := n) K1 K2 K3 (decide_eq_true hc) (po_in (by omega) h1) G
    · rw [if_neg hc]
      rw [decide_eq_false (fun h => hc (.inr h))] at K2
      obtain ⟨t, G, R⟩ := parts_l (n := n) (neg := false) hL h1 (K := L.length + 1) (by rw [List.length_cons]; omega)
      cases e2 : psL (L.length + 1) ([], 0) false (c :: r) with
      | error r2 => rw [e2] at R; rw [show t = lps_o7a (po L r2) from R] at G; exact lps_f4 (n := n) K1 K2 K3 (decide_eq_false hc) G
      | ok g => rw [e2] at R; rw [show t = lps_o7b g from R] at G; exact lps_f5 (n := n) K1 K2 K3 (decide_eq_false hc) G
end
end Go.Proofs.YtjpoanaoaeaneaaGreatDoor
set_option linter.all false
set_option maxRecDepth 100000
set_option maxHeartbeats 6400000
namespace Go.Proofs.YtjpoanaoaeaneaaGreatDoor
open Go.RowKit
noncomputable def rps_C4 : Code := (loopsOf (bodyOf Tryz.f22)).getD 0 .skip
def rps_h4 (a0 : ByteArray) (d_4 : Bool) (i_4 : Int) (d2_4 : Bool) (l_4 : List (Int × Rat)) (s_4 : Rat) : St :=
  ⟨[(0, .lit (.string a0)), (2, .ptr 0 0), (5, .ptr 1 0), (6, .ptr 2 0), (7, .lit (.bool d_4))],
   [(0, some (.box 28 [.nl 4, .lit (.bool false), .nl 1, .nl 1] false)),
    (1, some (.box 108 [.lit (.string a0), .lit (.int .i64 i_4), .lit (.bool d2_4)] false)),
    (2, some (.box 28 [.sl 4 (l_4.map termC), .lit (.bool (rawQ s_4).s), natA (rawQ s_4).l1, natA (rawQ s_4).l2] false))], 3⟩
def rps_o4a (a0 : ByteArray) (l_4 : List (Int × Rat)) (s_4 : Rat) (z14 : Int) (d30 : Bool) : St :=
  ⟨[(2, .ptr 0 0), (3, .lit (.int .i64 0)), (4, .lit (.int .i64 0)), (5, .ptr 1 0)],
   [(0, some (.box 28 [.sl 4 (l_4.map termC), .lit (.bool (rawQ s_4).s), natA (rawQ s_4).l1, natA (rawQ s_4).l2] false)),
    (1, some (.box 108 [.lit (.string a0), .lit (.int .i64 z14), .lit (.bool d30)] false))], 2⟩
def rps_o4b (a0 : ByteArray) (z14 : Int) (d30 : Bool) : St :=
  ⟨[(2, .ptr 0 0), (3, .any), (4, .any), (5, .ptr 1 0)],
   [(0, some (.box 28 [.nl 4, .lit (.bool false), .nl 1, .nl 1] false)),
    (1, some (.box 108 [.lit (.string a0), .lit (.int .i64 z14), .lit (.bool d30)] false))], 2⟩
def rps_o4c (a0 : ByteArray) (i_4 : Int) (d2_4 : Bool) : St :=
  ⟨[(2, .ptr 0 0), (3, .any), (4, .any), (5, .ptr 1 0)],
   [(0, some (.box 28 [.nl 4, .lit (.bool false), .nl 1, .nl 1] false)),
    (1, some (.box 108 [.lit (.string a0), .lit (.int .i64 i_4), .lit (.bool d2_4)] false))], 2⟩
section
variable {z13 : Int} {i_4 : Int} {r12 : Form} {l_4 : List (Int × Rat)} {d30 : Bool} {z14 : Int} {d29 : Bool} {a0 : ByteArray} {d_4 : Bool} {z15 : Int} {s_4 : Rat} {n : Nat} {r11 : Int} {d31 : Bool} {d2_4 : Bool} {d32 : Bool} {z16 : Int} {r13 : Form} {r14 : Form} {d33 : Bool} {z17 : Int} {z18 : Int} {r15 : Form} {d34 : Bool} {d35 : Bool} {z19 : Int} {r16 : Form}
theorem rps_r4_1 (C1 : d2_4 = false) (K2 : runL (n + 4) 77 [.ptr 0 0] [.box 108 [.lit (.string a0), .lit (.int .i64 i_4), .lit (.bool d2_4)] false] = some (.tup [], [(0, .box 108 [.lit (.string a0), .lit (.int .i64 z13), .lit (.bool d29)] false)])) (K3 : runL (n + 4) 78 [.ptr 0 0] [.box 108 [.lit (.string a0), .lit (.int .i64 z13), .lit (.bool d29)] false] = some (.lit (.int .u8 r11), [(0, .box 108 [.lit (.string a0), .lit (.int .i64 z14), .lit (.bool d30)] false)])) (C4 : d_4 = false) (C5 : ¬ z14 = (a0.size : Int)) (C6 : ¬ r11 = 43) (C7 : r11 = 45) (W8 : InI (z14 + 1)) (K9 : runL (n + 4) 79 [.ptr 0 0, formV (l_4, s_4), .lit (.bool (r11 == 45))] [.box 108 [.lit (.string a0), .lit (.int .i64 (z14 + 1)), .lit (.bool d30)] false] = some (formV r12, [(0, .box 108 [.lit (.string a0), .lit (.int .i64 z15), .lit (.bool d31)] false)])) :
    Cont 0 (exec Tryz.prog (tab (n + 5)) 0 67 (livesOf 22) big rps_C4) (livesOf 22 4) (rps_h4 a0 d_4 i_4 d2_4 l_4 s_4) (rps_h4 a0 false z15 d31 r12.1 r12.2) := by
  have C5_ : (z14 == (a0.size : Int)) = false := by simpa using C5
  have C5_n : (z14 != (a0.size : Int)) = true := by simpa using C5
  have C6_ : (r11 == 43) = false := by simpa using C6
  have C6_n : (r11 != 43) = true := by simpa using C6
  have C7_ : (r11 == 45) = true := by rw [C7]; simp
  have C7_n : (r11 != 45) = false := by rw [C7]; simp
  have W8_ : IntKind.i64.wrap (z14 + 1) = z14 + 1 := wr64 W8.1 W8.2
  simp only [formV, natA] at K9
  rw [C1] at K2
  rw [C7_] at K9
  unfold Cont
  simp +decide [natA, rps_h4, loopsOf, Tryz.f22, rps_C4, C1, K2, K3, C4, C5_, C5_n, C6_, C6_n, C7_, C7_n, W8_, K9]
theorem rps_r4_2 (C1 : d2_4 = false) (K2 : runL (n + 4) 77 [.ptr 0 0] [.box 108 [.lit (.string a0), .lit (.int .i64 i_4), .lit (.bool d2_4)] false] = some (.tup [], [(0, .box 108 [.lit (.string a0), .lit (.int .i64 z13), .lit (.bool d29)] false)])) (K3 : runL (n + 4) 78 [.ptr 0 0] [.box 108 [.lit (.string a0), .lit (.int .i64 z13), .lit (.bool d29)] false] = some (.lit (.int .u8 r11), [(0, .box 108 [.lit (.string a0), .lit (.int .i64 z14), .lit (.bool d30)] false)])) (C4 : d_4 = false) (C5 : ¬ z14 = (a0.size : Int)) (C6 : r11 = 43) (W7 : InI (z14 + 1)) (K8 : runL (n + 4) 79 [.ptr 0 0, formV (l_4, s_4), .lit (.bool (r11 == 45))] [.box 108 [.lit (.string a0), .lit (.int .i64 (z14 + 1)), .lit (.bool d30)] false] = some (formV r13, [(0, .box 108 [.lit (.string a0), .lit (.int .i64 z16), .lit (.bool d32)] false)])) :
    Cont 0 (exec Tryz.prog (tab (n + 5)) 0 67 (livesOf 22) big rps_C4) (livesOf 22 4) (rps_h4 a0 d_4 i_4 d2_4 l_4 s_4) (rps_h4 a0 false z16 d32 r13.1 r13.2) := by
  have C5_ : (z14 == (a0.size : Int)) = false := by simpa using C5
  have C5_n : (z14 != (a0.size : Int)) = true := by simpa using C5
  have C6_ : (r11 == 43) = true := by rw [C6]; simp
  have C6_n : (r11 != 43) = false := by rw [C6]; simp
  have W7_ : IntKind.i64.wrap (z14 + 1) = z14 + 1 := wr64 W7.1 W7.2
  simp only [formV, natA] at K8
  rw [C1] at K2
  unfold Cont
  simp +decide [natA, rps_h4, loopsOf, Tryz.f22, rps_C4, C1, K2, K3, C4, C5_, C5_n, C6_, C6_n, W7_, K8]
theorem rps_r4_3 (C1 : d2_4 = false) (K2 : runL (n + 4) 77 [.ptr 0 0] [.box 108 [.lit (.string a0), .lit (.int .i64 i_4), .lit (.bool d2_4)] false] = some (.tup [], [(0, .box 108 [.lit (.string a0), .lit (.int .i64 z13), .lit (.bool d29)] false)])) (K3 : runL (n + 4) 78 [.ptr 0 0] [.box 108 [.lit (.string a0), .lit (.int .i64 z13), .lit (.bool d29)] false] = some (.lit (.int .u8 r11), [(0, .box 108 [.lit (.string a0), .lit (.int .i64 z14), .lit (.bool d30)] false)])) (C4 : d_4 = true) (C5 : ¬ r11 = 43) (C6 : ¬ r11 = 45) (K7 : runL (n + 4) 79 [.ptr 0 0, formV (l_4, s_4), .lit (.bool (r11 == 45))] [.box 108 [.lit (.string a0), .lit (.int .i64 z14), .lit (.bool d30)] false] = some (formV r14, [(0, .box 108 [.lit (.string a0), .lit (.int .i64 z17), .lit (.bool d33)] false)])) :
    Cont 0 (exec Tryz.prog (tab (n + 5)) 0 67 (livesOf 22) big rps_C4) (livesOf 22 4) (rps_h4 a0 d_4 i_4 d2_4 l_4 s_4) (rps_h4 a0 false z17 d33 r14.1 r14.2) := by
  have C5_ : (r11 == 43) = false := by simpa using C5
  have C5_n : (r11 != 43) = true := by simpa using C5
  have C6_ : (r11 == 45) = false := by simpa using C6
  have C6_n : (r11 != 45) = true := by simpa using C6
  simp only [formV, natA] at K7
  rw [C1] at K2
  rw [C6_] at K7
  unfold Cont
  simp +decide [natA, rps_h4, loopsOf, Tryz.f22, rps_C4, C1, K2, K3, C4, C5_, C5_n, C6_, C6_n, K7]
theorem rps_r4_4 (C1 : d2_4 = false) (K2 : runL (n + 4) 77 [.ptr 0 0] [.box 108 [.lit (.string a0), .lit (.int .i64 i_4), .lit (.bool d2_4)] false] = some (.tup [], [(0, .box 108 [.lit (.string a0), .lit (.int .i64 z13), .lit (.bool d29)] false)])) (K3 : runL (n + 4) 78 [.ptr 0 0] [.box 108 [.lit (.string a0), .lit (.int .i64 z13), .lit (.bool d29)] false] = some (.lit (.int .u8 r11), [(0, .box 108 [.lit (.string a0), .lit (.int .i64 z14), .lit (.bool d30)] false)])) (C4 : d_4 = true) (C5 : ¬ r11 = 43) (C6 : r11 = 45) (W7 : InI (z14 + 1)) (K8 : runL (n + 4) 79 [.ptr 0 0, formV (l_4, s_4), .lit (.bool (r11 == 45))] [.box 108 [.lit (.string a0), .lit (.int .i64 (z14 + 1)), .lit (.bool d30)] false] = some (formV r15, [(0, .box 108 [.lit (.string a0), .lit (.int .i64 z18), .lit (.bool d34)] false)])) :
    Cont 0 (exec Tryz.prog (tab (n + 5)) 0 67 (livesOf 22) big rps_C4) (livesOf 22 4) (rps_h4 a0 d_4 i_4 d2_4 l_4 s_4) (rps_h4 a0 false z18 d34 r15.1 r15.2) := by
  have C5_ : (r11 == 43) = false := by simpa using C5
  have C5_n : (r11 != 43) = true := by simpa using C5
  have C6_ : (r11 == 45) = true := by rw [C6]; simp
  have C6_n : (r11 != 45) = false := by rw [C6]; simp
  have W7_ : IntKind.i64.wrap (z14 + 1) = z14 + 1 := wr64 W7.1 W7.2
  simp only [formV, natA] at K8
  rw [C1] at K2
  rw [C6_] at K8
  unfold Cont
  simp +decide [natA, rps_h4, loopsOf, Tryz.f22, rps_C4, C1, K2, K3, C4, C5_, C5_n, C6_, C6_n, W7_, K8]
theorem rps_r4_5 (C1 : d2_4 = false) (K2 : runL (n + 4) 77 [.ptr 0 0] [.box 108 [.lit (.string a0), .lit (.int .i64 i_4), .lit (.bool d2_4)] false] = some (.tup [], [(0, .box 108 [.lit (.string a0), .lit (.int .i64 z13), .lit (.bool d29)] false)])) (K3 : runL (n + 4) 78 [.ptr 0 0] [.box 108 [.lit (.string a0), .lit (.int .i64 z13), .lit (.bool d29)] false] = some (.lit (.int .u8 r11), [(0, .box 108 [.lit (.string a0), .lit (.int .i64 z14), .lit (.bool d30)] false)])) (C4 : d_4 = true) (C5 : r11 = 43) (W6 : InI (z14 + 1)) (K7 : runL (n + 4) 79 [.ptr 0 0, formV (l_4, s_4), .lit (.bool (r11 == 45))] [.box 108 [.lit (.string a0), .lit (.int .i64 (z14 + 1)), .lit (.bool d30)] false] = some (formV r16, [(0, .box 108 [.lit (.string a0), .lit (.int .i64 z19), .lit (.bool d35)] false)])) :
    Cont 0 (exec Tryz.prog (tab (n + 5)) 0 67 (livesOf 22) big rps_C4) (livesOf 22 4) (rps_h4 a0 d_4 i_4 d2_4 l_4 s_4) (rps_h4 a0 false z19 d35 r16.1 r16.2) := by
  have C5_ : (r11 == 43) = true := by rw [C5]; simp
  have C5_n : (r11 != 43) = false := by rw [C5]; simp
  have W6_ : IntKind.i64.wrap (z14 + 1) = z14 + 1 := wr64 W6.1 W6.2
  simp only [formV, natA] at K7
  rw [C1] at K2
  unfold Cont
  simp +decide [natA, rps_h4, loopsOf, Tryz.f22, rps_C4, C1, K2, K3, C4, C5_, C5_n, W6_, K7]
theorem rps_x4_1 (C1 : d2_4 = false) (K2 : runL (n + 4) 77 [.ptr 0 0] [.box 108 [.lit (.string a0), .lit (.int .i64 i_4), .lit (.bool d2_4)] false] = some (.tup [], [(0, .box 108 [.lit (.string a0), .lit (.int .i64 z13), .lit (.bool d29)] false)])) (K3 : runL (n + 4) 78 [.ptr 0 0] [.box 108 [.lit (.string a0), .lit (.int .i64 z13), .lit (.bool d29)] false] = some (.lit (.int .u8 r11), [(0, .box 108 [.lit (.string a0), .lit (.int .i64 z14), .lit (.bool d30)] false)])) (C4 : d_4 = false) (C5 : z14 = (a0.size : Int)) :
    Leave 0 (exec Tryz.prog (tab (n + 5)) 0 67 (livesOf 22) big rps_C4) (livesOf 22 (outOf 4)) (rps_h4 a0 d_4 i_4 d2_4 l_4 s_4) (.ret) (rps_o4a a0 l_4 s_4 z14 d30) := by
  have C5_ : (z14 == (a0.size : Int)) = true := by rw [C5]; simp
  have C5_n : (z14 != (a0.size : Int)) = false := by rw [C5]; simp
  rw [C1] at K2
  unfold Leave
  simp +decide [rps_h4, loopsOf, Tryz.f22, rps_o4a, rps_C4, C1, K2, K3, C4, C5_, C5_n]
theorem rps_x4_2 (C1 : d2_4 = false) (K2 : runL (n + 4) 77 [.ptr 0 0] [.box 108 [.lit (.string a0), .lit (.int .i64 i_4), .lit (.bool d2_4)] false] = some (.tup [], [(0, .box 108 [.lit (.string a0), .lit (.int .i64 z13), .lit (.bool d29)] false)])) (K3 : runL (n + 4) 78 [.ptr 0 0] [.box 108 [.lit (.string a0), .lit (.int .i64 z13), .lit (.bool d29)] false] = some (.lit (.int .u8 r11), [(0, .box 108 [.lit (.string a0), .lit (.int .i64 z14), .lit (.bool d30)] false)])) (C4 : d_4 = false) (C5 : ¬ z14 = (a0.size : Int)) (C6 : ¬ r11 = 43) (C7 : ¬ r11 = 45) :
    Leave 0 (exec Tryz.prog (tab (n + 5)) 0 67 (livesOf 22) big rps_C4) (livesOf 22 (outOf 4)) (rps_h4 a0 d_4 i_4 d2_4 l_4 s_4) (.exit 0) (rps_o4b a0 z14 d30) := by
  have C5_ : (z14 == (a0.size : Int)) = false := by simpa using C5
  have C5_n : (z14 != (a0.size : Int)) = true := by simpa using C5
  have C6_ : (r11 == 43) = false := by simpa using C6
  have C6_n : (r11 != 43) = true := by simpa using C6
  have C7_ : (r11 == 45) = false := by simpa using C7
  have C7_n : (r11 != 45) = true := by simpa using C7
  rw [C1] at K2
  unfold Leave
  simp +decide [rps_h4, loopsOf, Tryz.f22, rps_o4b, rps_C4, C1, K2, K3, C4, C5_, C5_n, C6_, C6_n, C7_, C7_n]
theorem rps_x4_3 (C1 : d2_4 = true) :
    Leave 0 (exec Tryz.prog (tab (n + 5)) 0 67 (livesOf 22) big rps_C4) (livesOf 22 (outOf 4)) (rps_h4 a0 d_4 i_4 d2_4 l_4 s_4) (.exit 0) (rps_o4c a0 i_4 d2_4) := by
  unfold Leave
  simp +decide [rps_h4, loopsOf, Tryz.f22, rps_o4c, rps_C4, C1]
theorem rps_f1 (L1 : loopG Tryz.prog (tab (n + 5)) 0 67 (livesOf 22) 4 rps_C4 (rps_h4 a0 true 0 false [] 0) = some (.ret, rps_o4a a0 l_4 s_4 z14 d30)) :
    run (n + 5) 22 [.lit (.string a0)] = some (.tup [formV (l_4, s_4), .lit (.int .i64 0), .lit (.int .i64 0)]) := by
  unfold run fnP
  simp +decide [Tryz.f22]
  rw [loopX_G (C' := rps_C4) (e := (rps_h4 a0 true 0 false [] 0)) ?_ ?_, L1]
  rotate_left
  · kernel_rfl
  · simp +decide [rps_h4]
  simp +decide [rps_o4a]
theorem rps_f2 (L1 : loopG Tryz.prog (tab (n + 5)) 0 67 (livesOf 22) 4 rps_C4 (rps_h4 a0 true 0 false [] 0) = some (.exit 0, rps_o4b a0 z14 d30)) :
    run (n + 5) 22 [.lit (.string a0)] = some (.tup [.agg [.sl 4 [], .lit (.bool false), .sl 1 [], .sl 1 []], .lit (.int .i64 z14), .lit (.int .i64 4)]) := by
  unfold run fnP
  simp +decide [Tryz.f22]
  rw [loopX_G (C' := rps_C4) (e := (rps_h4 a0 true 0 false [] 0)) ?_ ?_, L1]
  rotate_left
  · kernel_rfl
  · simp +decide [rps_h4]
  simp +decide [rps_o4b]
theorem rps_f3 (L1 : loopG Tryz.prog (tab (n + 5)) 0 67 (livesOf 22) 4 rps_C4 (rps_h4 a0 true 0 false [] 0) = some (.exit 0, rps_o4c a0 i_4 d2_4)) :
    run (n + 5) 22 [.lit (.string a0)] = some (.tup [.agg [.sl 4 [], .lit (.bool false), .sl 1 [], .sl 1 []], .lit (.int .i64 i_4), .lit (.int .i64 4)]) := by
  unfold run fnP
  simp +decide [Tryz.f22]
  rw [loopX_G (C' := rps_C4) (e := (rps_h4 a0 true 0 false [] 0)) ?_ ?_, L1]
  rotate_left
  · kernel_rfl
  · simp +decide [rps_h4]
  simp +decide [rps_o4c]
end
end Go.Proofs.YtjpoanaoaeaneaaGreatDoor
