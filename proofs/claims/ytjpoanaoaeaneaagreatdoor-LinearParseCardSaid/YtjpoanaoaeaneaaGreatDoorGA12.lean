import Derived.Test.YtjpoanaoaeaneaaGreatDoorGA10
import Derived.Test.YtjpoanaoaeaneaaGreatDoorGA11
import Derived.Test.YtjpoanaoaeaneaaGreatDoorGA5
import Derived.Test.YtjpoanaoaeaneaaGreatDoorGA6
import Derived.Test.YtjpoanaoaeaneaaGreatDoorGA9
set_option linter.all false
set_option maxRecDepth 100000
set_option maxHeartbeats 6400000
set_option exponentiation.threshold 400
namespace Go.Proofs.YtjpoanaoaeaneaaGreatDoor
open Go.RowKit
attribute [local irreducible] run runL loopG exec
def rB (L l : List UInt8) (bad : Bool) : AB := .box 108 [.lit (.string (bs L)), .lit (.int .i64 (po L l)), .lit (.bool bad)] false
def hd : List UInt8 → Int
  | [] => 0
  | c :: _ => (c.toNat : Int)
theorem hd_D {l : List UInt8} : isIn D10 l = true ↔ 48 ≤ hd l ∧ hd l ≤ 57 := by
  rw [isIn_D]
  cases l with
  | nil => exact ⟨fun ⟨c, r, h, _⟩ => (by cases h), fun ⟨h, _⟩ => (by have : hd [] = 0 := rfl; omega)⟩
  | cons c r =>
    have e : hd (c :: r) = (c.toNat : Int) := rfl
    rw [e]
    constructor
    · rintro ⟨c', r', h, h2⟩
      cases h
      have := isD_n h2
      omega
    · intro h
      exact ⟨c, r, rfl, decide_eq_true (by omega)⟩
section
variable {n : Nat} {L l : List UInt8} {bad : Bool}
theorem rpk_c (hL : L.length ≤ 1000) (h : l <:+ L) : runL n 78 [.ptr 0 0] [rB L l bad] = some (.lit (.int .u8 (hd l)), [(0, rB L l bad)]) := by
  have hs := bs_size L
  cases l with
  | nil => exact rpk_f2 (n := n) (a0 := ⟨bs L, po L [], bad⟩) (by show ¬ po L [] < ((bs L).size : Int); rw [po_nil]; omega)
  | cons c r =>
    obtain ⟨p1, p2⟩ := po_lt h
    have p3 := po_rg L (c :: r)
    exact rpk_f1 (n := n) (a0 := ⟨bs L, po L (c :: r), bad⟩) (by show po L (c :: r) < ((bs L).size : Int); omega) (po_get h) (by show 0 ≤ po L (c :: r); omega)
theorem rbk_c (hL : L.length ≤ 1000) (h : l <:+ L) : runL (n + 1) 77 [.ptr 0 0] [rB L l bad] = some (.tup [], [(0, rB L (skL l) bad)]) := by
  obtain ⟨ex, t, h1, h2⟩ := loopG_Q (β := List UInt8) (P := Tryz.prog) (O := tab (n + 1)) (m := 1) (N := 12) (lives := livesOf 77) (r := 0) (C := rbk_C0) (M := l.length) (enc := fun _ b => rbk_h0 ⟨bs L, po L l, bad⟩ (po L b) bad)
    (fun k b => b <:+ L ∧ skL b = skL l ∧ k + b.length = l.length) (fun ex t => ex = .exit 0 ∧ t = rbk_o0a ⟨bs L, po L l, bad⟩ (po L (skL l)) bad) l ⟨h, rfl, by omega⟩ (by have := h.length_le; omega)
    (fun k b hk hI => by
      obtain ⟨i1, i2, i3⟩ := hI
      have K := rpk_c (n := n) (bad := bad) hL i1
      cases b with
      | nil => simp at i3; omega
      | cons c b =>
        obtain ⟨p1, p2⟩ := po_lt i1
        have p3 := po_rg L (c :: b)
        by_cases hc : c = 32
        · have R := rbk_r0_1 (n := n) (a0 := ⟨bs L, po L l, bad⟩) (i_0 := po L (c :: b)) (d_0 := bad) K (by rw [hc]; rfl) ⟨by omega, by omega⟩
          rw [p2] at R
          refine .inl ⟨b, R, suf_tl i1, ?_, by simp at i3; omega⟩
          rw [← i2, hc, skL_b]
        · refine .inr ⟨_, _, by simp, rbk_x0_1 (n := n) (a0 := ⟨bs L, po L l, bad⟩) (i_0 := po L (c :: b)) (d_0 := bad) K (fun e => hc (u8n.2 (by have e2 : (32 : UInt8).toNat = 32 := rfl; have e3 : hd (c :: b) = (c.toNat : Int) := rfl; omega))), rfl, ?_⟩
          rw [← i2, skL_ne hc])
    (fun b hI => by
      obtain ⟨i1, i2, i3⟩ := hI
      have K := rpk_c (n := n) (bad := bad) hL i1
      have : b = [] := List.eq_nil_of_length_eq_zero (by omega)
      subst this
      refine ⟨_, _, by simp, rbk_x0_1 (n := n) (a0 := ⟨bs L, po L l, bad⟩) (i_0 := po L []) (d_0 := bad) K (by show ¬ (0 : Int) = 32; omega), rfl, ?_⟩
      rw [← i2]; rfl)
  obtain ⟨rfl, rfl⟩ := h2
  exact rbk_f1 (n := n) (a0 := ⟨bs L, po L l, bad⟩) h1
theorem lim_1 {x : Nat} (h : x < 4294967296) : Lim [x] := fun y hy => by rw [List.mem_singleton.1 hy]; exact h
theorem nat_1 (x : Nat) : natA [x] = .sl 1 [[.lit (.int .u32 (x : Int))]] := rfl
theorem val_1 (x : Nat) : val [x] = x := by simp [val]
theorem rdg_l {a0 : Treader} (ha : a0.s = bs L) (hL : L.length ≤ 1000) (h : l <:+ L) (m : Nat) (hm : m ≤ 300) :
    loopG Tryz.prog (tab (n + 2)) 1 81 (livesOf 148) 8 rdg_C8 (rdg_h8 a0 (m : Int) [] 0 (po L l) false) = some (.exit 0, rdg_o8a a0 (lmb (dgV (dgP m l).1 0)) (po L (dgP m l).2) false) := by
  obtain ⟨s, x, y⟩ := a0
  dsimp only at ha
  subst ha
  obtain ⟨ex, t, h1, h2⟩ := loopG_Q (β := Nat × List UInt8) (P := Tryz.prog) (O := tab (n + 2)) (m := 1) (N := 81) (lives := livesOf 148) (r := 8) (C := rdg_C8) (M := m) (enc := fun k b => rdg_h8 ⟨bs L, x, y⟩ (m : Int) (lmb b.1) k (po L b.2) false)
    (fun k b => b.2 <:+ L ∧ b.1 < 10 ^ k ∧ dgV (dgP (m - k) b.2).1 b.1 = dgV (dgP m l).1 0 ∧ (dgP (m - k) b.2).2 = (dgP m l).2) (fun ex t => ex = .exit 0 ∧ t = rdg_o8a ⟨bs L, x, y⟩ (lmb (dgV (dgP m l).1 0)) (po L (dgP m l).2) false) (0, l) ⟨h, by show 0 < 1; omega, rfl, rfl⟩ (by omega)
    (fun k b hk hI => by
      obtain ⟨v, b⟩ := b
      obtain ⟨i1, i2, i3, i4⟩ := hI
      dsimp only at i1 i2 i3 i4 ⊢
      have K := rpk_c (n := n + 1) (bad := false) hL i1
      rw [show m - k = (m - (k + 1)) + 1 from by omega] at i3 i4
      by_cases c : isIn D10 b = true
      · obtain ⟨d, r, rfl, hd2⟩ := (isIn_D b).1 c
        obtain ⟨c0, c1⟩ := isD_n hd2
        obtain ⟨p1, p2⟩ := po_lt i1
        have p3 := po_rg L (d :: r)
        have e : 10 ^ (k + 1) = 10 ^ k * 10 := Nat.pow_succ 10 _
        have f1 := lmb_few i2 (by omega)
        have f2 := lmb_few (k := v * 10) (m := k + 1) (by omega) (by omega)
        have w1 : IntKind.u8.wrap ((d.toNat : Int) - 48) = (d.toNat : Int) - 48 := by simp [IntKind.wrap, IntKind.signed, IntKind.bits]; omega
        have w2 : IntKind.u32.wrap ((d.toNat : Int) - 48) = (d.toNat : Int) - 48 := by simp [IntKind.wrap, IntKind.signed, IntKind.bits]; omega
        have K6 : (oN2 fun x y => natA (lmb (val x * val y))) [natA (lmb v), .sl 1 [[.lit (.int .u32 10)]]] = some (natA (lmb (v * 10))) := by
          have := oN2_raw (F := fun x y => natA (lmb (val x * val y))) (lim_lmb v) (lim_1 (x := 10) (by omega)) (few_l (by omega)) (Nat.ble_eq_true_of_le (by decide))
          rw [val_lmb, val_1] at this
          exact this
        have K10 : (oN2 fun x y => natA (lmb (val x + val y))) [natA (lmb (v * 10)), .sl 1 [[.lit (.int .u32 ((d.toNat : Int) - 48))]]] = some (natA (lmb (v * 10 + (d.toNat - 48)))) := by
          have := oN2_raw (F := fun x y => natA (lmb (val x + val y))) (lim_lmb (v * 10)) (lim_1 (x := d.toNat - 48) (by omega)) (few_l (by omega)) (Nat.ble_eq_true_of_le (by simp))
          rw [val_lmb, val_1, nat_1, show ((d.toNat - 48 : Nat) : Int) = (d.toNat : Int) - 48 from by omega] at this
          exact this
        have R := rdg_r8_1 (n := n) (a0 := ⟨bs L, x, y⟩) (m_8 := (m : Int)) (i_8 := k) (i2_8 := po L (d :: r)) (d_8 := false) K (by show 48 ≤ (d.toNat : Int); omega) K (by show (d.toNat : Int) ≤ 57; omega) (by omega) K6 K w1 w2 K10 ⟨by omega, by omega⟩ ⟨by omega, by omega⟩
        rw [p2] at R
        rw [dgP, if_pos hd2] at i3 i4
        exact .inl ⟨(v * 10 + (d.toNat - 48), r), R, suf_tl i1, by dsimp only; omega, i3, i4⟩
      · have e2 : dgP (m - (k + 1) + 1) b = ([], b) := by
          cases b with
          | nil => rfl
          | cons d r => rw [dgP, if_neg (fun e => c ((isIn_D _).2 ⟨d, r, rfl, e⟩))]
        rw [e2] at i3 i4
        have hn : ¬ (48 ≤ hd b ∧ hd b ≤ 57) := fun e => c (hd_D.2 e)
        have e3 : v = dgV (dgP m l).1 0 := i3
        have e4 : b = (dgP m l).2 := i4
        by_cases c2 : 48 ≤ hd b
        · exact .inr ⟨_, _, by simp, rdg_x8_2 (n := n) (a0 := ⟨bs L, x, y⟩) (m_8 := (m : Int)) (i_8 := k) (i2_8 := po L b) (d_8 := false) K c2 K (by omega), rfl, by rw [← e3, ← e4]⟩
        · exact .inr ⟨_, _, by simp, rdg_x8_3 (n := n) (a0 := ⟨bs L, x, y⟩) (m_8 := (m : Int)) (i_8 := k) (i2_8 := po L b) (d_8 := false) K c2, rfl, by rw [← e3, ← e4]; rfl⟩)
    (fun b hI => by
      obtain ⟨v, b⟩ := b
      obtain ⟨i1, i2, i3, i4⟩ := hI
      dsimp only at i1 i2 i3 i4 ⊢
      rw [Nat.sub_self] at i3 i4
      have K := rpk_c (n := n + 1) (bad := false) hL i1
      have e3 : v = dgV (dgP m l).1 0 := i3
      have e4 : b = (dgP m l).2 := i4
      by_cases c2 : 48 ≤ hd b
      · by_cases c3 : hd b ≤ 57
        · exact ⟨_, _, by simp, rdg_x8_1 (n := n) (a0 := ⟨bs L, x, y⟩) (m_8 := (m : Int)) (i_8 := m) (i2_8 := po L b) (d_8 := false) K c2 K c3 (by omega), rfl, by rw [← e3, ← e4]⟩
        · exact ⟨_, _, by simp, rdg_x8_2 (n := n) (a0 := ⟨bs L, x, y⟩) (m_8 := (m : Int)) (i_8 := m) (i2_8 := po L b) (d_8 := false) K c2 K c3, rfl, by rw [← e3, ← e4]⟩
      · exact ⟨_, _, by simp, rdg_x8_3 (n := n) (a0 := ⟨bs L, x, y⟩) (m_8 := (m : Int)) (i_8 := m) (i2_8 := po L b) (d_8 := false) K c2, rfl, by rw [← e3, ← e4]; rfl⟩)
  obtain ⟨rfl, rfl⟩ := h2
  exact h1
theorem rdg_n (hL : L.length ≤ 1000) (h : l <:+ L) {zero : Bool} {most : Nat} (hn : nmP zero most l = none) : runL (n + 2) 148 [.ptr 0 0, .lit (.bool zero), .lit (.int .i64 (most : Int))] [rB L l false] = some (.sl 1 [], [(0, rB L l true)]) := by
  have K := rpk_c (n := n + 1) (bad := false) hL h
  by_cases c1 : hd l < 48
  · exact rdg_f2 (n := n) (a0 := ⟨bs L, po L l, false⟩) rfl K c1
  · by_cases c2 : 57 < hd l
    · exact rdg_f3 (n := n) (a0 := ⟨bs L, po L l, false⟩) rfl K c1 K c2
    · obtain ⟨c, r, rfl, hd2⟩ := (isIn_D l).1 (hd_D.2 ⟨by omega, by omega⟩)
      rw [nmP, if_pos hd2] at hn
      by_cases h2 : c = 48
      · rw [if_pos h2] at hn
        cases zero with
        | true => cases hn
        | false => exact rdg_f4 (n := n) (a0 := ⟨bs L, po L (c :: r), false⟩) rfl K c1 K c2 K (by rw [h2]; rfl) rfl
      · rw [if_neg h2] at hn
        cases hn
theorem rdg_s (hL : L.length ≤ 1000) (h : l <:+ L) {zero : Bool} {most : Nat} {d r : List UInt8} (hm : most ≤ 300) (h0 : 0 < most) (hn : nmP zero most l = some (d, r)) : runL (n + 2) 148 [.ptr 0 0, .lit (.bool zero), .lit (.int .i64 (most : Int))] [rB L l false] = some (natA (lmb (dgV d 0)), [(0, rB L r (isIn D10 r))]) := by
  have K := rpk_c (n := n + 1) (bad := false) hL h
  obtain ⟨e1, e2, e3, e4⟩ := nmP_ok hn h0
  have hr : r <:+ L := List.IsSuffix.trans ⟨d, e1.symm⟩ h
  have K2 := rpk_c (n := n + 1) (bad := false) hL hr
  cases l with
  | nil => cases hn
  | cons c l =>
    rw [nmP] at hn
    have hd2 : isD c = true := by
      false_or_by_contra
      rename_i hd
      rw [if_neg hd] at hn
      cases hn
    rw [if_pos hd2] at hn
    obtain ⟨c0, c1⟩ := isD_n hd2
    have q0 : ¬ hd (c :: l) < 48 := by show ¬ (c.toNat : Int) < 48; omega
    have q1 : ¬ 57 < hd (c :: l) := by show ¬ 57 < (c.toNat : Int); omega
    have fin : isIn D10 r = true ∨ (isIn D10 r = false ∧ 48 ≤ hd r ∧ ¬ hd r ≤ 57) ∨ (isIn D10 r = false ∧ ¬ 48 ≤ hd r) := by
      cases c : isIn D10 r with
      | true => exact .inl rfl
      | false =>
        have hn : ¬ (48 ≤ hd r ∧ hd r ≤ 57) := fun e => by rw [hd_D.2 e] at c; cases c
        by_cases c2 : 48 ≤ hd r
        · exact .inr (.inl ⟨rfl, c2, by omega⟩)
        · exact .inr (.inr ⟨rfl, c2⟩)
    by_cases hc : c = 48
    · rw [if_pos hc] at hn
      cases zero with
      | false => cases hn
      | true =>
        obtain ⟨g1, g2⟩ := Prod.mk.inj (Option.some.inj hn)
        have q2 : hd (c :: l) = 48 := by rw [hc]; rfl
        have G := rdg_l (n := n) (a0 := ⟨bs L, po L (c :: l), false⟩) rfl hL h 1 (by omega)
        have e5 : dgP 1 (c :: l) = (d, r) := by rw [dgP, if_pos hd2, hc, ← g1, ← g2]; rfl
        rw [e5] at G
        rcases fin with f | ⟨f, f2, f3⟩ | ⟨f, f2⟩
        · obtain ⟨f2, f3⟩ := hd_D.1 f
          rw [f]
          exact rdg_f5 (n := n) (a0 := ⟨bs L, po L (c :: l), false⟩) rfl K q0 K q1 K q2 rfl K q2 G K2 f2 K2 f3
        · rw [f]
          exact rdg_f6 (n := n) (a0 := ⟨bs L, po L (c :: l), false⟩) rfl K q0 K q1 K q2 rfl K q2 G K2 f2 K2 f3
        · rw [f]
          exact rdg_f7 (n := n) (a0 := ⟨bs L, po L (c :: l), false⟩) rfl K q0 K q1 K q2 rfl K q2 G K2 f2
    · rw [if_neg hc] at hn
      have hn2 := Option.some.inj hn
      have q2 : ¬ hd (c :: l) = 48 := fun e => hc (u8n.2 (by have e2 : (48 : UInt8).toNat = 48 := rfl; have e3 : hd (c :: l) = (c.toNat : Int) := rfl; omega))
      have G := rdg_l (n := n) (a0 := ⟨bs L, po L (c :: l), false⟩) rfl hL h most hm
      rw [hn2] at G
      rcases fin with f | ⟨f, f2, f3⟩ | ⟨f, f2⟩
      · obtain ⟨f2, f3⟩ := hd_D.1 f
        rw [f]
        exact rdg_f23 (n := n) (a0 := ⟨bs L, po L (c :: l), false⟩) rfl K q0 K q1 K q2 K q2 G K2 f2 K2 f3
      · rw [f]
        exact rdg_f24 (n := n) (a0 := ⟨bs L, po L (c :: l), false⟩) rfl K q0 K q1 K q2 K q2 G K2 f2 K2 f3
      · rw [f]
        exact rdg_f25 (n := n) (a0 := ⟨bs L, po L (c :: l), false⟩) rfl K q0 K q1 K q2 K q2 G K2 f2
end
end Go.Proofs.YtjpoanaoaeaneaaGreatDoor
set_option linter.all false
set_option maxRecDepth 100000
set_option maxHeartbeats 6400000
namespace Go.Proofs.YtjpoanaoaeaneaaGreatDoor
open Go.RowKit
noncomputable def plR_C4 : Code := (loopsOf (bodyOf Tryz.f98)).getD 0 .skip
def plR_h4 (a0 : Form) (a1 : Int) (a2 : Raw) (out_4 : List (Int × Rat)) (d_4 : Bool) (i_4 : Nat) : St :=
  ⟨[(1, .lit (.int .i64 a1)), (3, .ptr 0 0), (5, .ptr 1 0), (6, .ptr 2 0), (7, .own 3 out_4.length), (8, .lit (.bool d_4)), (9, .lit (.int .i64 (i_4 : Int)))],
   [(0, some (.box 28 [.sl 4 (a0.1.map termC), .lit (.bool (rawQ a0.2).s), natA (rawQ a0.2).l1, natA (rawQ a0.2).l2] false)),
    (1, some (.box 26 [.lit (.bool a2.s), natA a2.l1, natA a2.l2] false)),
    (2, some (.box 28 [.nl 4, .lit (.bool false), .nl 1, .nl 1] false)),
    (3, some (.row 82 4 (out_4.map termC) 0))], 4⟩
def plR_o4a (a0 : Form) (a1 : Int) (a2 : Raw) (out_4 : List (Int × Rat)) (d_4 : Bool) : St :=
  ⟨[(1, .lit (.int .i64 a1)), (3, .ptr 0 0), (5, .ptr 1 0), (6, .ptr 2 0), (7, .own 3 out_4.length), (8, .lit (.bool d_4))],
   [(0, some (.box 28 [.sl 4 (a0.1.map termC), .lit (.bool (rawQ a0.2).s), natA (rawQ a0.2).l1, natA (rawQ a0.2).l2] false)),
    (1, some (.box 26 [.lit (.bool a2.s), natA a2.l1, natA a2.l2] false)),
    (2, some (.box 28 [.nl 4, .lit (.bool false), .nl 1, .nl 1] false)),
    (3, some (.row 82 4 (out_4.map termC) 0))], 4⟩
section
variable {a2 : Raw} {v3 : Int} {i_4 : Nat} {a1 : Int} {q3 : Rat} {a0 : Form} {d_4 : Bool} {n : Nat} {out_4 : List (Int × Rat)} {R12 : List (Int × Rat)} {R14 : List (Int × Rat)} {R15 : List (Int × Rat)} {R13 : List (Int × Rat)} {R16 : List (Int × Rat)} {R17 : List (Int × Rat)} {R18 : List (Int × Rat)}
theorem plR_r4_1 (C1 : (i_4 : Int) < (a0.1.length : Int)) (E2 : a0.1[i_4]? = some (v3, q3)) (C3 : v3 = a1) (B4aH : H q3 ≤ 17179869184) (B4b : RawB a2) (K5 : runL n 173 [.own 0 out_4.length, .agg [.lit (.int .i64 v3), .lit (.bool (rawQ (q3 + a2.q)).s), natA (rawQ (q3 + a2.q)).l1, natA (rawQ (q3 + a2.q)).l2]] [.row 82 4 (out_4.map termC) 0] = some (.own 0 out_4.length, [(0, .row 82 4 (out_4.map termC) 0)])) (W6 : InI ((i_4 : Int) + 1)) :
    Cont 0 (exec Tryz.prog (tab (n + 1)) 0 61 (livesOf 98) big plR_C4) (livesOf 98 4) (plR_h4 a0 a1 a2 out_4 d_4 i_4) (plR_h4 a0 a1 a2 out_4 true (i_4 + 1)) := by
  have C1_ : i_4 < a0.1.length := by omega
  obtain ⟨EL2, EG2⟩ := List.getElem?_eq_some_iff.1 E2
  have C3_ : (v3 == a1) = true := by rw [C3]; simp
  have C3_n : (v3 != a1) = false := by rw [C3]; simp
  have B4a := rawB_q B4aH
  have K4 := rr_add B4a B4b
  simp only [rawQ_q] at K4
  have W6_ : IntKind.i64.wrap ((i_4 : Int) + 1) = (i_4 : Int) + 1 := wr64 W6.1 W6.2
  unfold Cont
  simp +decide [plR_h4, loopsOf, Tryz.f98, plR_C4, C1, C1_, EL2, EG2, E2, C3_, C3_n, K4, K5, W6_]
theorem plR_r4_2 (C1 : (i_4 : Int) < (a0.1.length : Int)) (E2 : a0.1[i_4]? = some (v3, q3)) (C3 : v3 = a1) (B4aH : H q3 ≤ 17179869184) (B4b : RawB a2) (K5 : runL n 173 [.own 0 out_4.length, .agg [.lit (.int .i64 v3), .lit (.bool (rawQ (q3 + a2.q)).s), natA (rawQ (q3 + a2.q)).l1, natA (rawQ (q3 + a2.q)).l2]] [.row 82 4 (out_4.map termC) 0] = some (.own 3 R12.length, [(3, .row 82 4 (R12.map termC) 0)])) (W6 : InI ((i_4 : Int) + 1)) :
    Cont 0 (exec Tryz.prog (tab (n + 1)) 0 61 (livesOf 98) big plR_C4) (livesOf 98 4) (plR_h4 a0 a1 a2 out_4 d_4 i_4) (plR_h4 a0 a1 a2 R12 true (i_4 + 1)) := by
  have C1_ : i_4 < a0.1.length := by omega
  obtain ⟨EL2, EG2⟩ := List.getElem?_eq_some_iff.1 E2
  have C3_ : (v3 == a1) = true := by rw [C3]; simp
  have C3_n : (v3 != a1) = false := by rw [C3]; simp
  have B4a := rawB_q B4aH
  have K4 := rr_add B4a B4b
  simp only [rawQ_q] at K4
  have W6_ : IntKind.i64.wrap ((i_4 : Int) + 1) = (i_4 : Int) + 1 := wr64 W6.1 W6.2
  unfold Cont
  simp +decide [plR_h4, loopsOf, Tryz.f98, plR_C4, C1, C1_, EL2, EG2, E2, C3_, C3_n, K4, K5, W6_]
theorem plR_r4_4 (C1 : (i_4 : Int) < (a0.1.length : Int)) (E2 : a0.1[i_4]? = some (v3, q3)) (C3 : ¬ v3 = a1) (C4 : d_4 = false) (C5 : a1 < v3) (B6a : RawB a2) (K7 : runL n 173 [.own 0 out_4.length, .agg [.lit (.int .i64 a1), .lit (.bool (rawQ a2.q).s), natA (rawQ a2.q).l1, natA (rawQ a2.q).l2]] [.row 82 4 (out_4.map termC) 0] = some (.own 0 out_4.length, [(0, .row 82 4 (out_4.map termC) 0)])) (K8 : runL n 173 [.own 0 out_4.length, .agg [.lit (.int .i64 v3), .lit (.bool (rawQ q3).s), natA (rawQ q3).l1, natA (rawQ q3).l2]] [.row 82 4 (out_4.map termC) 0] = some (.own 3 R14.length, [(3, .row 82 4 (R14.map termC) 0)])) (W9 : InI ((i_4 : Int) + 1)) :
    Cont 0 (exec Tryz.prog (tab (n + 1)) 0 61 (livesOf 98) big plR_C4) (livesOf 98 4) (plR_h4 a0 a1 a2 out_4 d_4 i_4) (plR_h4 a0 a1 a2 R14 true (i_4 + 1)) := by
  have C1_ : i_4 < a0.1.length := by omega
  obtain ⟨EL2, EG2⟩ := List.getElem?_eq_some_iff.1 E2
  have C3_ : (v3 == a1) = false := by simpa using C3
  have C3_n : (v3 != a1) = true := by simpa using C3
  have K6 := rr_canon B6a
  have W9_ : IntKind.i64.wrap ((i_4 : Int) + 1) = (i_4 : Int) + 1 := wr64 W9.1 W9.2
  unfold Cont
  simp +decide [plR_h4, loopsOf, Tryz.f98, plR_C4, C1, C1_, EL2, EG2, E2, C3_, C3_n, C4, C5, K6, K7, K8, W9_]
theorem plR_r4_6 (C1 : (i_4 : Int) < (a0.1.length : Int)) (E2 : a0.1[i_4]? = some (v3, q3)) (C3 : ¬ v3 = a1) (C4 : d_4 = false) (C5 : a1 < v3) (B6a : RawB a2) (K7 : runL n 173 [.own 0 out_4.length, .agg [.lit (.int .i64 a1), .lit (.bool (rawQ a2.q).s), natA (rawQ a2.q).l1, natA (rawQ a2.q).l2]] [.row 82 4 (out_4.map termC) 0] = some (.own 3 R13.length, [(3, .row 82 4 (R13.map termC) 0)])) (K8 : runL n 173 [.own 0 R13.length, .agg [.lit (.int .i64 v3), .lit (.bool (rawQ q3).s), natA (rawQ q3).l1, natA (rawQ q3).l2]] [.row 82 4 (R13.map termC) 0] = some (.own 3 R15.length, [(3, .row 82 4 (R15.map termC) 0)])) (W9 : InI ((i_4 : Int) + 1)) :
    Cont 0 (exec Tryz.prog (tab (n + 1)) 0 61 (livesOf 98) big plR_C4) (livesOf 98 4) (plR_h4 a0 a1 a2 out_4 d_4 i_4) (plR_h4 a0 a1 a2 R15 true (i_4 + 1)) := by
  have C1_ : i_4 < a0.1.length := by omega
  obtain ⟨EL2, EG2⟩ := List.getElem?_eq_some_iff.1 E2
  have C3_ : (v3 == a1) = false := by simpa using C3
  have C3_n : (v3 != a1) = true := by simpa using C3
  have K6 := rr_canon B6a
  have W9_ : IntKind.i64.wrap ((i_4 : Int) + 1) = (i_4 : Int) + 1 := wr64 W9.1 W9.2
  unfold Cont
  simp +decide [plR_h4, loopsOf, Tryz.f98, plR_C4, C1, C1_, EL2, EG2, E2, C3_, C3_n, C4, C5, K6, K7, K8, W9_]
theorem plR_r4_8 (C1 : (i_4 : Int) < (a0.1.length : Int)) (E2 : a0.1[i_4]? = some (v3, q3)) (C3 : ¬ v3 = a1) (C4 : d_4 = false) (C5 : ¬ a1 < v3) (K6 : runL n 173 [.own 0 out_4.length, .agg [.lit (.int .i64 v3), .lit (.bool (rawQ q3).s), natA (rawQ q3).l1, natA (rawQ q3).l2]] [.row 82 4 (out_4.map termC) 0] = some (.own 3 R16.length, [(3, .row 82 4 (R16.map termC) 0)])) (W7 : InI ((i_4 : Int) + 1)) :
    Cont 0 (exec Tryz.prog (tab (n + 1)) 0 61 (livesOf 98) big plR_C4) (livesOf 98 4) (plR_h4 a0 a1 a2 out_4 d_4 i_4) (plR_h4 a0 a1 a2 R16 d_4 (i_4 + 1)) := by
  have C1_ : i_4 < a0.1.length := by omega
  obtain ⟨EL2, EG2⟩ := List.getElem?_eq_some_iff.1 E2
  have C3_ : (v3 == a1) = false := by simpa using C3
  have C3_n : (v3 != a1) = true := by simpa using C3
  have W7_ : IntKind.i64.wrap ((i_4 : Int) + 1) = (i_4 : Int) + 1 := wr64 W7.1 W7.2
  unfold Cont
  simp +decide [plR_h4, loopsOf, Tryz.f98, plR_C4, C1, C1_, EL2, EG2, E2, C3_, C3_n, C4, C5, K6, W7_]
theorem plR_r4_10 (C1 : (i_4 : Int) < (a0.1.length : Int)) (E2 : a0.1[i_4]? = some (v3, q3)) (C3 : ¬ v3 = a1) (C4 : d_4 = true) (K5 : runL n 173 [.own 0 out_4.length, .agg [.lit (.int .i64 v3), .lit (.bool (rawQ q3).s), natA (rawQ q3).l1, natA (rawQ q3).l2]] [.row 82 4 (out_4.map termC) 0] = some (.own 3 R17.length, [(3, .row 82 4 (R17.map termC) 0)])) (W6 : InI ((i_4 : Int) + 1)) :
    Cont 0 (exec Tryz.prog (tab (n + 1)) 0 61 (livesOf 98) big plR_C4) (livesOf 98 4) (plR_h4 a0 a1 a2 out_4 d_4 i_4) (plR_h4 a0 a1 a2 R17 d_4 (i_4 + 1)) := by
  have C1_ : i_4 < a0.1.length := by omega
  obtain ⟨EL2, EG2⟩ := List.getElem?_eq_some_iff.1 E2
  have C3_ : (v3 == a1) = false := by simpa using C3
  have C3_n : (v3 != a1) = true := by simpa using C3
  have W6_ : IntKind.i64.wrap ((i_4 : Int) + 1) = (i_4 : Int) + 1 := wr64 W6.1 W6.2
  unfold Cont
  simp +decide [plR_h4, loopsOf, Tryz.f98, plR_C4, C1, C1_, EL2, EG2, E2, C3_, C3_n, C4, K5, W6_]
theorem plR_x4_1 (C1 : ¬ (i_4 : Int) < (a0.1.length : Int)) :
    Leave 0 (exec Tryz.prog (tab (n + 1)) 0 61 (livesOf 98) big plR_C4) (livesOf 98 (outOf 4)) (plR_h4 a0 a1 a2 out_4 d_4 i_4) (.exit 0) (plR_o4a a0 a1 a2 out_4 d_4) := by
  have C1_ : ¬ i_4 < a0.1.length := by omega
  unfold Leave
  simp +decide [plR_h4, loopsOf, Tryz.f98, plR_o4a, plR_C4, C1, C1_]
theorem plR_f1 (L1 : loopG Tryz.prog (tab (n + 1)) 0 61 (livesOf 98) 4 plR_C4 (plR_h4 a0 a1 a2 [] false 0) = some (.exit 0, plR_o4a a0 a1 a2 out_4 d_4)) (C2 : d_4 = false) (B3a : RawB a2) (K4 : runL n 173 [.own 0 out_4.length, .agg [.lit (.int .i64 a1), .lit (.bool (rawQ a2.q).s), natA (rawQ a2.q).l1, natA (rawQ a2.q).l2]] [.row 82 4 (out_4.map termC) 0] = some (.own 0 out_4.length, [(0, .row 82 4 (out_4.map termC) 0)])) :
    run (n + 1) 98 [formV a0, .lit (.int .i64 a1), .agg [.lit (.bool a2.s), natA a2.l1, natA a2.l2]] = some (formV (out_4, a0.2)) := by
  have K3 := rr_canon B3a
  unfold run fnP
  simp +decide [Tryz.f98, C2, K3, K4]
  rw [loopX_G (C' := plR_C4) (e := (plR_h4 a0 a1 a2 [] false 0)) ?_ ?_, L1]
  rotate_left
  · kernel_rfl
  · simp +decide [plR_h4, C2, K3, K4]
  simp +decide [plR_o4a, C2, K3, K4]
theorem plR_f2 (L1 : loopG Tryz.prog (tab (n + 1)) 0 61 (livesOf 98) 4 plR_C4 (plR_h4 a0 a1 a2 [] false 0) = some (.exit 0, plR_o4a a0 a1 a2 out_4 d_4)) (C2 : d_4 = false) (B3a : RawB a2) (K4 : runL n 173 [.own 0 out_4.length, .agg [.lit (.int .i64 a1), .lit (.bool (rawQ a2.q).s), natA (rawQ a2.q).l1, natA (rawQ a2.q).l2]] [.row 82 4 (out_4.map termC) 0] = some (.own 3 R18.length, [(3, .row 82 4 (R18.map termC) 0)])) :
    run (n + 1) 98 [formV a0, .lit (.int .i64 a1), .agg [.lit (.bool a2.s), natA a2.l1, natA a2.l2]] = some (formV (R18, a0.2)) := by
  have K3 := rr_canon B3a
  unfold run fnP
  simp +decide [Tryz.f98, C2, K3, K4]
  rw [loopX_G (C' := plR_C4) (e := (plR_h4 a0 a1 a2 [] false 0)) ?_ ?_, L1]
  rotate_left
  · kernel_rfl
  · simp +decide [plR_h4, C2, K3, K4]
  simp +decide [plR_o4a, C2, K3, K4]
theorem plR_f3 (L1 : loopG Tryz.prog (tab (n + 1)) 0 61 (livesOf 98) 4 plR_C4 (plR_h4 a0 a1 a2 [] false 0) = some (.exit 0, plR_o4a a0 a1 a2 out_4 d_4)) (C2 : d_4 = true) :
    run (n + 1) 98 [formV a0, .lit (.int .i64 a1), .agg [.lit (.bool a2.s), natA a2.l1, natA a2.l2]] = some (formV (out_4, a0.2)) := by
  unfold run fnP
  simp +decide [Tryz.f98, C2]
  rw [loopX_G (C' := plR_C4) (e := (plR_h4 a0 a1 a2 [] false 0)) ?_ ?_, L1]
  rotate_left
  · kernel_rfl
  · simp +decide [plR_h4, C2]
  simp +decide [plR_o4a, C2]
end
end Go.Proofs.YtjpoanaoaeaneaaGreatDoor
set_option linter.all false
set_option maxRecDepth 100000
set_option maxHeartbeats 6400000
namespace Go.Proofs.YtjpoanaoaeaneaaGreatDoor
open Go.RowKit
theorem plR_step {n : Nat} {f : Form} {v : Int} {c : Raw} (hT : TmB 1000000 f.1) (hF : f.1.length ≤ 400000) (hR : RawB c) (hc : H c.q ≤ 1000000) {i : Nat} {t : Int × Rat} {b : List (Int × Rat) × Bool} (hi : f.1[i]? = some t) (hb : b.1.length ≤ 2 * i) :
    Cont 0 (exec Tryz.prog (tab (n + 1)) 0 61 (livesOf 98) big plR_C4) (livesOf 98 4) (plR_h4 f v c b.1 b.2 i) (plR_h4 f v c (plF v c.q i b t).1 (plF v c.q i b t).2 (i + 1)) := by
  obtain ⟨u, q⟩ := t
  obtain ⟨out, d⟩ := b
  have hlt := (List.getElem?_eq_some_iff.1 hi).1
  have ht := hT _ (List.mem_of_getElem? hi)
  have hq : H q ≤ 1000000 := ht.2
  have hq0 : q ≠ 0 := ht.1
  have hH := H_add q c.q
  have C1 : (i : Int) < (f.1.length : Int) := by omega
  have W : InI ((i : Int) + 1) := ⟨by omega, by omega⟩
  have hb : out.length ≤ 2 * i := hb
  have e3 : put1 u q = [(u, q)] := if_neg hq0
  unfold plF
  dsimp only
  split
  · rename_i e
    by_cases h0 : q + c.q = 0
    · have e4 : put1 u (q + c.q) = [] := if_pos h0
      rw [e4, List.append_nil]
      exact plR_r4_1 C1 hi e (by omega) hR (nz_same (by omega) h0) W
    · have e4 : put1 u (q + c.q) = [(u, q + c.q)] := if_neg h0
      rw [e4]
      exact plR_r4_2 C1 hi e (by omega) hR (nz_new (by omega) h0 (by omega)) W
  · rename_i e
    split
    · rename_i e2
      obtain ⟨e2, e5⟩ := e2
      rw [e3]
      by_cases h0 : c.q = 0
      · have e4 : put1 v c.q = [] := if_pos h0
        rw [e4, List.nil_append]
        exact plR_r4_4 C1 hi e e2 e5 hR (nz_same (by omega) h0) (nz_new (by omega) hq0 (by omega)) W
      · have e4 : put1 v c.q = [(v, c.q)] := if_neg h0
        rw [e4, ← List.append_assoc]
        exact plR_r4_6 C1 hi e e2 e5 hR (nz_new (by omega) h0 (by omega)) (nz_new (by omega) hq0 (by rw [List.length_append]; simp; omega)) W
    · rename_i e2
      rw [e3]
      cases d with
      | true => exact plR_r4_10 C1 hi e rfl (nz_new (by omega) hq0 (by omega)) W
      | false => exact plR_r4_8 C1 hi e rfl (fun h => e2 ⟨rfl, h⟩) (nz_new (by omega) hq0 (by omega)) W
theorem plusR_c {n : Nat} {f : Form} {v : Int} {c : Raw} (hT : TmB 1000000 f.1) (hF : f.1.length ≤ 400000) (hR : RawB c) (hc : H c.q ≤ 1000000) :
    run (n + 1) 98 [formV f, .lit (.int .i64 v), .agg [.lit (.bool c.s), natA c.l1, natA c.l2]] = some (formV (plusV false f.1 v c.q, f.2)) := by
  have L : loopG Tryz.prog (tab (n + 1)) 0 61 (livesOf 98) 4 plR_C4 (plR_h4 f v c [] false 0) = some (.exit 0, plR_o4a f v c (plO false f.1 v c.q) (plD false f.1 v)) := by
    have h := (loopG_I (O := tab (n + 1)) (exN := .exit 0) (L := f.1) (enc := fun i b => plR_h4 f v c b.1 b.2 i) (f := plF v c.q) (Inv := fun i b => b.1.length ≤ 2 * i) (out := fun b => plR_o4a f v c b.1 b.2) ([], false) (by simp) (by omega) (by simp)
      (fun i t b hi hI => ⟨plR_step hT hF hR hc hi hI, by have := plF_len v c.q i b t; omega⟩) (fun b hI => plR_x4_1 (by omega))).1
    rw [plF_fold] at h
    exact h
  have hl := plO_len v c.q false f.1
  rw [plusV_plO]
  cases hd : plD false f.1 v with
  | true =>
    rw [hd] at L
    rw [if_pos rfl, List.append_nil]
    exact plR_f3 L rfl
  | false =>
    rw [hd] at L
    rw [if_neg (by simp)]
    by_cases h0 : c.q = 0
    · have e : put1 v c.q = [] := if_pos h0
      rw [e, List.append_nil]
      exact plR_f1 L rfl hR (nz_same (by omega) h0)
    · have e : put1 v c.q = [(v, c.q)] := if_neg h0
      rw [e]
      exact plR_f2 L rfl hR (nz_new (by omega) h0 (by omega))
end Go.Proofs.YtjpoanaoaeaneaaGreatDoor
set_option linter.all false
set_option maxRecDepth 100000
set_option maxHeartbeats 6400000
namespace Go.Proofs.YtjpoanaoaeaneaaGreatDoor
open Go.RowKit
section
variable {a0 : Tparser} {n : Nat} {r : Bool} {z : Int} {r3 : Bool} {z2 : Int} {r4 : Int} {r2 : ByteArray} {r5 : AV}
theorem lvr_f1 (K1 : runL (n + 8) 70 [.ptr 0 0, .lit (.string (⟨#[120]⟩ : ByteArray))] [.box 98 [.lit (.string a0.s), .lit (.int .i64 (a0.at_))] false] = some (.lit (.bool r), [(0, .box 98 [.lit (.string a0.s), .lit (.int .i64 z)] false)])) (C2 : r = false) :
    runL (n + 9) 143 [.ptr 0 0] [.box 98 [.lit (.string a0.s), .lit (.int .i64 (a0.at_))] false] = some (.tup [.lit (.int .i64 0), .lit (.bool false)], [(0, .box 98 [.lit (.string a0.s), .lit (.int .i64 z)] false)]) := by
  rw [C2] at K1
  unfold runL fnL
  simp +decide [Tryz.f143, K1, C2]
theorem lvr_f2 (K1 : runL (n + 8) 70 [.ptr 0 0, .lit (.string (⟨#[120]⟩ : ByteArray))] [.box 98 [.lit (.string a0.s), .lit (.int .i64 (a0.at_))] false] = some (.lit (.bool r), [(0, .box 98 [.lit (.string a0.s), .lit (.int .i64 z)] false)])) (C2 : r = true) (W3 : InI (z + 1)) (K4 : runL (n + 8) 140 [.ptr 0 0, .lit (.int .i64 9), .lit (.bool true)] [.box 98 [.lit (.string a0.s), .lit (.int .i64 (z + 1))] false] = some (.tup [.lit (.string r2), .lit (.bool r3)], [(0, .box 98 [.lit (.string a0.s), .lit (.int .i64 z2)] false)])) (K5 : (oAtoi) [.lit (.string r2)] = some (.tup [.lit (.int .i64 r4), r5])) :
    runL (n + 9) 143 [.ptr 0 0] [.box 98 [.lit (.string a0.s), .lit (.int .i64 (a0.at_))] false] = some (.tup [.lit (.int .i64 r4), .lit (.bool r3)], [(0, .box 98 [.lit (.string a0.s), .lit (.int .i64 z2)] false)]) := by
  have W3_ : IntKind.i64.wrap (z + 1) = z + 1 := wr64 W3.1 W3.2
  rw [C2] at K1
  unfold runL fnL
  simp +decide [Tryz.f143, K1, C2, W3_, K4, K5]
end
end Go.Proofs.YtjpoanaoaeaneaaGreatDoor
