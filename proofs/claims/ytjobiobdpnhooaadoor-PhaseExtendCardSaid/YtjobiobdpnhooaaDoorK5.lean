/- relucertref02: Make, Of, Sign; relucertref01: Sub below 0: what each call returns. relucertref02: Add: what the call returns. relucertref03: one, quotient, Canon, Of, Neg, Sign: what each call returns. relucertref03: Canon, Neg, Of, Sign, Same, Valid: what each call returns. relucertref03: Mul, Add, Sub, Cmp: what each call returns. relucertref03: Add: what the call returns. relucertref03: Sub, Cmp: what each call returns. -/
import Derived.Test.YtjobiobdpnhooaaDoorK4
set_option linter.all false
namespace Go.Proofs.YtjobiobdpnhooaaDoor
open Go.RowKit

set_option maxHeartbeats 800000 in
theorem gmake_any (w : World) {neg : Bool} {ad : Option Addr} {n c : Nat} {l : List Nat} (h : LimR w ad n c l) (hn : n ≤ 17592186044416) :
    Calls Tryd.prog 42 #[.bool neg, .slice ad n c] w (RetI (iv neg l) w) := by
  have hb0 : Below w.heap.size w (w.alloc (.cells #[.bool false, .slice none 0 0] 60)) := (Below.refl _ _).alloc (Nat.le_refl _) _
  cases neg with
  | false =>
    go_enter Tryd.func42, Tryd.ntmps42
    go_wp2_with fail
    refine (fmake_any _ (h.on hb0) (by omega)).mono ?_
    rintro e w1 ⟨ad1, n1, c1, rfl, g1, hb1⟩
    obtain ⟨hc, hf⟩ := bcell hb1
    have hs : w.heap.size < w1.heap.size := by have := hb1.size; simp at this; omega
    have HI := intC_make (neg := false) g1
    go_wp2_with fail
    have hb2 := ((hb0.trans (hb1.mono (by simp))).setCell (p := ⟨w.heap.size, 0, none⟩) (Nat.le_refl _) (.bool false)).setCell (p := ⟨w.heap.size, 1, none⟩) (Nat.le_refl _) (.slice ad1 n1 c1)
    have hl := g1.box64 (B := w.heap.size) (x := false) (a := none) (m := 0) (k := 0) (by simp [hc]) (by simp [hc]) (.bool false) (.slice ad1 n1 c1)
    exact bodyPost_ret (v := .agg #[.bool false, .slice ad1 n1 c1]) (by simp [results, Tryd.results42, go_sem, hc]) rfl ⟨_, _, _, _, rfl, ⟨HI.sign, by rw [show (iv false l).natAbs = val l by simp [iv]]; exact hl⟩, hb2⟩
  | true =>
    go_enter Tryd.func42, Tryd.ntmps42
    go_wp2_with fail
    refine (fmake_any _ (h.on hb0) (by omega)).mono ?_
    rintro e w1 ⟨ad1, n1, c1, rfl, g1, hb1⟩
    obtain ⟨hc, hf⟩ := bcell hb1
    have hs : w.heap.size < w1.heap.size := by have := hb1.size; simp at this; omega
    have HI := intC_make (neg := true) g1
    go_wp2_with fail
    have hb2 := ((hb0.trans (hb1.mono (by simp))).setCell (p := ⟨w.heap.size, 0, none⟩) (Nat.le_refl _) (.bool (decide (0 < n1)))).setCell (p := ⟨w.heap.size, 1, none⟩) (Nat.le_refl _) (.slice ad1 n1 c1)
    have hl := g1.box64 (B := w.heap.size) (x := false) (a := none) (m := 0) (k := 0) (by simp [hc]) (by simp [hc]) (.bool (decide (0 < n1))) (.slice ad1 n1 c1)
    exact bodyPost_ret (v := .agg #[.bool (decide (0 < n1)), .slice ad1 n1 c1]) (by simp [results, Tryd.results42, go_sem, hc]) rfl ⟨_, _, _, _, rfl, ⟨HI.sign, by rw [show (iv true l).natAbs = val l by simp [iv]]; exact hl⟩, hb2⟩

theorem iv_lmb {neg : Bool} {k : Nat} {z : Int} (h : z = if neg then -(k : Int) else (k : Int)) : iv neg (lmb k) = z := by unfold iv; rw [val_lmb, h]
set_option maxHeartbeats 800000 in
theorem gof_any (w : World) (x : Int) (h0 : -9223372036854775808 ≤ x) (h1 : x ≤ 9223372036854775807) :
    Calls Tryd.prog 32 #[.int .i64 x] w (RetI x w) := by
  have hb0 : Below w.heap.size w (w.alloc (.cells #[.bool false, .slice none 0 0] 60)) := (Below.refl _ _).alloc (Nat.le_refl _) _
  have hz0 : w.heap.size < (w.alloc (.cells #[.bool false, .slice none 0 0] 60)).heap.size := by simp
  rcases Int.lt_or_le x 0 with hx | hx
  · have hxx : IntKind.u64.wrap (-IntKind.u64.wrap x) = -x := by rw [wrapU64, wrapU64]; omega
    go_enter Tryd.func32, Tryd.ntmps32
    go_wp2_with fail
    refine (fof_any _ (-x) (by omega) (by omega)).mono ?_
    rintro e w1 ⟨ad3, n3, c3, rfl, g1, hb1⟩
    have hn3 : n3 ≤ 2 := by rw [← g1.len]; exact lmb_len_le (by omega)
    go_wp2_with fail
    refine (gmake_any _ g1 (by omega)).mono ?_
    rintro e w2 ⟨neg2, ad4, n4, c4, rfl, g2, hb2'⟩
    have hb2 := hb1.trans (hb2'.mono hb1.size)
    obtain ⟨hc, hf⟩ := bcell hb2
    have hs : w.heap.size < w2.heap.size := Nat.lt_of_lt_of_le hz0 hb2.size
    rw [iv_lmb (z := x) (by simp; omega)] at g2
    clear g1 hxx hb2' hb1
    go_wp2_with fail
    exact bodyPost_ret (v := .agg #[.bool neg2, .slice ad4 n4 c4]) (by simp [results, Tryd.results32, go_sem, hc]) rfl
      ⟨_, _, _, _, rfl, g2.box64 (B := w.heap.size) (x := false) (a := none) (m := 0) (k := 0) (by simp [hc]) (by simp [hc]) _ _, below_box64 (hb0.trans (hb2.mono (by simp))) (by omega) _ _⟩
  · go_enter Tryd.func32, Tryd.ntmps32
    go_wp2_with fail
    refine (fof_any _ x (by omega) (by omega)).mono ?_
    rintro e w1 ⟨ad3, n3, c3, rfl, g1, hb1⟩
    have hn3 : n3 ≤ 2 := by rw [← g1.len]; exact lmb_len_le (by omega)
    go_wp2_with fail
    refine (gmake_any _ g1 (by omega)).mono ?_
    rintro e w2 ⟨neg2, ad4, n4, c4, rfl, g2, hb2'⟩
    have hb2 := hb1.trans (hb2'.mono hb1.size)
    obtain ⟨hc, hf⟩ := bcell hb2
    have hs : w.heap.size < w2.heap.size := Nat.lt_of_lt_of_le hz0 hb2.size
    rw [iv_lmb (z := x) (by simp; omega)] at g2
    clear g1 hb2' hb1
    go_wp2_with fail
    exact bodyPost_ret (v := .agg #[.bool neg2, .slice ad4 n4 c4]) (by simp [results, Tryd.results32, go_sem, hc]) rfl
      ⟨_, _, _, _, rfl, g2.box64 (B := w.heap.size) (x := false) (a := none) (m := 0) (k := 0) (by simp [hc]) (by simp [hc]) _ _, below_box64 (hb0.trans (hb2.mono (by simp))) (by omega) _ _⟩

set_option maxRecDepth 100000 in
set_option maxHeartbeats 1600000 in
theorem gsign_any (w : World) {neg : Bool} {ad : Option Addr} {n c : Nat} {l : List Nat} (h : LimR w ad n c l) (hn : n ≤ 17592186044416) :
    Calls Tryd.prog 41 #[.agg #[.bool neg, .slice ad n c]] w (RetInt (iv neg l).sign w) := by
  have hP := Pro1.mk' w #[.bool neg, .slice ad n c] 60
  go_enter Tryd.func41, Tryd.ntmps41
  go_upto_region 1 with (fail)
  generalize w.alloc (.cells #[.bool neg, .slice ad n c] 60) = W at *
  have k00 := hP.b0.cell 0
  have f00 := hP.b0.frozen 0
  have k01 := hP.b0.cell 1
  have f01 := hP.b0.frozen 1
  have z0 := hP.b0.lt
  simp at k00 k01
  have hw0 : Below W.heap.size W W.drew := Below.drew (Below.refl _ _)
  have g := h.on hP.below
  clear h
  go_wp2_with fail
  refine (gmake_any _ g (by omega)).mono ?_
  rintro e w1 ⟨neg1, ad1, n1, c1, rfl, g1, hb1⟩
  obtain ⟨hc, hf⟩ := bcell hb1
  have hs : w.heap.size < w1.heap.size := Nat.lt_of_lt_of_le z0 hb1.size
  have hb := below_box64 (hP.below.trans (hb1.mono (by omega))) (Nat.le_refl _) (.bool neg1) (.slice ad1 n1 c1)
  have HS := Lib.hid g1.sign.out
  have HL := Lib.hid g1.mag.len
  generalize iv neg l = z at *
  clear g g1 hP
  rcases Nat.eq_zero_or_pos n1 with h0 | h0
  · subst h0
    have HZ : Hid (z.sign = 0) := by have := lmb_len_zero.1 HL.out; show z.sign = 0; rw [Int.natAbs_eq_zero.1 this]; rfl
    go_wp2_with fail
    go_ret
    exact ⟨intEnd HZ.out.symm, hb⟩
  · have HZ : Hid (z ≠ 0) := fun e => by have := HL.out; rw [e] at this; simp at this; omega
    have e1 : ((n1 : Int) == 0) = false := by simp; omega
    clear h0
    cases neg1 with
    | false =>
      have HP : Hid (z.sign = 1) := by have := HS.out; simp at this; have h9 := HZ.out; exact Int.sign_eq_one_of_pos (by omega)
      go_wp2_with fail
      go_ret
      exact ⟨intEnd HP.out.symm, hb⟩
    | true =>
      have HP : Hid (z.sign = -1) := by have := HS.out; simp at this; exact Int.sign_eq_neg_one_of_neg (by omega)
      go_wp2_with fail
      go_ret
      exact ⟨intEnd HP.out.symm, hb⟩
end Go.Proofs.YtjobiobdpnhooaaDoor
namespace Go.Proofs.YtjobiobdpnhooaaDoor
open Go.RowKit

def SubNo (w : World) (e : Ending) (w' : World) : Prop := e = .returned (.tuple #[.slice none 0 0, .int .i64 2]) ∧ w = w'
set_option maxHeartbeats 800000 in
theorem fsubno_any (w : World) {ad1 ad2 : Option Addr} {n1 n2 c1 c2 : Nat} {l1 l2 : List Nat} (h1 : LimR w ad1 n1 c1 l1) (h2 : LimR w ad2 n2 c2 l2) (hn1 : n1 ≤ 8796093022208) (hn2 : n2 ≤ 8796093022208) (hlt : val l1 < val l2) :
    Calls Tryd.prog 66 #[.slice ad1 n1 c1, .slice ad2 n2 c2] w (SubNo w) := by
  go_enter Tryd.func66, Tryd.ntmps66
  go_wp2_with fail
  refine (fcmp_any w h1 h2 (by omega) (by omega)).mono ?_
  rintro e w1 ⟨rfl, rfl⟩
  have hc := cmpN_neg hlt
  generalize cmpN (val l1) (val l2) = cc at *
  go_wp2_with fail
  go_ret2
  exact ⟨rfl, rfl⟩

end Go.Proofs.YtjobiobdpnhooaaDoor
namespace Go.Proofs.YtjobiobdpnhooaaDoor
open Go.RowKit

theorem one_len {w : World} {ad : Option Addr} {n c : Nat} {l : List Nat} (h : LimR w ad n c l) : (lmb (dn l)).length ≤ n + 1 := by
  have := dn_len h; rwa [Int.natAbs_natCast] at this
set_option maxHeartbeats 400000 in
theorem fone_any (w : World) {ad : Option Addr} {n c : Nat} {l : List Nat} (h : LimR w ad n c l) (hn : n ≤ 17592186044416) :
    Calls Tryd.prog 40 #[.slice ad n c] w (RetN (dn l) w) := by
  go_enter Tryd.func40, Tryd.ntmps40
  go_wp2_with fail
  refine (fmake_any _ h (by omega)).mono ?_
  rintro e w1 ⟨a1, n1, c1, rfl, g1, hb1⟩
  clear h
  have HL := Lib.hid g1.len
  rcases Nat.eq_zero_or_pos n1 with h0 | h0
  · subst h0
    have HZ : Hid (dn l = 1) := by unfold dn; exact if_pos (lmb_len_zero.1 HL.out)
    go_wp2_with fail
    go_ret
    exact ⟨_, _, _, rfl, by rw [HZ.out, lmb_one]; exact one_row w1 (x := 1) (by omega), hb1.trans ((Below.refl _ _).alloc hb1.size _)⟩
  · have HZ : Hid (dn l = val l) := by unfold dn; exact if_neg (fun e => by have := HL.out; rw [e] at this; simp at this; omega)
    have e1 : ((n1 : Int) == 0) = false := by simp; omega
    clear h0
    go_wp2_with fail
    go_ret
    exact ⟨_, _, _, rfl, by rw [HZ.out]; exact g1, hb1⟩

theorem ratC_all {w : World} {neg : Bool} {a1 a2 : Option Addr} {n1 c1 n2 c2 N D : Nat} (hD : 0 < D) (h : LimR w a1 n1 c1 (lmb (N / Nat.gcd N D))) (hd : LimR w a2 n2 c2 (dlmb (D / Nat.gcd N D))) : RatC w (neg && decide (0 < n1)) a1 n1 c1 a2 n2 c2 (mkRat (sgi neg N) D) := by
  rcases Nat.eq_zero_or_pos N with rfl | hN
  · have hl := h.len
    rw [Nat.zero_div] at hl h
    rw [Nat.gcd_zero_left, Nat.div_self hD] at hd
    have : n1 = 0 := by simpa using hl.symm
    subst this
    rw [rat_zero]
    refine ⟨?_, h, hd⟩
    show _ = _
    cases neg <;> rfl
  · have hl := h.len
    have h0 : 0 < n1 := by
      rcases Nat.eq_zero_or_pos n1 with h9 | h9
      · rw [h9, lmb_len_zero] at hl
        have := Nat.div_pos (Nat.le_of_dvd hN (Nat.gcd_dvd_left N D)) (gcd_pos hD)
        omega
      · exact h9
    have := ratC_gen (neg := neg) hN hD h hd
    simpa [h0] using this

theorem lmb_not_one {k : Nat} (h : (lmb k).length = 1) (hk : k ≠ 1) {x : Nat} (hx : (lmb k).getD 0 0 = x) : x ≠ 1 := by
  have h3 := vt_succ (lmb k) 0
  rw [vt_zero, hx, vt_all _ (by omega), val_lmb] at h3
  intro e; subst e; omega
set_option maxRecDepth 100000 in
set_option maxHeartbeats 3200000 in
theorem fquot_any (w : World) {neg : Bool} {a1 a2 : Option Addr} {n1 n2 c1 c2 : Nat} {l1 l2 : List Nat} (h1 : LimR w a1 n1 c1 l1) (h2 : LimR w a2 n2 c2 l2) (hn1 : n1 ≤ 4398046511104) (hn2 : n2 ≤ 4398046511104) (hd : 0 < val l2) :
    Calls Tryd.prog 39 #[.bool neg, .slice a1 n1 c1, .slice a2 n2 c2] w (RetR (mkRat (sgi neg (val l1)) (val l2)) w) := by
  have HL2 := Lib.hid (lmb_len_val h2.lim)
  rw [h2.len] at HL2
  have hP := Pro1.mk' w #[.bool false, .slice none 0 0, .slice none 0 0] 34
  go_enter Tryd.func39, Tryd.ntmps39
  go_upto_region 1 with (fail)
  generalize w.alloc (.cells #[.bool false, .slice none 0 0, .slice none 0 0] 34) = W at *
  have k00 := hP.b0.cell 0
  have f00 := hP.b0.frozen 0
  have k01 := hP.b0.cell 1
  have f01 := hP.b0.frozen 1
  have k02 := hP.b0.cell 2
  have f02 := hP.b0.frozen 2
  have z0 := hP.b0.lt
  simp at k00 k01 k02
  have hw0 : Below W.heap.size W W.drew := Below.drew (Below.refl _ _)
  have g1 := h1.on hP.below
  have g2 := h2.on hP.below
  have hw1 := hP.below
  clear h1 h2 k00 k01 k02 f00 f01 f02 hw0
  go_wp2_with fail
  refine (fgcd_any _ g1 g2 (by omega) (by omega)).mono ?_
  rintro e w3 ⟨a3, n3, c3, rfl, g3, hb3⟩
  have hgp := gcd_pos (N := val l1) hd
  have hn3 : n3 ≤ n2 := by rw [← g3.len]; exact Nat.le_trans (lmb_len_mono (Nat.le_of_dvd hd (Nat.gcd_dvd_right _ _))) HL2.out
  go_wp2_with fail
  refine (fdiv_any _ (g1.on hb3) g3 (by omega) (by omega) (by rw [val_lmb]; exact hgp)).mono ?_
  rintro e w4 ⟨a4, n4, c4, a5, n5, c5, rfl, g4, _, hb4'⟩
  rw [val_lmb] at g4
  have hb4 := hb3.trans (hb4'.mono hb3.size)
  go_wp2_with fail
  refine (fdiv_any _ (g2.on hb4) (g3.on hb4') (by omega) (by omega) (by rw [val_lmb]; exact hgp)).mono ?_
  rintro e w5 ⟨a6, n6, c6, a7, n7, c7, rfl, g6, _, hb5'⟩
  rw [val_lmb] at g6
  have hb5 := hb4.trans (hb5'.mono hb4.size)
  have g4' := g4.on hb5'
  have hB := hP.b0.on hb5
  have hW5 := hw1.trans (hb5.mono (by omega))
  have HK : Hid (∀ {a2 : Option Addr} {n2 c2 : Nat}, LimR w5 a2 n2 c2 (dlmb (val l2 / Nat.gcd (val l1) (val l2))) → RatC w5 (neg && decide (0 < n4)) a4 n4 c4 a2 n2 c2 (mkRat (sgi neg (val l1)) (val l2))) := fun hd2 => ratC_all hd g4' hd2
  have k0 := hB.cell 0
  have k1 := hB.cell 1
  have k2 := hB.cell 2
  have k3 := hB.frozen 0
  have k4 := hB.frozen 1
  have k5 := hB.frozen 2
  have z5 := hB.lt
  simp at k0 k1 k2
  clear hP hw1 z0 g1 g2 g3 g4 g4' hb3 hb4 hb4' hb5 hb5' hB hgp
  generalize val l2 / Nat.gcd (val l1) (val l2) = K at *
  by_cases hK : K = 1
  · subst hK
    have hn6 : n6 = 1 := by rw [← g6.len, lmb_one]; rfl
    subst hn6
    obtain ⟨b, o, x, rfl, _, hx, hu, HX⟩ := g6.at_ (show 0 < 1 by omega)
    rw [Nat.add_zero] at hx
    have e1 : x = 1 := by rw [← HX.out, lmb_one]; rfl
    subst e1
    have HR := Lib.hid (HK.out (LimR.nil w5 none 0))
    clear HK HX
    cases neg with
    | false =>
      go_wp2_with fail
      exact bodyPost_ret (v := .agg #[.bool false, .slice a4 n4 c4, .slice none 0 0]) (by simp [results, Tryd.results39, go_sem, *]) rfl
        ⟨_, _, _, _, _, _, _, rfl, RatC.box27 (HR.out : RatC w5 false _ _ _ _ _ _ _) k0 k1 k2 _ _ _, below_box27 hW5 (Nat.le_refl _) _ _ _⟩
    | true =>
      have HR' := HR.out
      rw [Bool.true_and] at HR'
      go_wp2_with fail
      exact bodyPost_ret (v := .agg #[.bool (decide (0 < n4)), .slice a4 n4 c4, .slice none 0 0]) (by simp [results, Tryd.results39, go_sem, *]) rfl
        ⟨_, _, _, _, _, _, _, rfl, HR'.box27 k0 k1 k2 _ _ _, below_box27 hW5 (Nat.le_refl _) _ _ _⟩
  · have HR := Lib.hid (HK.out (by rw [dlmb_ne hK]; exact g6))
    by_cases hn6 : n6 = 1
    · subst hn6
      obtain ⟨b, o, x, rfl, _, hx, hu, HX⟩ := g6.at_ (show 0 < 1 by omega)
      rw [Nat.add_zero] at hx
      have hx1 : x ≠ 1 := lmb_not_one g6.len hK HX.out
      have e2 : ((x : Int) == 1) = false := by simp; omega
      clear HK HX hK hx1
      cases neg with
      | false =>
        go_wp2_with fail
        exact bodyPost_ret (v := .agg #[.bool false, .slice a4 n4 c4, .slice (some ⟨b, o, none⟩) 1 c6]) (by simp [results, Tryd.results39, go_sem, *]) rfl
          ⟨_, _, _, _, _, _, _, rfl, RatC.box27 (HR.out : RatC w5 false _ _ _ _ _ _ _) k0 k1 k2 _ _ _, below_box27 hW5 (Nat.le_refl _) _ _ _⟩
      | true =>
        have HR' := HR.out
        rw [Bool.true_and] at HR'
        go_wp2_with fail
        exact bodyPost_ret (v := .agg #[.bool (decide (0 < n4)), .slice a4 n4 c4, .slice (some ⟨b, o, none⟩) 1 c6]) (by simp [results, Tryd.results39, go_sem, *]) rfl
          ⟨_, _, _, _, _, _, _, rfl, HR'.box27 k0 k1 k2 _ _ _, below_box27 hW5 (Nat.le_refl _) _ _ _⟩
    · have e2 : ((n6 : Int) == 1) = false := by simp; omega
      clear HK hK hn6
      cases neg with
      | false =>
        go_wp2_with fail
        exact bodyPost_ret (v := .agg #[.bool false, .slice a4 n4 c4, .slice a6 n6 c6]) (by simp [results, Tryd.results39, go_sem, *]) rfl
          ⟨_, _, _, _, _, _, _, rfl, RatC.box27 (HR.out : RatC w5 false _ _ _ _ _ _ _) k0 k1 k2 _ _ _, below_box27 hW5 (Nat.le_refl _) _ _ _⟩
      | true =>
        have HR' := HR.out
        rw [Bool.true_and] at HR'
        go_wp2_with fail
        exact bodyPost_ret (v := .agg #[.bool (decide (0 < n4)), .slice a4 n4 c4, .slice a6 n6 c6]) (by simp [results, Tryd.results39, go_sem, *]) rfl
          ⟨_, _, _, _, _, _, _, rfl, HR'.box27 k0 k1 k2 _ _ _, below_box27 hW5 (Nat.le_refl _) _ _ _⟩
end Go.Proofs.YtjobiobdpnhooaaDoor
namespace Go.Proofs.YtjobiobdpnhooaaDoor
open Go.RowKit

set_option maxRecDepth 100000 in
set_option maxHeartbeats 3200000 in
theorem fcanon_any (w : World) {neg : Bool} {a1 a2 : Option Addr} {n1 n2 c1 c2 : Nat} {l1 l2 : List Nat} (h1 : LimR w a1 n1 c1 l1) (h2 : LimR w a2 n2 c2 l2) (hn1 : n1 ≤ 1099511627776) (hn2 : n2 ≤ 1099511627776) :
    Calls Tryd.prog 30 #[.agg #[.bool neg, .slice a1 n1 c1, .slice a2 n2 c2]] w (RetR (sv neg l1 l2) w) := by
  have hP := Pro2.mk' w #[.bool neg, .slice a1 n1 c1, .slice a2 n2 c2] #[.bool false, .slice none 0 0, .slice none 0 0] 34 34
  go_enter Tryd.func30, Tryd.ntmps30
  go_upto_region 1 with (fail)
  generalize (w.alloc (.cells #[.bool neg, .slice a1 n1 c1, .slice a2 n2 c2] 34)).alloc (.cells #[.bool false, .slice none 0 0, .slice none 0 0] 34) = W at *
  have k00 := hP.b0.cell 0
  have f00 := hP.b0.frozen 0
  have k01 := hP.b0.cell 1
  have f01 := hP.b0.frozen 1
  have k02 := hP.b0.cell 2
  have f02 := hP.b0.frozen 2
  have z0 := hP.b0.lt
  have k10 := hP.b1.cell 0
  have f10 := hP.b1.frozen 0
  have k11 := hP.b1.cell 1
  have f11 := hP.b1.frozen 1
  have k12 := hP.b1.cell 2
  have f12 := hP.b1.frozen 2
  have z1 := hP.b1.lt
  simp at k00 k01 k02 k10 k11 k12
  have hw0 : Below W.heap.size W W.drew := Below.drew (Below.refl _ _)
  have g1 := h1.on hP.below
  have g2 := h2.on hP.below
  go_region_held3 (fun w' => w'.cell? ⟨w.heap.size, 0, none⟩ = some (.bool neg) ∧ w'.cell? ⟨w.heap.size, 1, none⟩ = some (.slice a1 n1 c1) ∧ w'.cell? ⟨w.heap.size, 2, none⟩ = some (.slice a2 n2 c2))
    (go_keep)
    (first
      | (go_at_call 40; refine (fone_any _ (g2.on hw0) (by omega)).mono ?_; rintro e w3 ⟨ad3, n3, c3, rfl, g3, hb3'⟩; have hb3 : Below W.heap.size W w3 := hw0.trans hb3'; obtain ⟨hc3, hf3⟩ := bcell hb3)
      | (go_at_call 39; refine (fquot_any _ (g1.on hb3) g3 (by omega) (by have h9 := one_len h2; rw [g3.len] at h9; omega) (by rw [val_lmb]; exact dn_pos _)).mono ?_; rintro e w4 ⟨neg4, a4, n4, c4, a5, n5, c5, rfl, g4, hb4'⟩; have hb4 : Below W.heap.size W w4 := hb3.trans (hb4'.mono hb3.size); obtain ⟨hc4, hf4⟩ := bcell hb4))
  go_wp2_with fail
  rw [val_lmb] at g4
  exact bodyPost_ret (v := .agg #[.bool neg4, .slice a4 n4 c4, .slice a5 n5 c5]) (by simp [results, Tryd.results30, go_sem, *]) rfl
    ⟨_, _, _, _, _, _, _, rfl, g4.box27 (B := w.heap.size + 1) (x := false) (a := none) (a' := none) (m := 0) (k := 0) (m' := 0) (k' := 0) (by simp [*]) (by simp [*]) (by simp [*]) _ _ _, below_box27 (hP.below.trans (hb4.mono (by omega))) (by omega) _ _ _⟩

theorem ratC_int {w : World} {neg : Bool} {ad : Option Addr} {n c : Nat} {x : Int} (h : IntC w neg ad n c x) : RatC w neg ad n c none 0 0 (x : Rat) :=
  ⟨by have := h.sign.out; rw [Rat.num_intCast]; exact this, by rw [Rat.num_intCast]; exact h.mag, by rw [Rat.den_intCast]; exact LimR.nil _ _ _⟩
set_option maxRecDepth 100000 in
set_option maxHeartbeats 3200000 in
theorem frsame_any (w : World) {s1 s2 : Bool} {a1 a2 a3 a4 : Option Addr} {n1 n2 n3 n4 c1 c2 c3 c4 : Nat} {l1 l2 l3 l4 : List Nat}
    (h1 : LimR w a1 n1 c1 l1) (h2 : LimR w a2 n2 c2 l2) (h3 : LimR w a3 n3 c3 l3) (h4 : LimR w a4 n4 c4 l4) (hn1 : n1 ≤ 17592186044416) (hn2 : n2 ≤ 17592186044416) (hn3 : n3 ≤ 17592186044416) (hn4 : n4 ≤ 17592186044416) :
    Calls Tryd.prog 29 #[.agg #[.bool s1, .slice a1 n1 c1, .slice a2 n2 c2], .agg #[.bool s2, .slice a3 n3 c3, .slice a4 n4 c4]] w (RetB (decide (s1 = s2 ∧ l1 = l3 ∧ l2 = l4)) w) := by
  have hP := Pro2.mk' w #[.bool s1, .slice a1 n1 c1, .slice a2 n2 c2] #[.bool s2, .slice a3 n3 c3, .slice a4 n4 c4] 34 34
  go_enter Tryd.func29, Tryd.ntmps29
  go_upto_region 1 with (fail)
  generalize (w.alloc (.cells #[.bool s1, .slice a1 n1 c1, .slice a2 n2 c2] 34)).alloc (.cells #[.bool s2, .slice a3 n3 c3, .slice a4 n4 c4] 34) = W at *
  have k00 := hP.b0.cell 0
  have f00 := hP.b0.frozen 0
  have k01 := hP.b0.cell 1
  have f01 := hP.b0.frozen 1
  have k02 := hP.b0.cell 2
  have f02 := hP.b0.frozen 2
  have z0 := hP.b0.lt
  have k10 := hP.b1.cell 0
  have f10 := hP.b1.frozen 0
  have k11 := hP.b1.cell 1
  have f11 := hP.b1.frozen 1
  have k12 := hP.b1.cell 2
  have f12 := hP.b1.frozen 2
  have z1 := hP.b1.lt
  simp at k00 k01 k02 k10 k11 k12
  have hw0 : Below W.heap.size W W.drew := Below.drew (Below.refl _ _)
  have g1 := h1.on hP.below
  have g2 := h2.on hP.below
  have g3 := h3.on hP.below
  have g4 := h4.on hP.below
  by_cases t1 : s1 = s2
  · subst t1
    go_wp2_with fail
    refine (fsame_any _ g1 g3 (by omega) (by omega)).mono ?_
    rintro e w1 ⟨rfl, d, rfl⟩
    by_cases t2 : l1 = l3
    · have HT2 := Lib.hid t2
      rw [decide_eq_true t2]
      clear t2
      go_wp2_with fail
      refine (fsame_any _ (g2.drewN d) (g4.drewN d) (by omega) (by omega)).mono ?_
      rintro e w1 ⟨rfl, d2, rfl⟩
      have HE : Hid (decide (l2 = l4) = decide (s1 = s1 ∧ l1 = l3 ∧ l2 = l4)) := decide_eq_decide.2 ⟨fun h => ⟨rfl, HT2.out, h⟩, fun h => h.2.2⟩
      generalize decide (l2 = l4) = b at *
      go_wp2_with fail
      go_ret
      exact retB_end HE.out (hP.below.drewN _)
    · have HE : Hid (false = decide (s1 = s1 ∧ l1 = l3 ∧ l2 = l4)) := (decide_eq_false (fun h => t2 h.2.1)).symm
      rw [decide_eq_false t2]
      clear t2
      go_wp2_with fail
      go_ret
      exact retB_end HE.out (hP.below.drewN d)
  · have HE : Hid (false = decide (s1 = s2 ∧ l1 = l3 ∧ l2 = l4)) := (decide_eq_false (fun h => t1 h.1)).symm
    have e1 : (s1 == s2) = false := by simpa using t1
    clear t1
    go_wp2_with fail
    go_ret
    exact retB_end HE.out hP.below

theorem rat_len (neg : Bool) (N : Nat) {D : Nat} (hD : 0 < D) : (lmb (mkRat (sgi neg N) D).num.natAbs).length ≤ (lmb N).length ∧ (dlmb (mkRat (sgi neg N) D).den).length ≤ (lmb D).length := by
  rcases Nat.eq_zero_or_pos N with rfl | hN
  · rw [rat_zero]
    have e1 : (0 : Rat).num.natAbs = 0 := rfl
    have e2 : (0 : Rat).den = 1 := rfl
    rw [e1, e2, dlmb_one]
    exact ⟨Nat.le_refl _, Nat.zero_le _⟩
  · rw [rat_num_abs neg hN hD, (rat_parts neg hN hD).2]
    refine ⟨lmb_len_mono (Nat.div_le_self _ _), ?_⟩
    unfold dlmb
    split
    · exact Nat.zero_le _
    · exact lmb_len_mono (Nat.div_le_self _ _)
set_option maxRecDepth 100000 in
set_option maxHeartbeats 3200000 in
theorem fvalid_any (w : World) {neg : Bool} {a1 a2 : Option Addr} {n1 n2 c1 c2 : Nat} {l1 l2 : List Nat} (h1 : LimR w a1 n1 c1 l1) (h2 : LimR w a2 n2 c2 l2) (hn1 : n1 ≤ 1099511627776) (hn2 : n2 ≤ 1099511627776) :
    Calls Tryd.prog 14 #[.agg #[.bool neg, .slice a1 n1 c1, .slice a2 n2 c2]] w (RetB (decide (RatV neg l1 l2)) w) := by
  have hP := Pro1.mk' w #[.bool neg, .slice a1 n1 c1, .slice a2 n2 c2] 34
  go_enter Tryd.func14, Tryd.ntmps14
  go_upto_region 1 with (fail)
  generalize w.alloc (.cells #[.bool neg, .slice a1 n1 c1, .slice a2 n2 c2] 34) = W at *
  have k00 := hP.b0.cell 0
  have f00 := hP.b0.frozen 0
  have k01 := hP.b0.cell 1
  have f01 := hP.b0.frozen 1
  have k02 := hP.b0.cell 2
  have f02 := hP.b0.frozen 2
  have z0 := hP.b0.lt
  simp at k00 k01 k02
  have hw0 : Below W.heap.size W W.drew := Below.drew (Below.refl _ _)
  have g1 := h1.on hP.below
  have g2 := h2.on hP.below
  have hlen : ∀ w' neg4 a4 n4 c4 a5 n5 c5, RatC w' neg4 a4 n4 c4 a5 n5 c5 (sv neg l1 l2) → n4 ≤ 1099511627776 ∧ n5 ≤ 1099511627777 := by
    intro w' neg4 a4 n4 c4 a5 n5 c5 h
    have e1 := rat_len neg (val l1) (dn_pos l2)
    have e2 := val_bound h1
    have e3 := one_len h2
    rw [← h.num.len, ← h.den.len]
    exact ⟨Nat.le_trans e1.1 (by omega), Nat.le_trans e1.2 (by omega)⟩
  have HLEN := Lib.hid hlen
  clear hlen
  go_region_held3 (fun w' => w'.cell? ⟨w.heap.size, 0, none⟩ = some (.bool neg) ∧ w'.cell? ⟨w.heap.size, 1, none⟩ = some (.slice a1 n1 c1) ∧ w'.cell? ⟨w.heap.size, 2, none⟩ = some (.slice a2 n2 c2))
    (go_keep)
    (first
      | (go_at_call 30; refine (fcanon_any _ (g1.on hw0) (g2.on hw0) (by omega) (by omega)).mono ?_; rintro e w3 ⟨neg4, a4, n4, c4, a5, n5, c5, rfl, g4, hb3'⟩; have hb3 : Below W.heap.size W w3 := hw0.trans hb3'; obtain ⟨hc3, hf3⟩ := bcell hb3; have HL4 := Lib.hid (HLEN.out _ _ _ _ _ _ _ _ g4))
      | (go_at_call 29; refine (frsame_any _ (g1.on hb3) (g2.on hb3) g4.num g4.den (by omega) (by omega) (by have := HL4.out; omega) (by have := HL4.out; omega)).mono ?_; rintro e w4 ⟨rfl, hb4'⟩; have hb4 : Below W.heap.size W w4 := hb3.trans (hb4'.mono hb3.size); obtain ⟨hc4, hf4⟩ := bcell hb4))
  go_wp2_with fail
  go_ret
  exact retB_end (by rw [← Bool.decide_and, ← Bool.decide_and]; exact decide_eq_decide.2 (by unfold RatV; rw [g4.sign.out])) (hP.below.trans (hb4.mono (by omega)))
end Go.Proofs.YtjobiobdpnhooaaDoor
namespace Go.Proofs.YtjobiobdpnhooaaDoor
open Go.RowKit

end Go.Proofs.YtjobiobdpnhooaaDoor
namespace Go.Proofs.YtjobiobdpnhooaaDoor
open Go.RowKit

/-- a block of the call's own that holds an integer -/
structure XBox (W wx : World) (B : Nat) (s : Bool) (a : Option Addr) (n c k : Nat) : Prop where
  blk : Blk wx B 60 #[.bool s, .slice a n c]
  lim : LimR wx a n c (lmb k)
  old : W.heap.size ≤ B
  below : Below W.heap.size W wx
theorem XBox.set {W wx : World} {B : Nat} {s : Bool} {a : Option Addr} {n c k : Nat} (hB : Blk wx B 60 #[.bool false, .slice none 0 0]) (hl : LimR wx a n c (lmb k)) (ho : W.heap.size ≤ B) (hb : Below W.heap.size W wx) :
    XBox W ((wx.setCell ⟨B, 0, none⟩ (.bool s)).setCell ⟨B, 1, none⟩ (.slice a n c)) B s a n c k := by
  refine ⟨by simpa using (hB.set_ 0 (.bool s)).set_ 1 (.slice a n c), hl.box64 (B := B) (x := false) (a := none) (m := 0) (k := 0) ?_ ?_ _ _, ho, below_box64 hb ho _ _⟩
  · simpa using hB.cell 0
  · simpa using hB.cell 1
theorem iv_scale (s : Bool) (l : List Nat) (d : Nat) : iv s (lmb (val l * d)) = iv s l * d := by unfold iv; rw [val_lmb]; cases s <;> simp [Int.neg_mul]
theorem XBox.len {W wx : World} {B : Nat} {s : Bool} {a : Option Addr} {n c k : Nat} (h : XBox W wx B s a n c k) : (lmb (iv s (lmb k)).natAbs).length = n := by
  have : (iv s (lmb k)).natAbs = k := by unfold iv; rw [val_lmb]; cases s <;> simp [Int.neg_mul]
  rw [this]; exact h.lim.len
theorem XBox.new {W w6 : World} {s : Bool} {a : Option Addr} {n c k : Nat} (hl : LimR w6 a n c (lmb k)) (hb : Below W.heap.size W w6) :
    XBox W (w6.alloc (.cells #[.bool s, .slice a n c] 60)) w6.heap.size s a n c k :=
  ⟨Blk.new _ _ _, hl.on ((Below.refl _ _).alloc (Nat.le_refl _) _), hb.size, hb.alloc hb.size _⟩

end Go.Proofs.YtjobiobdpnhooaaDoor
namespace Go.Proofs.YtjobiobdpnhooaaDoor
open Go.RowKit

theorem dn_dlmb {d : Nat} (h : 0 < d) : dn (dlmb d) = d := by
  unfold dn dlmb
  split
  · rename_i e; rw [if_pos (show val [] = 0 from rfl), e]
  · rw [val_lmb, if_neg (by omega)]
theorem RatC.sv_ {w : World} {neg : Bool} {a1 a2 : Option Addr} {n1 c1 n2 c2 : Nat} {q : Rat} (h : RatC w neg a1 n1 c1 a2 n2 c2 q) : sv neg (lmb q.num.natAbs) (dlmb q.den) = q := by
  unfold sv
  rw [dn_dlmb q.den_pos, val_lmb, h.sign.out]
  exact rat_back q
theorem ratC_neg_len {w w' : World} {neg s : Bool} {a1 a2 a3 a4 : Option Addr} {n1 c1 n2 c2 n3 n4 c3 c4 : Nat} {l3 l4 : List Nat} (h : RatC w neg a1 n1 c1 a2 n2 c2 (-(sv s l3 l4))) (h3 : LimR w' a3 n3 c3 l3) (h4 : LimR w' a4 n4 c4 l4) : n1 ≤ n3 ∧ n2 ≤ n4 + 1 := by
  have e1 := rat_len s (val l3) (dn_pos l4)
  have e2 := val_bound h3
  have e3 := one_len h4
  have h5 := h.num.len
  have h6 := h.den.len
  rw [Rat.neg_num, Int.natAbs_neg] at h5
  rw [Rat.neg_den] at h6
  unfold sv at h5 h6
  omega

theorem ratC_add_len {w w' : World} {neg s1 s2 : Bool} {a a' a1 a2 a3 a4 : Option Addr} {n c n' c' n1 n2 n3 n4 c1 c2 c3 c4 : Nat} {l1 l2 l3 l4 : List Nat} (h : RatC w neg a n c a' n' c' (sv s1 l1 l2 + sv s2 l3 l4)) (h1 : LimR w' a1 n1 c1 l1) (h2 : LimR w' a2 n2 c2 l2) (h3 : LimR w' a3 n3 c3 l3) (h4 : LimR w' a4 n4 c4 l4) : n ≤ n1 + n2 + n3 + n4 + 3 ∧ n' ≤ n2 + n4 + 2 := by
  unfold sv at h
  rw [← rat_add _ _ (dn_pos _) (dn_pos _)] at h
  have e0 := sgi_of (sgi s1 (val l1) * (dn l4 : Int) + sgi s2 (val l3) * (dn l2 : Int))
  rw [← e0] at h
  have e1 := rat_len (decide (sgi s1 (val l1) * (dn l4 : Int) + sgi s2 (val l3) * (dn l2 : Int) < 0)) (sgi s1 (val l1) * (dn l4 : Int) + sgi s2 (val l3) * (dn l2 : Int)).natAbs (Nat.mul_pos (dn_pos l2) (dn_pos l4))
  rw [h.num.len, h.den.len] at e1
  have e2 := lmb_len_mono (Int.natAbs_add_le (sgi s1 (val l1) * (dn l4 : Int)) (sgi s2 (val l3) * (dn l2 : Int)))
  rw [Int.natAbs_mul, Int.natAbs_mul, sgi_natAbs, sgi_natAbs, Int.natAbs_natCast, Int.natAbs_natCast] at e2
  have e3 := lmb_len_add (val l1 * dn l4) (val l3 * dn l2)
  have e4 := lmb_len_mul (val l1) (dn l4)
  have e5 := lmb_len_mul (val l3) (dn l2)
  have e6 := lmb_len_mul (dn l2) (dn l4)
  have b1 := val_bound h1
  have b2 := one_len h2
  have b3 := val_bound h3
  have b4 := one_len h4
  omega
theorem ratC_sub_len {w w' : World} {neg s1 s2 : Bool} {a a' a1 a2 a3 a4 : Option Addr} {n c n' c' n1 n2 n3 n4 c1 c2 c3 c4 : Nat} {l1 l2 l3 l4 : List Nat} (h : RatC w neg a n c a' n' c' (sv s1 l1 l2 - sv s2 l3 l4)) (h1 : LimR w' a1 n1 c1 l1) (h2 : LimR w' a2 n2 c2 l2) (h3 : LimR w' a3 n3 c3 l3) (h4 : LimR w' a4 n4 c4 l4) : n ≤ n1 + n2 + n3 + n4 + 3 ∧ n' ≤ n2 + n4 + 2 := by
  have e : -(sv s2 l3 l4) = sv (!s2) l3 l4 := by unfold sv; rw [rat_neg]
  rw [Rat.sub_eq_add_neg, e] at h
  exact ratC_add_len h h1 h2 h3 h4

end Go.Proofs.YtjobiobdpnhooaaDoor
