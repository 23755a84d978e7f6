import Derived.Test.YtjpoanaoaeaneaaGreatDoorGB5
import Derived.Test.YtjpoanaoaeaneaaGreatDoorGB6
import Derived.Test.YtjpoanaoaeaneaaGreatDoorGB9
import Derived.Test.YtjpoanaoaeaneaaGreatDoorGB12
import Derived.Test.YtjpoanaoaeaneaaGreatDoorGB7
set_option linter.all false
set_option maxRecDepth 100000
set_option maxHeartbeats 6400000
namespace Go.Proofs.YtjpoanaoaeaneaaGreatDoor
open Go.RowKit
noncomputable def lps_C7 : Code := (loopsOf (bodyOf Tryz.f19)).getD 0 .skip
def lps_h7 (a0 : ByteArray) (d_7 : Bool) (i_7 : Int) (l_7 : List (Int × Rat)) (s_7 : Rat) : St :=
  ⟨[(0, .lit (.string a0)), (2, .ptr 0 0), (5, .ptr 1 0), (6, .ptr 2 0), (7, .lit (.bool d_7))],
   [(0, some (.box 28 [.nl 4, .lit (.bool false), .nl 1, .nl 1] false)),
    (1, some (.box 98 [.lit (.string a0), .lit (.int .i64 i_7)] false)),
    (2, some (.box 28 [.sl 4 (l_7.map termC), .lit (.bool (rawQ s_7).s), natA (rawQ s_7).l1, natA (rawQ s_7).l2] false))], 3⟩
def lps_o7a (z15 : Int) : St :=
  ⟨[(2, .ptr 0 0), (3, .lit (.int .i64 z15)), (4, .lit (.int .i64 4))],
   [(0, some (.box 28 [.nl 4, .lit (.bool false), .nl 1, .nl 1] false))], 1⟩
def lps_o7b (r11 : Form) : St :=
  ⟨[(2, .ptr 0 0), (3, .lit (.int .i64 0)), (4, .lit (.int .i64 0))],
   [(0, some (.box 28 [.sl 4 (r11.1.map termC), .lit (.bool (rawQ r11.2).s), natA (rawQ r11.2).l1, natA (rawQ r11.2).l2] false))], 1⟩
def lps_o7c (z17 : Int) : St :=
  ⟨[(2, .ptr 0 0), (3, .lit (.int .i64 z17)), (4, .lit (.int .i64 4))],
   [(0, some (.box 28 [.nl 4, .lit (.bool false), .nl 1, .nl 1] false))], 1⟩
section
variable {r12 : Bool} {a0 : ByteArray} {z15 : Int} {z18 : Int} {z16 : Int} {i_7 : Int} {s_7 : Rat} {n : Nat} {r11 : Form} {r14 : Bool} {d_7 : Bool} {r13 : Bool} {l_7 : List (Int × Rat)} {z14 : Int} {z17 : Int} {z2 : Int} {r : Bool} {r2 : Bool} {z3 : Int} {z : Int}
theorem lps_r7_1 (K1 : runL (n + 10) 69 [.ptr 0 0] [.box 98 [.lit (.string a0), .lit (.int .i64 i_7)] false] = some (.tup [], [(0, .box 98 [.lit (.string a0), .lit (.int .i64 z14)] false)])) (K2 : runL (n + 10) 71 [.ptr 0 0, formV (l_7, s_7), .lit (.bool d_7)] [.box 98 [.lit (.string a0), .lit (.int .i64 z14)] false] = some (.tup [formV r11, .lit (.bool r12)], [(0, .box 98 [.lit (.string a0), .lit (.int .i64 z15)] false)])) (C3 : r12 = true) (K4 : runL (n + 10) 69 [.ptr 0 0] [.box 98 [.lit (.string a0), .lit (.int .i64 z15)] false] = some (.tup [], [(0, .box 98 [.lit (.string a0), .lit (.int .i64 z16)] false)])) (C5 : ¬ z16 = (a0.size : Int)) (K6 : runL (n + 10) 70 [.ptr 0 0, .lit (.string (⟨#[43, 45]⟩ : ByteArray))] [.box 98 [.lit (.string a0), .lit (.int .i64 z16)] false] = some (.lit (.bool r13), [(0, .box 98 [.lit (.string a0), .lit (.int .i64 z17)] false)])) (C7 : r13 = true) (K8 : runL (n + 10) 70 [.ptr 0 0, .lit (.string (⟨#[45]⟩ : ByteArray))] [.box 98 [.lit (.string a0), .lit (.int .i64 z17)] false] = some (.lit (.bool r14), [(0, .box 98 [.lit (.string a0), .lit (.int .i64 z18)] false)])) (W9 : InI (z18 + 1)) :
    Cont 0 (exec Tryz.prog (tab (n + 11)) 0 68 (livesOf 19) big lps_C7) (livesOf 19 7) (lps_h7 a0 d_7 i_7 l_7 s_7) (lps_h7 a0 r14 (z18 + 1) r11.1 r11.2) := by
  simp only [formV] at K2
  have C5_ : (z16 == (a0.size : Int)) = false := by simpa using C5
  have C5_n : (z16 != (a0.size : Int)) = true := by simpa using C5
  have W9_ : IntKind.i64.wrap (z18 + 1) = z18 + 1 := wr64 W9.1 W9.2
  rw [C3] at K2
  rw [C7] at K6
  unfold Cont
  simp +decide [lps_h7, loopsOf, Tryz.f19, lps_C7, K1, K2, C3, K4, C5_, C5_n, K6, C7, K8, W9_]
  all_goals simp +decide [natA]
theorem lps_x7_1 (K1 : runL (n + 10) 69 [.ptr 0 0] [.box 98 [.lit (.string a0), .lit (.int .i64 i_7)] false] = some (.tup [], [(0, .box 98 [.lit (.string a0), .lit (.int .i64 z14)] false)])) (K2 : runL (n + 10) 71 [.ptr 0 0, formV (l_7, s_7), .lit (.bool d_7)] [.box 98 [.lit (.string a0), .lit (.int .i64 z14)] false] = some (.tup [formV r11, .lit (.bool r12)], [(0, .box 98 [.lit (.string a0), .lit (.int .i64 z15)] false)])) (C3 : r12 = false) :
    Leave 0 (exec Tryz.prog (tab (n + 11)) 0 68 (livesOf 19) big lps_C7) (livesOf 19 (outOf 7)) (lps_h7 a0 d_7 i_7 l_7 s_7) (.ret) (lps_o7a z15) := by
  simp only [formV] at K2
  rw [C3] at K2
  unfold Leave
  simp +decide [lps_h7, loopsOf, Tryz.f19, lps_o7a, lps_C7, K1, K2, C3]
theorem lps_x7_2 (K1 : runL (n + 10) 69 [.ptr 0 0] [.box 98 [.lit (.string a0), .lit (.int .i64 i_7)] false] = some (.tup [], [(0, .box 98 [.lit (.string a0), .lit (.int .i64 z14)] false)])) (K2 : runL (n + 10) 71 [.ptr 0 0, formV (l_7, s_7), .lit (.bool d_7)] [.box 98 [.lit (.string a0), .lit (.int .i64 z14)] false] = some (.tup [formV r11, .lit (.bool r12)], [(0, .box 98 [.lit (.string a0), .lit (.int .i64 z15)] false)])) (C3 : r12 = true) (K4 : runL (n + 10) 69 [.ptr 0 0] [.box 98 [.lit (.string a0), .lit (.int .i64 z15)] false] = some (.tup [], [(0, .box 98 [.lit (.string a0), .lit (.int .i64 z16)] false)])) (C5 : z16 = (a0.size : Int)) :
    Leave 0 (exec Tryz.prog (tab (n + 11)) 0 68 (livesOf 19) big lps_C7) (livesOf 19 (outOf 7)) (lps_h7 a0 d_7 i_7 l_7 s_7) (.ret) (lps_o7b r11) := by
  simp only [formV] at K2
  have C5_ : (z16 == (a0.size : Int)) = true := by rw [C5]; simp
  have C5_n : (z16 != (a0.size : Int)) = false := by rw [C5]; simp
  rw [C3] at K2
  unfold Leave
  simp +decide [lps_h7, loopsOf, Tryz.f19, lps_o7b, lps_C7, K1, K2, C3, K4, C5_, C5_n]
theorem lps_x7_3 (K1 : runL (n + 10) 69 [.ptr 0 0] [.box 98 [.lit (.string a0), .lit (.int .i64 i_7)] false] = some (.tup [], [(0, .box 98 [.lit (.string a0), .lit (.int .i64 z14)] false)])) (K2 : runL (n + 10) 71 [.ptr 0 0, formV (l_7, s_7), .lit (.bool d_7)] [.box 98 [.lit (.string a0), .lit (.int .i64 z14)] false] = some (.tup [formV r11, .lit (.bool r12)], [(0, .box 98 [.lit (.string a0), .lit (.int .i64 z15)] false)])) (C3 : r12 = true) (K4 : runL (n + 10) 69 [.ptr 0 0] [.box 98 [.lit (.string a0), .lit (.int .i64 z15)] false] = some (.tup [], [(0, .box 98 [.lit (.string a0), .lit (.int .i64 z16)] false)])) (C5 : ¬ z16 = (a0.size : Int)) (K6 : runL (n + 10) 70 [.ptr 0 0, .lit (.string (⟨#[43, 45]⟩ : ByteArray))] [.box 98 [.lit (.string a0), .lit (.int .i64 z16)] false] = some (.lit (.bool r13), [(0, .box 98 [.lit (.string a0), .lit (.int .i64 z17)] false)])) (C7 : r13 = false) :
    Leave 0 (exec Tryz.prog (tab (n + 11)) 0 68 (livesOf 19) big lps_C7) (livesOf 19 (outOf 7)) (lps_h7 a0 d_7 i_7 l_7 s_7) (.ret) (lps_o7c z17) := by
  simp only [formV] at K2
  have C5_ : (z16 == (a0.size : Int)) = false := by simpa using C5
  have C5_n : (z16 != (a0.size : Int)) = true := by simpa using C5
  rw [C3] at K2
  rw [C7] at K6
  unfold Leave
  simp +decide [lps_h7, loopsOf, Tryz.f19, lps_o7c, lps_C7, K1, K2, C3, K4, C5_, C5_n, K6, C7]
theorem lps_f1 (K1 : runL (n + 10) 69 [.ptr 0 0] [.box 98 [.lit (.string a0), .lit (.int .i64 0)] false] = some (.tup [], [(0, .box 98 [.lit (.string a0), .lit (.int .i64 z)] false)])) (K2 : runL (n + 10) 70 [.ptr 0 0, .lit (.string (⟨#[45]⟩ : ByteArray))] [.box 98 [.lit (.string a0), .lit (.int .i64 z)] false] = some (.lit (.bool r), [(0, .box 98 [.lit (.string a0), .lit (.int .i64 z2)] false)])) (K3 : runL (n + 10) 70 [.ptr 0 0, .lit (.string (⟨#[43, 45]⟩ : ByteArray))] [.box 98 [.lit (.string a0), .lit (.int .i64 z2)] false] = some (.lit (.bool r2), [(0, .box 98 [.lit (.string a0), .lit (.int .i64 z3)] false)])) (C4 : r2 = true) (W5 : InI (z3 + 1)) (L6 : loopG Tryz.prog (tab (n + 11)) 0 68 (livesOf 19) 7 lps_C7 (lps_h7 a0 r (z3 + 1) [] 0) = some (.ret, lps_o7a z15)) :
    run (n + 11) 19 [.lit (.string a0)] = some (.tup [.agg [.sl 4 [], .lit (.bool false), .sl 1 [], .sl 1 []], .lit (.int .i64 z15), .lit (.int .i64 4)]) := by
  have W5_ : IntKind.i64.wrap (z3 + 1) = z3 + 1 := wr64 W5.1 W5.2
  rw [C4] at K3
  unfold run fnP
  simp +decide [Tryz.f19, K1, K2, K3, C4, W5_]
  rw [loopX_G (C' := lps_C7) (e := (lps_h7 a0 r (z3 + 1) [] 0)) ?_ ?_, L6]
  rotate_left
  · kernel_rfl
  · simp +decide [lps_h7, K1, K2, K3, C4, W5_]
  simp +decide [lps_o7a, K1, K2, K3, C4, W5_]
theorem lps_f2 (K1 : runL (n + 10) 69 [.ptr 0 0] [.box 98 [.lit (.string a0), .lit (.int .i64 0)] false] = some (.tup [], [(0, .box 98 [.lit (.string a0), .lit (.int .i64 z)] false)])) (K2 : runL (n + 10) 70 [.ptr 0 0, .lit (.string (⟨#[45]⟩ : ByteArray))] [.box 98 [.lit (.string a0), .lit (.int .i64 z)] false] = some (.lit (.bool r), [(0, .box 98 [.lit (.string a0), .lit (.int .i64 z2)] false)])) (K3 : runL (n + 10) 70 [.ptr 0 0, .lit (.string (⟨#[43, 45]⟩ : ByteArray))] [.box 98 [.lit (.string a0), .lit (.int .i64 z2)] false] = some (.lit (.bool r2), [(0, .box 98 [.lit (.string a0), .lit (.int .i64 z3)] false)])) (C4 : r2 = true) (W5 : InI (z3 + 1)) (L6 : loopG Tryz.prog (tab (n + 11)) 0 68 (livesOf 19) 7 lps_C7 (lps_h7 a0 r (z3 + 1) [] 0) = some (.ret, lps_o7b r11)) :
    run (n + 11) 19 [.lit (.string a0)] = some (.tup [formV r11, .lit (.int .i64 0), .lit (.int .i64 0)]) := by
  have W5_ : IntKind.i64.wrap (z3 + 1) = z3 + 1 := wr64 W5.1 W5.2
  rw [C4] at K3
  unfold run fnP
  simp +decide [Tryz.f19, K1, K2, K3, C4, W5_]
  rw [loopX_G (C' := lps_C7) (e := (lps_h7 a0 r (z3 + 1) [] 0)) ?_ ?_, L6]
  rotate_left
  · kernel_rfl
  · simp +decide [lps_h7, K1, K2, K3, C4, W5_]
  simp +decide [lps_o7b, K1, K2, K3, C4, W5_]
theorem lps_f4 (K1 : runL (n + 10) 69 [.ptr 0 0] [.box 98 [.lit (.string a0), .lit (.int .i64 0)] false] = some (.tup [], [(0, .box 98 [.lit (.string a0), .lit (.int .i64 z)] false)])) (K2 : runL (n + 10) 70 [.ptr 0 0, .lit (.string (⟨#[45]⟩ : ByteArray))] [.box 98 [.lit (.string a0), .lit (.int .i64 z)] false] = some (.lit (.bool r), [(0, .box 98 [.lit (.string a0), .lit (.int .i64 z2)] false)])) (K3 : runL (n + 10) 70 [.ptr 0 0, .lit (.string (⟨#[43, 45]⟩ : ByteArray))] [.box 98 [.lit (.string a0), .lit (.int .i64 z2)] false] = some (.lit (.bool r2), [(0, .box 98 [.lit (.string a0), .lit (.int .i64 z3)] false)])) (C4 : r2 = false) (L5 : loopG Tryz.prog (tab (n + 11)) 0 68 (livesOf 19) 7 lps_C7 (lps_h7 a0 r z3 [] 0) = some (.ret, lps_o7a z15)) :
    run (n + 11) 19 [.lit (.string a0)] = some (.tup [.agg [.sl 4 [], .lit (.bool false), .sl 1 [], .sl 1 []], .lit (.int .i64 z15), .lit (.int .i64 4)]) := by
  rw [C4] at K3
  unfold run fnP
  simp +decide [Tryz.f19, K1, K2, K3, C4]
  rw [loopX_G (C' := lps_C7) (e := (lps_h7 a0 r z3 [] 0)) ?_ ?_, L5]
  rotate_left
  · kernel_rfl
  · simp +decide [lps_h7, K1, K2, K3, C4]
  simp +decide [lps_o7a, K1, K2, K3, C4]
theorem lps_f5 (K1 : runL (n + 10) 69 [.ptr 0 0] [.box 98 [.lit (.string a0), .lit (.int .i64 0)] false] = some (.tup [], [(0, .box 98 [.lit (.string a0), .lit (.int .i64 z)] false)])) (K2 : runL (n + 10) 70 [.ptr 0 0, .lit (.string (⟨#[45]⟩ : ByteArray))] [.box 98 [.lit (.string a0), .lit (.int .i64 z)] false] = some (.lit (.bool r), [(0, .box 98 [.lit (.string a0), .lit (.int .i64 z2)] false)])) (K3 : runL (n + 10) 70 [.ptr 0 0, .lit (.string (⟨#[43, 45]⟩ : ByteArray))] [.box 98 [.lit (.string a0), .lit (.int .i64 z2)] false] = some (.lit (.bool r2), [(0, .box 98 [.lit (.string a0), .lit (.int .i64 z3)] false)])) (C4 : r2 = false) (L5 : loopG Tryz.prog (tab (n + 11)) 0 68 (livesOf 19) 7 lps_C7 (lps_h7 a0 r z3 [] 0) = some (.ret, lps_o7b r11)) :
    run (n + 11) 19 [.lit (.string a0)] = some (.tup [formV r11, .lit (.int .i64 0), .lit (.int .i64 0)]) := by
  rw [C4] at K3
  unfold run fnP
  simp +decide [Tryz.f19, K1, K2, K3, C4]
  rw [loopX_G (C' := lps_C7) (e := (lps_h7 a0 r z3 [] 0)) ?_ ?_, L5]
  rotate_left
  · kernel_rfl
  · simp +decide [lps_h7, K1, K2, K3, C4]
  simp +decide [lps_o7b, K1, K2, K3, C4]
end
end Go.Proofs.YtjpoanaoaeaneaaGreatDoor
set_option linter.all false
set_option maxRecDepth 100000
set_option maxHeartbeats 6400000
namespace Go.Proofs.YtjpoanaoaeaneaaGreatDoor
open Go.RowKit
attribute [local irreducible] run runL loopG exec
section
variable {n k : Nat} {L l : List UInt8} {f : Form} {neg : Bool}
theorem isIn_2 {a b c : UInt8} {r : List UInt8} : isIn [a, b] (c :: r) = decide (c = a ∨ c = b) := by
  rw [isIn, Bool.eq_iff_iff]
  simp
def ResQ (L : List UInt8) : Except (List UInt8) Form → St → Prop
  | .error r, t => t = lps_o7a (po L r)
  | .ok g, t => t = lps_o7b g
theorem lps_rnd (hL : L.length ≤ 1000) (h : l <:+ L) (hf : RdF k f) (hk : k ≤ 1000) :
    (∃ l' neg' g, Cont 0 (exec Tryz.prog (tab (n + 11)) 0 68 (livesOf 19) big lps_C7) (livesOf 19 7) (lps_h7 (bs L) neg (po L l) f.1 f.2) (lps_h7 (bs L) neg' (po L l') g.1 g.2) ∧ l' <:+ l ∧ l'.length < l.length ∧ RdF (k + 1) g ∧ ∀ m, psL (m + 1) f neg l = psL m g neg' l')
    ∨ ∃ t, Leave 0 (exec Tryz.prog (tab (n + 11)) 0 68 (livesOf 19) big lps_C7) (livesOf 19 (outOf 7)) (lps_h7 (bs L) neg (po L l) f.1 f.2) (.ret) t ∧ ∀ m, ResQ L (psL (m + 1) f neg l) t := by
  have hs := bs_size L
  have K1 := blank_c (n := n + 10) hL h
  have h1 := (skL_suf l).trans h
  have P := part_c (n := n) (neg := neg) hL h1 hf hk
  cases e : paL f neg (skL l) with
  | error r =>
    rw [e] at P
    refine .inr ⟨_, lps_x7_1 (n := n) K1 P.2 rfl, fun m => ?_⟩
    rw [psL, e]
    exact rfl
  | ok p =>
    obtain ⟨g, r⟩ := p
    rw [e] at P
    obtain ⟨s, hg, K2⟩ := P
    dsimp only at s hg K2
    have h2 := s.trans h1
    have h3 := (skL_suf r).trans h2
    have K4 := blank_c (n := n + 10) hL h2
    cases e2 : skL r with
    | nil =>
      rw [e2] at K4
      refine .inr ⟨_, lps_x7_2 (n := n) (r11 := g) K1 K2 rfl K4 (by rw [po_nil, hs]), fun m => ?_⟩
      rw [psL, e]
      dsimp only
      rw [e2]
      exact rfl
    | cons c r2 =>
      rw [e2] at K4 h3
      obtain ⟨p1, p2⟩ := po_lt h3
      have p3 := po_rg L (c :: r2)
      have K6 := is_c (n := n + 7) hL h3 [43, 45]
      rw [isIn_2] at K6
      have K8 := is_c (n := n + 7) hL h3 [45]
      rw [isIn_1] at K8
      by_cases hc : c = 43 ∨ c = 45
      · have R := lps_r7_1 (n := n) (r11 := g) K1 K2 rfl K4 (by rw [hs]; omega) K6 (decide_eq_true hc) K8 (po_in hL h3)
        rw [p2] at R
        have hl : r2 <:+ l := (suf_tl (e2 ▸ skL_suf r)).trans (s.trans (skL_suf l))
        have hlt : r2.length < l.length := by
          have a := (skL_suf r).length_le
          have b := s.length_le
          have c := (skL_suf l).length_le
          rw [e2, List.length_cons] at a
          omega
        refine .inl ⟨r2, decide (c = 45), g, R, hl, hlt, hg, fun m => ?_⟩
        rw [psL, e]
        dsimp only
        rw [e2]
        dsimp only
        rw [if_pos hc]
      · refine .inr ⟨_, lps_x7_3 (n := n) (r11 := g) K1 K2 rfl K4 (by rw [hs]; omega) K6 (decide_eq_false hc), fun m => ?_⟩
        rw [psL, e]
        dsimp only
        rw [e2]
        dsimp only
        rw [if_neg hc]
        exact rfl
theorem parts_l (hL : L.length ≤ 999) (h : l <:+ L) {K : Nat} (hK : l.length < K) :
    ∃ t, loopG Tryz.prog (tab (n + 11)) 0 68 (livesOf 19) 7 lps_C7 (lps_h7 (bs L) neg (po L l) [] 0) = some (.ret, t) ∧ ResQ L (psL K ([], 0) neg l) t := by
  have hl := h.length_le
  obtain ⟨ex, t, h1, h2⟩ := loopG_Q (β := List UInt8 × Bool × Form) (P := Tryz.prog) (O := tab (n + 11)) (m := 0) (N := 68) (lives := livesOf 19) (r := 7) (C := lps_C7) (M := l.length) (enc := fun _ b => lps_h7 (bs L) b.2.1 (po L b.1) b.2.2.1 b.2.2.2)
    (fun k b => b.1 <:+ L ∧ RdF k b.2.2 ∧ k + b.1.length ≤ l.length ∧ psL (K - k) b.2.2 b.2.1 b.1 = psL K ([], 0) neg l) (fun ex t => ex = .ret ∧ ResQ L (psL K ([], 0) neg l) t) (l, neg, ([], 0)) ⟨h, RdF.zero, by show 0 + l.length ≤ l.length; omega, rfl⟩ (by omega)
    (fun k b hk hI => by
      obtain ⟨i1, i2, i3, i4⟩ := hI
      obtain ⟨b, s, g⟩ := b
      dsimp only at i1 i2 i3 i4 ⊢
      have hK2 : K - k = (K - (k + 1)) + 1 := by omega
      rcases lps_rnd (n := n) (neg := s) (by omega) i1 i2 (by omega) with ⟨l', s', g', R, j1, j2, j3, j4⟩ | ⟨t, R, j⟩
      · refine .inl ⟨(l', s', g'), R, j1.trans i1, j3, by dsimp only; omega, ?_⟩
        dsimp only
        rw [← j4, ← hK2, i4]
      · refine .inr ⟨_, _, by simp, R, rfl, ?_⟩
        have := j (K - (k + 1))
        rw [← hK2, i4] at this
        exact this)
    (fun b hI => by
      obtain ⟨i1, i2, i3, i4⟩ := hI
      obtain ⟨b, s, g⟩ := b
      dsimp only at i1 i2 i3 i4 ⊢
      have hK2 : K - l.length = (K - (l.length + 1)) + 1 := by omega
      rcases lps_rnd (n := n) (neg := s) (by omega) i1 i2 (by omega) with ⟨l', s', g', R, j1, j2, j3, j4⟩ | ⟨t, R, j⟩
      · omega
      · refine ⟨_, _, by simp, R, rfl, ?_⟩
        have := j (K - (l.length + 1))
        rw [← hK2, i4] at this
        exact this)
  obtain ⟨rfl, h3⟩ := h2
  exact ⟨t, h1, h3⟩
def parR (L : List UInt8) : Except (List UInt8) Form → AV
  | .ok g => .tup [formV g, .lit (.int .i64 0), .lit (.int .i64 0)]
  | .error r => .tup [.agg [.sl 4 [], .lit (.bool false), .sl 1 [], .sl 1 []], .lit (.int .i64 (po L r)), .lit (.int .i64 4)]
theorem parse_c (hL : L.length ≤ 999) : run (n + 11) 19 [.lit (.string (bs L))] = some (parR L (psT L)) := by
  have h0 : L <:+ L := List.suffix_refl L
  have K1 := blank_c (n := n + 10) (by omega) h0
  have h1 := skL_suf L
  rw [pB, po_self] at K1
  have K2 := is_c (n := n + 7) (by omega) h1 [45]
  have K3 := is_c (n := n + 7) (by omega) h1 [43, 45]
  have hl := h1.length_le
  unfold psT
  cases e : skL L with
  | nil =>
    rw [e] at K1 K2 K3 h1 hl
    obtain ⟨t, G, R⟩ := parts_l (n := n) (neg := false) hL h1 (K := L.length + 1) (by simp)
    dsimp only
    cases e2 : psL (L.length + 1) ([], 0) false [] with
    | error r => rw [e2] at R; rw [show t = lps_o7a (po L r) from R] at G; exact lps_f4 (n := n) K1 K2 K3 rfl G
    | ok g => rw [e2] at R; rw [show t = lps_o7b g from R] at G; exact lps_f5 (n := n) K1 K2 K3 rfl G
  | cons c r =>
    rw [e] at K1 K2 K3 h1 hl
    obtain ⟨p1, p2⟩ := po_lt h1
    rw [isIn_1] at K2
    rw [isIn_2] at K3
    dsimp only
    rw [List.length_cons] at hl
    by_cases hc : c = 43 ∨ c = 45
    · rw [if_pos hc]
      obtain ⟨t, G, R⟩ := parts_l (n := n) (neg := decide (c = 45)) hL (suf_tl h1) (K := L.length + 1) (by omega)
      rw [← p2] at G
      cases e2 : psL (L.length + 1) ([], 0) (decide (c = 45)) r with
      | error r2 => rw [e2] at R; rw [show t = lps_o7a (po L r2) from R] at G; exact lps_f1 (n := n) K1 K2 K3 (decide_eq_true hc) (po_in (by omega) h1) G
      | ok g => rw [e2] at R; rw [show t = lps_o7b g from R] at G; exact lps_f2 (n := n) K1 K2 K3 (decide_eq_true hc) (po_in (by omega) h1) G
    · rw [if_neg hc]
      rw [decide_eq_false (fun h => hc (.inr h))] at K2
      obtain ⟨t, G, R⟩ := parts_l (n := n) (neg := false) hL h1 (K := L.length + 1) (by rw [List.length_cons]; omega)
      cases e2 : psL (L.length + 1) ([], 0) false (c :: r) with
      | error r2 => rw [e2] at R; rw [show t = lps_o7a (po L r2) from R] at G; exact lps_f4 (n := n) K1 K2 K3 (decide_eq_false hc) G
      | ok g => rw [e2] at R; rw [show t = lps_o7b g from R] at G; exact lps_f5 (n := n) K1 K2 K3 (decide_eq_false hc) G
end
end Go.Proofs.YtjpoanaoaeaneaaGreatDoor
set_option linter.all false
set_option maxRecDepth 100000
namespace Go.Proofs.YtjpoanaoaeaneaaGreatDoor
open Go.RowKit
theorem awake_c {n : Nat} : run 12 15 [] = some (.lit (.bool true)) := by kernel_rfl
end Go.Proofs.YtjpoanaoaeaneaaGreatDoor
set_option linter.all false
namespace Go.Proofs.YtjpoanaoaeaneaaGreatDoor
open Go.RowKit
def awG (args : List AV) : Option AV := match args with | [] => some (.lit (.bool true)) | _ => none
theorem con_awake : ∀ args r, awG args = some r → Con Tryz.prog 15 args r := fun args r hr => by
  unfold awG at hr
  split at hr
  · cases hr
    exact ((tab_ok 13).pure _ _ (tb_15 12)).2 _ _ (awake_c (n := 0))
  · cases hr
end Go.Proofs.YtjpoanaoaeaneaaGreatDoor
set_option linter.all false
set_option maxRecDepth 100000
set_option maxHeartbeats 6400000
namespace Go.Proofs.YtjpoanaoaeaneaaGreatDoor
open Go.RowKit
noncomputable def ltRT (n : Nat) : FuncId → Option Orc := ext (tab (n + 13)) 15 (.pure awG)
theorem ltRT_ok (n : Nat) : OrcOk Tryz.prog (ltRT n) := (tab_ok (n + 13)).extP (by kernel_rfl) con_awake
noncomputable def ltR (n : Nat) (args : List AV) : Option AV := fnP Tryz.prog (ltRT n) (livesOf 3) big (fnOf 3) args
theorem ltR_con {n : Nat} {args : List AV} {r : AV} (h : ltR n args = some r) : Con Tryz.prog 3 args r :=
  con_of (ltRT_ok n) mixed (plain_fn (by kernel_rfl)) (body_some (by kernel_rfl) (plain_fn (by kernel_rfl))) h
theorem ltR_aw (n : Nat) : ltRT n 15 = some (.pure awG) := by unfold ltRT ext; rw [if_pos rfl]
theorem ltR_l16 (n : Nat) : ltRT n 16 = some (.pure (run (n + 12) 16)) := by unfold ltRT ext; rw [if_neg (by decide)]; exact tb_16 _
theorem ltR_l17 (n : Nat) : ltRT n 17 = some (.pure (run (n + 12) 17)) := by unfold ltRT ext; rw [if_neg (by decide)]; exact tb_17 _
theorem ltR_l18 (n : Nat) : ltRT n 18 = some (.pure (run (n + 12) 18)) := by unfold ltRT ext; rw [if_neg (by decide)]; exact tb_18 _
theorem ltR_l19 (n : Nat) : ltRT n 19 = some (.pure (run (n + 12) 19)) := by unfold ltRT ext; rw [if_neg (by decide)]; exact tb_19 _
theorem ltR_l20 (n : Nat) : ltRT n 20 = some (.pure (run (n + 12) 20)) := by unfold ltRT ext; rw [if_neg (by decide)]; exact tb_20 _
theorem ltR_l21 (n : Nat) : ltRT n 21 = some (.pure (run (n + 12) 21)) := by unfold ltRT ext; rw [if_neg (by decide)]; exact tb_21 _
theorem ltR_f1 {n : Nat} {a0 : FormR} {r : Bool} (K1 : run (n + 12) 16 [.agg [.sl 4 (a0.1.map termRC), .lit (.bool a0.2.s), natA a0.2.l1, natA a0.2.l2]] = some (.lit (.bool r))) (C2 : r = false) :
    ltR n [.agg [.sl 4 (a0.1.map termRC), .lit (.bool a0.2.s), natA a0.2.l1, natA a0.2.l2]] = some (.lit (.bool true)) := by
  unfold ltR fnP
  simp +decide [Tryz.f3, K1, C2, ltR_aw, awG, ltR_l16, ltR_l17, ltR_l18, ltR_l19, ltR_l20, ltR_l21]
noncomputable def ltCT (n : Nat) : FuncId → Option Orc := ext (tab (n + 13)) 15 (.pure awG)
theorem ltCT_ok (n : Nat) : OrcOk Tryz.prog (ltCT n) := (tab_ok (n + 13)).extP (by kernel_rfl) con_awake
noncomputable def ltC (n : Nat) (args : List AV) : Option AV := fnP Tryz.prog (ltCT n) (livesOf 3) big (fnOf 3) args
theorem ltC_con {n : Nat} {args : List AV} {r : AV} (h : ltC n args = some r) : Con Tryz.prog 3 args r :=
  con_of (ltCT_ok n) mixed (plain_fn (by kernel_rfl)) (body_some (by kernel_rfl) (plain_fn (by kernel_rfl))) h
theorem ltC_aw (n : Nat) : ltCT n 15 = some (.pure awG) := by unfold ltCT ext; rw [if_pos rfl]
theorem ltC_l16 (n : Nat) : ltCT n 16 = some (.pure (run (n + 12) 16)) := by unfold ltCT ext; rw [if_neg (by decide)]; exact tb_16 _
theorem ltC_l17 (n : Nat) : ltCT n 17 = some (.pure (run (n + 12) 17)) := by unfold ltCT ext; rw [if_neg (by decide)]; exact tb_17 _
theorem ltC_l18 (n : Nat) : ltCT n 18 = some (.pure (run (n + 12) 18)) := by unfold ltCT ext; rw [if_neg (by decide)]; exact tb_18 _
theorem ltC_l19 (n : Nat) : ltCT n 19 = some (.pure (run (n + 12) 19)) := by unfold ltCT ext; rw [if_neg (by decide)]; exact tb_19 _
theorem ltC_l20 (n : Nat) : ltCT n 20 = some (.pure (run (n + 12) 20)) := by unfold ltCT ext; rw [if_neg (by decide)]; exact tb_20 _
theorem ltC_l21 (n : Nat) : ltCT n 21 = some (.pure (run (n + 12) 21)) := by unfold ltCT ext; rw [if_neg (by decide)]; exact tb_21 _
section
variable {r2 : Bool} {n : Nat} {r : Bool} {a0 : Form} {r8 : Bool} {r4 : Form} {r6 : Int} {r5 : Int} {r7 : ByteArray} {r3 : ByteArray}
theorem ltC_f2 (K1 : run (n + 12) 16 [formV a0] = some (.lit (.bool r))) (C2 : r = true) (K3 : run (n + 12) 17 [formV a0, .lit (.int .i64 1000000000)] = some (.lit (.bool r2))) (C4 : r2 = false) :
    ltC n [formV a0] = some (.lit (.bool true)) := by
  simp only [formV] at K1
  simp only [formV] at K3
  unfold ltC fnP
  simp +decide [Tryz.f3, K1, C2, K3, C4, ltC_aw, awG, ltC_l16, ltC_l17, ltC_l18, ltC_l19, ltC_l20, ltC_l21]
theorem ltC_f3 (K1 : run (n + 12) 16 [formV a0] = some (.lit (.bool r))) (C2 : r = true) (K3 : run (n + 12) 17 [formV a0, .lit (.int .i64 1000000000)] = some (.lit (.bool r2))) (C4 : r2 = true) (K5 : run (n + 12) 18 [formV a0] = some (.lit (.string r3))) (K6 : run (n + 12) 19 [.lit (.string r3)] = some (.tup [formV r4, .lit (.int .i64 r5), .lit (.int .i64 r6)])) (K7 : run (n + 12) 20 [formV a0] = some (.lit (.string r7))) (C8 : r3 = r7) (C9 : r6 = 0) (C10 : r5 = 0) (K11 : run (n + 12) 21 [formV a0, formV r4] = some (.lit (.bool r8))) :
    ltC n [formV a0] = some (.lit (.bool r8)) := by
  simp only [formV] at K1
  simp only [formV] at K3
  simp only [formV] at K5
  simp only [formV] at K6
  simp only [formV] at K7
  have C8_ : (r3.toList == r7.toList) = true := by rw [C8]; simp
  have C8_n : (r3.toList != r7.toList) = false := by rw [bne, C8_]; rfl
  have C9_ : (r6 == 0) = true := by rw [C9]; simp
  have C9_n : (r6 != 0) = false := by rw [C9]; simp
  have C10_ : (r5 == 0) = true := by rw [C10]; simp
  have C10_n : (r5 != 0) = false := by rw [C10]; simp
  simp only [formV] at K11
  unfold ltC fnP
  simp +decide [Tryz.f3, K1, C2, K3, C4, K5, K6, K7, C8_, C8_n, C9_, C9_n, C10_, C10_n, K11, ltC_aw, awG, ltC_l16, ltC_l17, ltC_l18, ltC_l19, ltC_l20, ltC_l21]
end
end Go.Proofs.YtjpoanaoaeaneaaGreatDoor
set_option linter.all false
set_option maxRecDepth 100000
set_option maxHeartbeats 6400000
namespace Go.Proofs.YtjpoanaoaeaneaaGreatDoor
open Go.RowKit
noncomputable def feq_C4 : Code := (loopsOf (bodyOf Tryz.f21)).getD 0 .skip
def feq_h4 (a0 : Form) (a1 : Form) (i_4 : Nat) : St :=
  ⟨[(2, .ptr 0 0), (3, .ptr 1 0), (5, .lit (.int .i64 (i_4 : Int)))],
   [(0, some (.box 28 [.sl 4 (a0.1.map termC), .lit (.bool (rawQ a0.2).s), natA (rawQ a0.2).l1, natA (rawQ a0.2).l2] false)),
    (1, some (.box 28 [.sl 4 (a1.1.map termC), .lit (.bool (rawQ a1.2).s), natA (rawQ a1.2).l1, natA (rawQ a1.2).l2] false))], 2⟩
def feq_o4a  : St :=
  ⟨[(4, .lit (.bool false))],
   [], 0⟩
def feq_o4b  : St :=
  ⟨[(4, .any)],
   [], 0⟩
section
variable {v5 : Int} {q6 : Rat} {a0 : Form} {q5 : Rat} {a1 : Form} {n : Nat} {i_4 : Nat} {v6 : Int}
theorem feq_r4_1 (C1 : (i_4 : Int) < (a0.1.length : Int)) (E2 : a0.1[i_4]? = some (v5, q5)) (E3 : a1.1[i_4]? = some (v6, q6)) (C4 : v5 = v6) (B5a : H q5 ≤ 17179869184) (B5b : H q6 ≤ 17179869184) (C6 : q5 = q6) (W7 : InI ((i_4 : Int) + 1)) :
    Cont 0 (exec Tryz.prog (tab n) 0 57 (livesOf 21) big feq_C4) (livesOf 21 4) (feq_h4 a0 a1 i_4) (feq_h4 a0 a1 (i_4 + 1)) := by
  have C1_ : i_4 < a0.1.length := by omega
  obtain ⟨EL2, EG2⟩ := List.getElem?_eq_some_iff.1 E2
  obtain ⟨EL3, EG3⟩ := List.getElem?_eq_some_iff.1 E3
  have C4_ : (v5 == v6) = true := by rw [C4]; simp
  have C4_n : (v5 != v6) = false := by rw [C4]; simp
  have K5 := r_same (p := q5) (q := q6) B5a B5b
  have C6_ : decide (q5 = q6) = true := decide_eq_true C6
  have W7_ : IntKind.i64.wrap ((i_4 : Int) + 1) = (i_4 : Int) + 1 := wr64 W7.1 W7.2
  unfold Cont
  simp +decide [feq_h4, loopsOf, Tryz.f21, feq_C4, C1, C1_, EL2, EG2, E2, EL3, EG3, E3, C4_, C4_n, K5, C6_, W7_]
theorem feq_x4_1 (C1 : (i_4 : Int) < (a0.1.length : Int)) (E2 : a0.1[i_4]? = some (v5, q5)) (E3 : a1.1[i_4]? = some (v6, q6)) (C4 : ¬ v5 = v6) :
    Leave 0 (exec Tryz.prog (tab n) 0 57 (livesOf 21) big feq_C4) (livesOf 21 (outOf 4)) (feq_h4 a0 a1 i_4) (.ret) (feq_o4a ) := by
  have C1_ : i_4 < a0.1.length := by omega
  obtain ⟨EL2, EG2⟩ := List.getElem?_eq_some_iff.1 E2
  obtain ⟨EL3, EG3⟩ := List.getElem?_eq_some_iff.1 E3
  have C4_ : (v5 == v6) = false := by simpa using C4
  have C4_n : (v5 != v6) = true := by simpa using C4
  unfold Leave
  simp +decide [feq_h4, loopsOf, Tryz.f21, feq_o4a, feq_C4, C1, C1_, EL2, EG2, E2, EL3, EG3, E3, C4_, C4_n]
theorem feq_x4_2 (C1 : (i_4 : Int) < (a0.1.length : Int)) (E2 : a0.1[i_4]? = some (v5, q5)) (E3 : a1.1[i_4]? = some (v6, q6)) (C4 : v5 = v6) (B5a : H q5 ≤ 17179869184) (B5b : H q6 ≤ 17179869184) (C6 : ¬ (q5 = q6)) :
    Leave 0 (exec Tryz.prog (tab n) 0 57 (livesOf 21) big feq_C4) (livesOf 21 (outOf 4)) (feq_h4 a0 a1 i_4) (.ret) (feq_o4a ) := by
  have C1_ : i_4 < a0.1.length := by omega
  obtain ⟨EL2, EG2⟩ := List.getElem?_eq_some_iff.1 E2
  obtain ⟨EL3, EG3⟩ := List.getElem?_eq_some_iff.1 E3
  have C4_ : (v5 == v6) = true := by rw [C4]; simp
  have C4_n : (v5 != v6) = false := by rw [C4]; simp
  have K5 := r_same (p := q5) (q := q6) B5a B5b
  unfold Leave
  simp +decide [feq_h4, loopsOf, Tryz.f21, feq_o4a, feq_C4, C1, C1_, EL2, EG2, E2, EL3, EG3, E3, C4_, C4_n, K5, C6]
theorem feq_x4_3 (C1 : ¬ (i_4 : Int) < (a0.1.length : Int)) :
    Leave 0 (exec Tryz.prog (tab n) 0 57 (livesOf 21) big feq_C4) (livesOf 21 (outOf 4)) (feq_h4 a0 a1 i_4) (.exit 0) (feq_o4b ) := by
  have C1_ : ¬ i_4 < a0.1.length := by omega
  unfold Leave
  simp +decide [feq_h4, loopsOf, Tryz.f21, feq_o4b, feq_C4, C1, C1_]
theorem feq_f1 (C1 : ¬ (a0.1.length : Int) = (a1.1.length : Int)) :
    run n 21 [formV a0, formV a1] = some (.lit (.bool false)) := by
  have C1_ : ((a0.1.length : Int) == (a1.1.length : Int)) = false := by simpa using C1
  have C1_n : ((a0.1.length : Int) != (a1.1.length : Int)) = true := by simpa using C1
  unfold run fnP
  simp +decide [Tryz.f21, C1_, C1_n]
theorem feq_f2 (C1 : (a0.1.length : Int) = (a1.1.length : Int)) (B2a : H a0.2 ≤ 17179869184) (B2b : H a1.2 ≤ 17179869184) (C3 : ¬ (a0.2 = a1.2)) :
    run n 21 [formV a0, formV a1] = some (.lit (.bool false)) := by
  have C1_ : ((a0.1.length : Int) == (a1.1.length : Int)) = true := by rw [C1]; simp
  have C1_n : ((a0.1.length : Int) != (a1.1.length : Int)) = false := by rw [C1]; simp
  have K2 := r_same (p := a0.2) (q := a1.2) B2a B2b
  unfold run fnP
  simp +decide [Tryz.f21, C1_, C1_n, K2, C3]
theorem feq_f3 (C1 : (a0.1.length : Int) = (a1.1.length : Int)) (B2a : H a0.2 ≤ 17179869184) (B2b : H a1.2 ≤ 17179869184) (C3 : a0.2 = a1.2) (L4 : loopG Tryz.prog (tab n) 0 57 (livesOf 21) 4 feq_C4 (feq_h4 a0 a1 0) = some (.ret, feq_o4a )) :
    run n 21 [formV a0, formV a1] = some (.lit (.bool false)) := by
  have C1_ : ((a0.1.length : Int) == (a1.1.length : Int)) = true := by rw [C1]; simp
  have C1_n : ((a0.1.length : Int) != (a1.1.length : Int)) = false := by rw [C1]; simp
  have K2 := r_same (p := a0.2) (q := a1.2) B2a B2b
  have C3_ : decide (a0.2 = a1.2) = true := decide_eq_true C3
  unfold run fnP
  simp +decide [Tryz.f21, C1_, C1_n, K2, C3_]
  rw [loopX_G (C' := feq_C4) (e := (feq_h4 a0 a1 0)) ?_ ?_, L4]
  rotate_left
  · kernel_rfl
  · simp +decide [feq_h4, C1_, C1_n, K2, C3_]
  simp +decide [feq_o4a, C1_, C1_n, K2, C3_]
theorem feq_f4 (C1 : (a0.1.length : Int) = (a1.1.length : Int)) (B2a : H a0.2 ≤ 17179869184) (B2b : H a1.2 ≤ 17179869184) (C3 : a0.2 = a1.2) (L4 : loopG Tryz.prog (tab n) 0 57 (livesOf 21) 4 feq_C4 (feq_h4 a0 a1 0) = some (.exit 0, feq_o4b )) :
    run n 21 [formV a0, formV a1] = some (.lit (.bool true)) := by
  have C1_ : ((a0.1.length : Int) == (a1.1.length : Int)) = true := by rw [C1]; simp
  have C1_n : ((a0.1.length : Int) != (a1.1.length : Int)) = false := by rw [C1]; simp
  have K2 := r_same (p := a0.2) (q := a1.2) B2a B2b
  have C3_ : decide (a0.2 = a1.2) = true := decide_eq_true C3
  unfold run fnP
  simp +decide [Tryz.f21, C1_, C1_n, K2, C3_]
  rw [loopX_G (C' := feq_C4) (e := (feq_h4 a0 a1 0)) ?_ ?_, L4]
  rotate_left
  · kernel_rfl
  · simp +decide [feq_h4, C1_, C1_n, K2, C3_]
  simp +decide [feq_o4b, C1_, C1_n, K2, C3_]
end
end Go.Proofs.YtjpoanaoaeaneaaGreatDoor
set_option linter.all false
set_option maxRecDepth 100000
set_option maxHeartbeats 6400000
namespace Go.Proofs.YtjpoanaoaeaneaaGreatDoor
open Go.RowKit
attribute [local irreducible] run runL loopG exec
theorem list_all {α : Type} {l m : List α} (hl : l.length = m.length) : (∀ i, i < l.length → l[i]? = m[i]?) → l = m := fun h => by
  apply List.ext_getElem?
  intro i
  rcases Nat.lt_or_ge i l.length with hi | hi
  · exact h i hi
  · rw [List.getElem?_eq_none hi, List.getElem?_eq_none (by omega)]
theorem feq_c {n : Nat} {f g : Form} (hf : BdF 17179869184 f) (hg : BdF 17179869184 g) : run n 21 [formV f, formV g] = some (.lit (.bool (tv (f = g)))) := by
  have l1 := hf.l
  have l2 := hg.l
  by_cases hl : f.1.length = g.1.length
  · by_cases hk : f.2 = g.2
    · have L := loopG_all (O := tab n) (P := Tryz.prog) (m := 0) (N := 57) (lives := livesOf 21) (r := 4) (C := feq_C4) (M := f.1.length) (enc := feq_h4 f g) (p := fun i => tv (f.1[i]? = g.1[i]?)) (exN := .exit 0) (exE := .ret) (out := feq_o4b) (outE := feq_o4a) (by omega) (fun h => by cases h) (fun h => by cases h)
        (fun i hi _ => by
          have hx : f.1[i]? = some f.1[i] := List.getElem?_eq_getElem hi
          have hy : g.1[i]? = some (g.1[i]'(by omega)) := List.getElem?_eq_getElem _
          obtain ⟨t, ht⟩ : ∃ t, f.1[i] = t := ⟨_, rfl⟩
          obtain ⟨u, hu⟩ : ∃ u, (g.1[i]'(by omega)) = u := ⟨_, rfl⟩
          rw [ht] at hx
          rw [hu] at hy
          obtain ⟨v, q⟩ := t
          obtain ⟨v', q'⟩ := u
          have hq := hf.t _ (List.mem_of_getElem? hx)
          have hq' := hg.t _ (List.mem_of_getElem? hy)
          dsimp only at hq hq'
          refine ⟨fun hp => ?_, fun hp => ?_⟩
          · have hp := tv_true hp
            rw [hx, hy] at hp
            cases hp
            exact feq_r4_1 (by omega) hx hy rfl hq hq' rfl ⟨by omega, by omega⟩
          · have hp := tv_false hp
            rw [hx, hy] at hp
            by_cases e1 : v = v'
            · exact feq_x4_2 (by omega) hx hy e1 hq hq' fun e2 => hp (by rw [e1, e2])
            · exact feq_x4_1 (by omega) hx hy e1)
        (feq_x4_3 (by omega))
      by_cases hA : ∀ i, i < f.1.length → tv (f.1[i]? = g.1[i]?) = true
      · rw [if_pos hA] at L
        rw [tv_t (Prod.ext (list_all hl fun i hi => tv_true (hA i hi)) hk)]
        exact feq_f4 (by omega) hf.k hg.k hk L
      · rw [if_neg hA] at L
        rw [tv_f fun h => hA fun i hi => tv_t (by rw [h])]
        exact feq_f3 (by omega) hf.k hg.k hk L
    · rw [tv_f fun h => hk (by rw [h])]
      exact feq_f2 (by omega) hf.k hg.k hk
  · rw [tv_f fun h => hl (by rw [h])]
    exact feq_f1 (by omega)
end Go.Proofs.YtjpoanaoaeaneaaGreatDoor
set_option linter.all false
set_option maxRecDepth 100000
set_option maxHeartbeats 6400000
namespace Go.Proofs.YtjpoanaoaeaneaaGreatDoor
open Go.RowKit
attribute [local irreducible] run runL loopG exec
end Go.Proofs.YtjpoanaoaeaneaaGreatDoor
