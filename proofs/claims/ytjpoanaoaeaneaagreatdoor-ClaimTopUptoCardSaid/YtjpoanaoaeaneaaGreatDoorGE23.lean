import Derived.Test.YtjpoanaoaeaneaaGreatDoorGE16
import Derived.Test.YtjpoanaoaeaneaaGreatDoorGE19
import Derived.Test.YtjpoanaoaeaneaaGreatDoorGE22
set_option linter.all false
set_option maxRecDepth 100000
set_option maxHeartbeats 6400000
namespace Go.Proofs.YtjpoanaoaeaneaaGreatDoor
open Go.RowKit
noncomputable def levX_C3 : Code := (loopsOf (bodyOf Tryz.f109)).getD 0 .skip
def levX_h3 (a0 : Form) (a1 : List Raw) (i_3 : Nat) (s_3 : Rat) : St :=
  ⟨[(1, .sl 3 (a1.map rawC)), (4, .ptr 0 0), (6, .ptr 1 0), (12, .sl 4 (a0.1.map termC)), (13, .lit (.int .i64 (a0.1.length : Int))), (14, .lit (.int .i64 (i_3 : Int)))],
   [(0, some (.box 26 [.lit (.bool false), .nl 1, .nl 1] false)),
    (1, some (.box 26 [.lit (.bool (rawQ s_3).s), natA (rawQ s_3).l1, natA (rawQ s_3).l2] false))], 2⟩
def levX_o3a (s_3 : Rat) : St :=
  ⟨[(4, .ptr 0 0), (5, .lit (.int .i64 2)), (6, .ptr 1 0)],
   [(0, some (.box 26 [.lit (.bool false), .nl 1, .nl 1] false)),
    (1, some (.box 26 [.lit (.bool (rawQ s_3).s), natA (rawQ s_3).l1, natA (rawQ s_3).l2] false))], 2⟩
def levX_o3b (s_3 : Rat) : St :=
  ⟨[(4, .ptr 0 0), (5, .any), (6, .ptr 1 0)],
   [(0, some (.box 26 [.lit (.bool false), .nl 1, .nl 1] false)),
    (1, some (.box 26 [.lit (.bool (rawQ s_3).s), natA (rawQ s_3).l1, natA (rawQ s_3).l2] false))], 2⟩
section
variable {a0 : Form} {v3 : Int} {q3 : Rat} {x3 : Raw} {a1 : List Raw} {s_3 : Rat} {n : Nat} {i_3 : Nat}
theorem levX_r3_1 (C1 : (i_3 : Int) < (a0.1.length : Int)) (E2 : a0.1[i_3]? = some (v3, q3)) (C3 : ¬ v3 < 0) (C4 : ¬ (a1.length : Int) ≤ v3) (E5 : a1[v3.toNat]? = some x3) (Z5 : 0 ≤ v3) (B6aH : H q3 ≤ 17179869184) (B6b : RawB x3) (B7a : H s_3 ≤ 17179869184) (B7b : H (q3 * x3.q) ≤ 17179869184) (W8 : InI ((i_3 : Int) + 1)) :
    Cont 0 (exec Tryz.prog (tab n) 0 42 (livesOf 109) big levX_C3) (livesOf 109 3) (levX_h3 a0 a1 i_3 s_3) (levX_h3 a0 a1 (i_3 + 1) (s_3 + (q3 * x3.q))) := by
  have C1_ : i_3 < a0.1.length := by omega
  obtain ⟨EL2, EG2⟩ := List.getElem?_eq_some_iff.1 E2
  obtain ⟨EL5, EG5⟩ := List.getElem?_eq_some_iff.1 E5
  have B6a := rawB_q B6aH
  have K6 := rr_mul B6a B6b
  simp only [rawQ_q] at K6
  have K7 := r_add (p := s_3) (q := q3 * x3.q) B7a B7b
  have W8_ : IntKind.i64.wrap ((i_3 : Int) + 1) = (i_3 : Int) + 1 := wr64 W8.1 W8.2
  unfold Cont
  simp +decide [levX_h3, loopsOf, Tryz.f109, levX_C3, C1, C1_, EL2, EG2, E2, C3, C4, EL5, EG5, E5, Z5, K6, K7, W8_]
theorem levX_x3_1 (C1 : (i_3 : Int) < (a0.1.length : Int)) (E2 : a0.1[i_3]? = some (v3, q3)) (C3 : v3 < 0) :
    Leave 0 (exec Tryz.prog (tab n) 0 42 (livesOf 109) big levX_C3) (livesOf 109 (outOf 3)) (levX_h3 a0 a1 i_3 s_3) (.ret) (levX_o3a s_3) := by
  have C1_ : i_3 < a0.1.length := by omega
  obtain ⟨EL2, EG2⟩ := List.getElem?_eq_some_iff.1 E2
  unfold Leave
  simp +decide [levX_h3, loopsOf, Tryz.f109, levX_o3a, levX_C3, C1, C1_, EL2, EG2, E2, C3]
theorem levX_x3_2 (C1 : (i_3 : Int) < (a0.1.length : Int)) (E2 : a0.1[i_3]? = some (v3, q3)) (C3 : ¬ v3 < 0) (C4 : (a1.length : Int) ≤ v3) :
    Leave 0 (exec Tryz.prog (tab n) 0 42 (livesOf 109) big levX_C3) (livesOf 109 (outOf 3)) (levX_h3 a0 a1 i_3 s_3) (.ret) (levX_o3a s_3) := by
  have C1_ : i_3 < a0.1.length := by omega
  obtain ⟨EL2, EG2⟩ := List.getElem?_eq_some_iff.1 E2
  unfold Leave
  simp +decide [levX_h3, loopsOf, Tryz.f109, levX_o3a, levX_C3, C1, C1_, EL2, EG2, E2, C3, C4]
theorem levX_x3_3 (C1 : ¬ (i_3 : Int) < (a0.1.length : Int)) :
    Leave 0 (exec Tryz.prog (tab n) 0 42 (livesOf 109) big levX_C3) (livesOf 109 (outOf 3)) (levX_h3 a0 a1 i_3 s_3) (.exit 0) (levX_o3b s_3) := by
  have C1_ : ¬ i_3 < a0.1.length := by omega
  unfold Leave
  simp +decide [levX_h3, loopsOf, Tryz.f109, levX_o3b, levX_C3, C1, C1_]
theorem levX_f1 (L1 : loopG Tryz.prog (tab n) 0 42 (livesOf 109) 3 levX_C3 (levX_h3 a0 a1 0 a0.2) = some (.ret, levX_o3a s_3)) :
    run n 109 [formV a0, .sl 3 (a1.map rawC)] = some (.tup [.agg [.lit (.bool false), .sl 1 [], .sl 1 []], .lit (.int .i64 2)]) := by
  unfold run fnP
  simp +decide [Tryz.f109]
  rw [loopX_G (C' := levX_C3) (e := (levX_h3 a0 a1 0 a0.2)) ?_ ?_, L1]
  rotate_left
  · kernel_rfl
  · simp +decide [levX_h3]
  simp +decide [levX_o3a]
theorem levX_f2 (L1 : loopG Tryz.prog (tab n) 0 42 (livesOf 109) 3 levX_C3 (levX_h3 a0 a1 0 a0.2) = some (.exit 0, levX_o3b s_3)) (B2a : H s_3 ≤ 17179869184) :
    run n 109 [formV a0, .sl 3 (a1.map rawC)] = some (.tup [ratV s_3, .lit (.int .i64 0)]) := by
  have K2 := r_canon (p := s_3) B2a
  unfold run fnP
  simp +decide [Tryz.f109, K2]
  rw [loopX_G (C' := levX_C3) (e := (levX_h3 a0 a1 0 a0.2)) ?_ ?_, L1]
  rotate_left
  · kernel_rfl
  · simp +decide [levX_h3, K2]
  simp +decide [levX_o3b, K2]
end
noncomputable def evX_C3 : Code := (loopsOf (bodyOf Tryz.f59)).getD 0 .skip
def evX_h3 (a0 : Form) (a1 : List Raw) (i_3 : Nat) (s_3 : Rat) : St :=
  ⟨[(1, .sl 3 (a1.map rawC)), (2, .ptr 0 0), (4, .ptr 1 0), (6, .ptr 2 0), (7, .lit (.int .i64 (i_3 : Int)))],
   [(0, some (.box 28 [.sl 4 (a0.1.map termC), .lit (.bool (rawQ a0.2).s), natA (rawQ a0.2).l1, natA (rawQ a0.2).l2] false)),
    (1, some (.box 26 [.lit (.bool false), .nl 1, .nl 1] false)),
    (2, some (.box 26 [.lit (.bool (rawQ s_3).s), natA (rawQ s_3).l1, natA (rawQ s_3).l2] false))], 3⟩
def evX_o3a (s_3 : Rat) : St :=
  ⟨[(4, .ptr 0 0), (5, .lit (.int .i64 2)), (6, .ptr 1 0)],
   [(0, some (.box 26 [.lit (.bool false), .nl 1, .nl 1] false)),
    (1, some (.box 26 [.lit (.bool (rawQ s_3).s), natA (rawQ s_3).l1, natA (rawQ s_3).l2] false))], 2⟩
def evX_o3b (s_3 : Rat) : St :=
  ⟨[(4, .ptr 0 0), (5, .any), (6, .ptr 1 0)],
   [(0, some (.box 26 [.lit (.bool false), .nl 1, .nl 1] false)),
    (1, some (.box 26 [.lit (.bool (rawQ s_3).s), natA (rawQ s_3).l1, natA (rawQ s_3).l2] false))], 2⟩
section
variable {a0 : Form} {v3 : Int} {q3 : Rat} {x3 : Raw} {a1 : List Raw} {s_3 : Rat} {n : Nat} {i_3 : Nat}
theorem evX_r3_1 (C1 : (i_3 : Int) < (a0.1.length : Int)) (E2 : a0.1[i_3]? = some (v3, q3)) (C3 : ¬ v3 < 0) (C4 : ¬ (a1.length : Int) ≤ v3) (E5 : a1[v3.toNat]? = some x3) (Z5 : 0 ≤ v3) (B6aH : H q3 ≤ 17179869184) (B6b : RawB x3) (B7a : H s_3 ≤ 17179869184) (B7b : H (q3 * x3.q) ≤ 17179869184) (W8 : InI ((i_3 : Int) + 1)) :
    Cont 0 (exec Tryz.prog (tab n) 0 45 (livesOf 59) big evX_C3) (livesOf 59 3) (evX_h3 a0 a1 i_3 s_3) (evX_h3 a0 a1 (i_3 + 1) (s_3 + (q3 * x3.q))) := by
  have C1_ : i_3 < a0.1.length := by omega
  obtain ⟨EL2, EG2⟩ := List.getElem?_eq_some_iff.1 E2
  obtain ⟨EL5, EG5⟩ := List.getElem?_eq_some_iff.1 E5
  have B6a := rawB_q B6aH
  have K6 := rr_mul B6a B6b
  simp only [rawQ_q] at K6
  have K7 := r_add (p := s_3) (q := q3 * x3.q) B7a B7b
  have W8_ : IntKind.i64.wrap ((i_3 : Int) + 1) = (i_3 : Int) + 1 := wr64 W8.1 W8.2
  unfold Cont
  simp +decide [evX_h3, loopsOf, Tryz.f59, evX_C3, C1, C1_, EL2, EG2, E2, C3, C4, EL5, EG5, E5, Z5, K6, K7, W8_]
theorem evX_x3_1 (C1 : (i_3 : Int) < (a0.1.length : Int)) (E2 : a0.1[i_3]? = some (v3, q3)) (C3 : v3 < 0) :
    Leave 0 (exec Tryz.prog (tab n) 0 45 (livesOf 59) big evX_C3) (livesOf 59 (outOf 3)) (evX_h3 a0 a1 i_3 s_3) (.ret) (evX_o3a s_3) := by
  have C1_ : i_3 < a0.1.length := by omega
  obtain ⟨EL2, EG2⟩ := List.getElem?_eq_some_iff.1 E2
  unfold Leave
  simp +decide [evX_h3, loopsOf, Tryz.f59, evX_o3a, evX_C3, C1, C1_, EL2, EG2, E2, C3]
theorem evX_x3_2 (C1 : (i_3 : Int) < (a0.1.length : Int)) (E2 : a0.1[i_3]? = some (v3, q3)) (C3 : ¬ v3 < 0) (C4 : (a1.length : Int) ≤ v3) :
    Leave 0 (exec Tryz.prog (tab n) 0 45 (livesOf 59) big evX_C3) (livesOf 59 (outOf 3)) (evX_h3 a0 a1 i_3 s_3) (.ret) (evX_o3a s_3) := by
  have C1_ : i_3 < a0.1.length := by omega
  obtain ⟨EL2, EG2⟩ := List.getElem?_eq_some_iff.1 E2
  unfold Leave
  simp +decide [evX_h3, loopsOf, Tryz.f59, evX_o3a, evX_C3, C1, C1_, EL2, EG2, E2, C3, C4]
theorem evX_x3_3 (C1 : ¬ (i_3 : Int) < (a0.1.length : Int)) :
    Leave 0 (exec Tryz.prog (tab n) 0 45 (livesOf 59) big evX_C3) (livesOf 59 (outOf 3)) (evX_h3 a0 a1 i_3 s_3) (.exit 0) (evX_o3b s_3) := by
  have C1_ : ¬ i_3 < a0.1.length := by omega
  unfold Leave
  simp +decide [evX_h3, loopsOf, Tryz.f59, evX_o3b, evX_C3, C1, C1_]
theorem evX_f1 (L1 : loopG Tryz.prog (tab n) 0 45 (livesOf 59) 3 evX_C3 (evX_h3 a0 a1 0 a0.2) = some (.ret, evX_o3a s_3)) :
    run n 59 [formV a0, .sl 3 (a1.map rawC)] = some (.tup [.agg [.lit (.bool false), .sl 1 [], .sl 1 []], .lit (.int .i64 2)]) := by
  unfold run fnP
  simp +decide [Tryz.f59]
  rw [loopX_G (C' := evX_C3) (e := (evX_h3 a0 a1 0 a0.2)) ?_ ?_, L1]
  rotate_left
  · kernel_rfl
  · simp +decide [evX_h3]
  simp +decide [evX_o3a]
theorem evX_f2 (L1 : loopG Tryz.prog (tab n) 0 45 (livesOf 59) 3 evX_C3 (evX_h3 a0 a1 0 a0.2) = some (.exit 0, evX_o3b s_3)) :
    run n 59 [formV a0, .sl 3 (a1.map rawC)] = some (.tup [ratV s_3, .lit (.int .i64 0)]) := by
  unfold run fnP
  simp +decide [Tryz.f59]
  rw [loopX_G (C' := evX_C3) (e := (evX_h3 a0 a1 0 a0.2)) ?_ ?_, L1]
  rotate_left
  · kernel_rfl
  · simp +decide [evX_h3]
  simp +decide [evX_o3b]
end
end Go.Proofs.YtjpoanaoaeaneaaGreatDoor
set_option linter.all false
set_option maxRecDepth 100000
set_option maxHeartbeats 6400000
namespace Go.Proofs.YtjpoanaoaeaneaaGreatDoor
open Go.RowKit
attribute [local irreducible] run runL loopG exec
theorem pevX_c {n : Nat} {f : Form} {X : List Rat} {xs : List Raw} {a b k : Nat} (hx : X = xs.map Raw.q) (hr : ∀ r ∈ xs, RawB r) (ha : ∀ t ∈ f.1, H t.2 ≤ a) (hb : ∀ q ∈ X, H q ≤ b) (hk : H f.2 ≤ k) (hX : X.length ≤ 100000000) (hF : f.1.length ≤ 100000000) (hs : k + f.1.length * (a + b + 1) ≤ 17179869184) (hab : a + b ≤ 17179869184) :
    run n 109 [formV f, .sl 3 (xs.map rawC)] = some (evR X f) := by
  have hxl : X.length = xs.length := by rw [hx, List.length_map]
  have L := loopG_E (O := tab n) (P := Tryz.prog) (m := 0) (N := 42) (lives := livesOf 109) (r := 3) (C := levX_C3) (L := f.1) (f := evF X) (enc := fun i s => levX_h3 f xs i s) (exN := .exit 0) (exE := .ret) (out := levX_o3b) (outE := levX_o3a) (Inv := fun i s => H s ≤ k + i * (a + b + 1) ∧ i ≤ f.1.length) f.2 ⟨by omega, by omega⟩ (by omega) (fun h => by cases h) (fun h => by cases h)
    (fun i t s hi hI => by
      obtain ⟨v, c⟩ := t
      obtain ⟨hI, hle⟩ := hI
      have hlt := (List.getElem?_eq_some_iff.1 hi).1
      have hm : (i + 1) * (a + b + 1) ≤ f.1.length * (a + b + 1) := Nat.mul_le_mul_right _ hlt
      rw [Nat.add_mul, Nat.one_mul] at hm
      have C1 : (i : Int) < (f.1.length : Int) := by omega
      have W : InI ((i : Int) + 1) := ⟨by omega, by omega⟩
      unfold evF
      by_cases hv : v < 0 ∨ (X.length : Int) ≤ v
      · rw [if_pos hv]
        by_cases h0 : v < 0
        · exact levX_x3_1 C1 hi h0
        · exact levX_x3_2 C1 hi h0 (by omega)
      · rw [if_neg hv]
        have hl : v.toNat < X.length := by omega
        have h1 : X[v.toNat]? = some (X.getD v.toNat 0) := by rw [List.getD_eq_getElem?_getD, List.getElem?_eq_getElem hl]; rfl
        have hc : H c ≤ a := ha _ (List.mem_of_getElem? hi)
        have hq : H (X.getD v.toNat 0) ≤ b := hb _ (List.mem_of_getElem? h1)
        have h2 := H_mul c (X.getD v.toNat 0)
        have h3 := H_add s (c * X.getD v.toNat 0)
        dsimp only
        obtain ⟨r, hri⟩ : ∃ r, xs[v.toNat]? = some r := ⟨_, List.getElem?_eq_getElem (by omega)⟩
        have er : X.getD v.toNat 0 = r.q := by
          rw [List.getD_eq_getElem?_getD, hx, List.getElem?_map, hri]; rfl
        have hrb := hr r (List.mem_of_getElem? hri)
        rw [er] at hq h2 h3 ⊢
        refine ⟨levX_r3_1 C1 hi (by omega) (by omega) hri (by omega) (by omega) hrb (by omega) (by omega) W, ?_, hlt⟩
        rw [Nat.add_mul, Nat.one_mul]
        omega)
    (fun b hI => levX_x3_3 (by omega))
  unfold evR
  cases hE : foldE (evF X) 0 f.2 f.1 with
  | ok s =>
    have hB := (L.2 s hE).1
    rw [hE] at L; exact levX_f2 L.1 (by omega)
  | error s => rw [hE] at L; exact levX_f1 L.1
theorem evalX_c {n : Nat} {f : Form} {X : List Rat} {xs : List Raw} {a b k : Nat} (hx : X = xs.map Raw.q) (hr : ∀ r ∈ xs, RawB r) (ha : ∀ t ∈ f.1, H t.2 ≤ a) (hb : ∀ q ∈ X, H q ≤ b) (hk : H f.2 ≤ k) (hX : X.length ≤ 100000000) (hF : f.1.length ≤ 100000000) (hs : k + f.1.length * (a + b + 1) ≤ 17179869184) (hab : a + b ≤ 17179869184) :
    run n 59 [formV f, .sl 3 (xs.map rawC)] = some (evR X f) ∧ ∀ s, foldE (evF X) 0 f.2 f.1 = .ok s → H s ≤ k + f.1.length * (a + b + 1) := by
  have hxl : X.length = xs.length := by rw [hx, List.length_map]
  have L := loopG_E (O := tab n) (P := Tryz.prog) (m := 0) (N := 45) (lives := livesOf 59) (r := 3) (C := evX_C3) (L := f.1) (f := evF X) (enc := fun i s => evX_h3 f xs i s) (exN := .exit 0) (exE := .ret) (out := evX_o3b) (outE := evX_o3a) (Inv := fun i s => H s ≤ k + i * (a + b + 1) ∧ i ≤ f.1.length) f.2 ⟨by omega, by omega⟩ (by omega) (by simp) (by simp)
    (fun i t s hi hI => by
      obtain ⟨v, c⟩ := t
      obtain ⟨hI, hle⟩ := hI
      have hlt := (List.getElem?_eq_some_iff.1 hi).1
      have hm : (i + 1) * (a + b + 1) ≤ f.1.length * (a + b + 1) := Nat.mul_le_mul_right _ hlt
      rw [Nat.add_mul, Nat.one_mul] at hm
      have C1 : (i : Int) < (f.1.length : Int) := by omega
      have W : InI ((i : Int) + 1) := ⟨by omega, by omega⟩
      unfold evF
      by_cases hv : v < 0 ∨ (X.length : Int) ≤ v
      · rw [if_pos hv]
        by_cases h0 : v < 0
        · exact evX_x3_1 C1 hi h0
        · exact evX_x3_2 C1 hi h0 (by omega)
      · rw [if_neg hv]
        have hl : v.toNat < X.length := by omega
        have h1 : X[v.toNat]? = some (X.getD v.toNat 0) := by rw [List.getD_eq_getElem?_getD, List.getElem?_eq_getElem hl]; rfl
        have hc : H c ≤ a := ha _ (List.mem_of_getElem? hi)
        have hq : H (X.getD v.toNat 0) ≤ b := hb _ (List.mem_of_getElem? h1)
        have h2 := H_mul c (X.getD v.toNat 0)
        have h3 := H_add s (c * X.getD v.toNat 0)
        dsimp only
        obtain ⟨r, hri⟩ : ∃ r, xs[v.toNat]? = some r := ⟨_, List.getElem?_eq_getElem (by omega)⟩
        have er : X.getD v.toNat 0 = r.q := by
          rw [List.getD_eq_getElem?_getD, hx, List.getElem?_map, hri]; rfl
        have hrb := hr r (List.mem_of_getElem? hri)
        rw [er] at hq h2 h3 ⊢
        refine ⟨evX_r3_1 C1 hi (by omega) (by omega) hri (by omega) (by omega) hrb (by omega) (by omega) W, ?_, hlt⟩
        rw [Nat.add_mul, Nat.one_mul]
        omega)
    (fun b hI => evX_x3_3 (by omega))
  refine ⟨?_, fun s hs' => (L.2 s hs').1⟩
  unfold evR
  cases hE : foldE (evF X) 0 f.2 f.1 with
  | ok s => rw [hE] at L; exact evX_f2 L.1
  | error s => rw [hE] at L; exact evX_f1 L.1
end Go.Proofs.YtjpoanaoaeaneaaGreatDoor
set_option linter.all false
set_option maxRecDepth 100000
set_option maxHeartbeats 6400000
namespace Go.Proofs.YtjpoanaoaeaneaaGreatDoor
open Go.RowKit
noncomputable def cHo_C5 : Code := (loopsOf (bodyOf Tryz.f44)).getD 0 .skip
def cHo_h5 (a1 : List Raw) (r : List Form) (i_5 : Nat) : St :=
  ⟨[(1, .sl 3 (a1.map rawC)), (23, .sl 4 (r.map formC)), (24, .lit (.int .i64 (r.length : Int))), (25, .lit (.int .i64 (i_5 : Int)))],
   [], 0⟩
def cHo_o5a (i_5 : Nat) : St :=
  ⟨[(4, .lit (.int .i64 (i_5 : Int))), (5, .lit (.bool false)), (6, .lit (.int .i64 0))],
   [], 0⟩
def cHo_o5b  : St :=
  ⟨[(4, .any), (5, .any), (6, .any)],
   [], 0⟩
section
variable {r : List Form} {q3 : Rat} {a1 : List Raw} {n : Nat} {F3 : List (Int × Rat)} {r8 : Int} {r7 : Rat} {i_5 : Nat} {a0 : TClaim} {r2 : Int}
theorem cHo_r5_1 (C1 : (i_5 : Int) < (r.length : Int)) (E2 : r[i_5]? = some (F3, q3)) (K3 : run (n + 5) 109 [formV (F3, q3), .sl 3 (a1.map rawC)] = some (.tup [ratV r7, .lit (.int .i64 r8)])) (B4a : H r7 ≤ 17179869184) (C5 : ¬ sgR r7 < 0) (W6 : InI ((i_5 : Int) + 1)) :
    Cont 0 (exec Tryz.prog (tab (n + 6)) 0 41 (livesOf 44) big cHo_C5) (livesOf 44 5) (cHo_h5 a1 r i_5) (cHo_h5 a1 r (i_5 + 1)) := by
  have C1_ : i_5 < r.length := by omega
  obtain ⟨EL2, EG2⟩ := List.getElem?_eq_some_iff.1 E2
  simp only [ratV, formV] at K3
  have K4 := r_sign (p := r7) B4a
  have W6_ : IntKind.i64.wrap ((i_5 : Int) + 1) = (i_5 : Int) + 1 := wr64 W6.1 W6.2
  unfold Cont
  simp +decide [cHo_h5, loopsOf, Tryz.f44, cHo_C5, C1, C1_, EL2, EG2, E2, K3, K4, C5, W6_]
theorem cHo_x5_1 (C1 : (i_5 : Int) < (r.length : Int)) (E2 : r[i_5]? = some (F3, q3)) (K3 : run (n + 5) 109 [formV (F3, q3), .sl 3 (a1.map rawC)] = some (.tup [ratV r7, .lit (.int .i64 r8)])) (B4a : H r7 ≤ 17179869184) (C5 : sgR r7 < 0) :
    Leave 0 (exec Tryz.prog (tab (n + 6)) 0 41 (livesOf 44) big cHo_C5) (livesOf 44 (outOf 5)) (cHo_h5 a1 r i_5) (.ret) (cHo_o5a i_5) := by
  have C1_ : i_5 < r.length := by omega
  obtain ⟨EL2, EG2⟩ := List.getElem?_eq_some_iff.1 E2
  simp only [ratV, formV] at K3
  have K4 := r_sign (p := r7) B4a
  unfold Leave
  simp +decide [cHo_h5, loopsOf, Tryz.f44, cHo_o5a, cHo_C5, C1, C1_, EL2, EG2, E2, K3, K4, C5]
theorem cHo_x5_2 (C1 : ¬ (i_5 : Int) < (r.length : Int)) :
    Leave 0 (exec Tryz.prog (tab (n + 6)) 0 41 (livesOf 44) big cHo_C5) (livesOf 44 (outOf 5)) (cHo_h5 a1 r i_5) (.exit 0) (cHo_o5b ) := by
  have C1_ : ¬ i_5 < r.length := by omega
  unfold Leave
  simp +decide [cHo_h5, loopsOf, Tryz.f44, cHo_o5b, cHo_C5, C1, C1_]
theorem cHo_f2 (K1 : run (n + 5) 37 [claimV a0, .lit (.int .i64 (a1.length : Int))] = some (.tup [.sl 4 (r.map formC), .lit (.int .i64 r2)])) (C2 : r2 = 0) (L3 : loopG Tryz.prog (tab (n + 6)) 0 41 (livesOf 44) 5 cHo_C5 (cHo_h5 a1 r 0) = some (.ret, cHo_o5a i_5)) :
    run (n + 6) 44 [claimV a0, .sl 3 (a1.map rawC)] = some (.tup [.lit (.int .i64 (i_5 : Int)), .lit (.bool false), .lit (.int .i64 0)]) := by
  simp only [claimV] at K1
  have C2_ : (r2 == 0) = true := by rw [C2]; simp
  have C2_n : (r2 != 0) = false := by rw [C2]; simp
  unfold run fnP
  simp +decide [Tryz.f44, K1, C2_, C2_n]
  rw [loopX_G (C' := cHo_C5) (e := (cHo_h5 a1 r 0)) ?_ ?_, L3]
  rotate_left
  · kernel_rfl
  · simp +decide [cHo_h5, K1, C2_, C2_n]
  simp +decide [cHo_o5a, K1, C2_, C2_n]
theorem cHo_f3 (K1 : run (n + 5) 37 [claimV a0, .lit (.int .i64 (a1.length : Int))] = some (.tup [.sl 4 (r.map formC), .lit (.int .i64 r2)])) (C2 : r2 = 0) (L3 : loopG Tryz.prog (tab (n + 6)) 0 41 (livesOf 44) 5 cHo_C5 (cHo_h5 a1 r 0) = some (.exit 0, cHo_o5b )) :
    run (n + 6) 44 [claimV a0, .sl 3 (a1.map rawC)] = some (.tup [.lit (.int .i64 0), .lit (.bool true), .lit (.int .i64 0)]) := by
  simp only [claimV] at K1
  have C2_ : (r2 == 0) = true := by rw [C2]; simp
  have C2_n : (r2 != 0) = false := by rw [C2]; simp
  unfold run fnP
  simp +decide [Tryz.f44, K1, C2_, C2_n]
  rw [loopX_G (C' := cHo_C5) (e := (cHo_h5 a1 r 0)) ?_ ?_, L3]
  rotate_left
  · kernel_rfl
  · simp +decide [cHo_h5, K1, C2_, C2_n]
  simp +decide [cHo_o5b, K1, C2_, C2_n]
end
noncomputable def fHo_C5 : Code := (loopsOf (bodyOf Tryz.f45)).getD 0 .skip
def fHo_h5 (a1 : List Raw) (r : List Form) (i_5 : Nat) : St :=
  ⟨[(1, .sl 3 (a1.map rawC)), (7, .sl 4 (r.map formC)), (9, .lit (.int .i64 (i_5 : Int)))],
   [], 0⟩
def fHo_o5a (i_5 : Nat) : St :=
  ⟨[(4, .lit (.int .i64 (i_5 : Int))), (5, .lit (.bool false)), (6, .lit (.int .i64 0))],
   [], 0⟩
def fHo_o5b  : St :=
  ⟨[(4, .any), (5, .any), (6, .any)],
   [], 0⟩
section
variable {r : List Form} {q3 : Rat} {a1 : List Raw} {n : Nat} {F3 : List (Int × Rat)} {r8 : Int} {r7 : Rat} {i_5 : Nat} {a0 : TClaim} {r2 : Int}
theorem fHo_r5_1 (C1 : (i_5 : Int) < (r.length : Int)) (E2 : r[i_5]? = some (F3, q3)) (K3 : run (n + 4) 59 [formV (F3, q3), .sl 3 (a1.map rawC)] = some (.tup [ratV r7, .lit (.int .i64 r8)])) (B4a : H r7 ≤ 17179869184) (C5 : ¬ sgR r7 < 0) (W6 : InI ((i_5 : Int) + 1)) :
    Cont 0 (exec Tryz.prog (tab (n + 5)) 0 41 (livesOf 45) big fHo_C5) (livesOf 45 5) (fHo_h5 a1 r i_5) (fHo_h5 a1 r (i_5 + 1)) := by
  have C1_ : i_5 < r.length := by omega
  obtain ⟨EL2, EG2⟩ := List.getElem?_eq_some_iff.1 E2
  simp only [ratV, formV] at K3
  have K4 := r_sign (p := r7) B4a
  have W6_ : IntKind.i64.wrap ((i_5 : Int) + 1) = (i_5 : Int) + 1 := wr64 W6.1 W6.2
  unfold Cont
  simp +decide [fHo_h5, loopsOf, Tryz.f45, fHo_C5, C1, C1_, EL2, EG2, E2, K3, K4, C5, W6_]
theorem fHo_x5_1 (C1 : (i_5 : Int) < (r.length : Int)) (E2 : r[i_5]? = some (F3, q3)) (K3 : run (n + 4) 59 [formV (F3, q3), .sl 3 (a1.map rawC)] = some (.tup [ratV r7, .lit (.int .i64 r8)])) (B4a : H r7 ≤ 17179869184) (C5 : sgR r7 < 0) :
    Leave 0 (exec Tryz.prog (tab (n + 5)) 0 41 (livesOf 45) big fHo_C5) (livesOf 45 (outOf 5)) (fHo_h5 a1 r i_5) (.ret) (fHo_o5a i_5) := by
  have C1_ : i_5 < r.length := by omega
  obtain ⟨EL2, EG2⟩ := List.getElem?_eq_some_iff.1 E2
  simp only [ratV, formV] at K3
  have K4 := r_sign (p := r7) B4a
  unfold Leave
  simp +decide [fHo_h5, loopsOf, Tryz.f45, fHo_o5a, fHo_C5, C1, C1_, EL2, EG2, E2, K3, K4, C5]
theorem fHo_x5_2 (C1 : ¬ (i_5 : Int) < (r.length : Int)) :
    Leave 0 (exec Tryz.prog (tab (n + 5)) 0 41 (livesOf 45) big fHo_C5) (livesOf 45 (outOf 5)) (fHo_h5 a1 r i_5) (.exit 0) (fHo_o5b ) := by
  have C1_ : ¬ i_5 < r.length := by omega
  unfold Leave
  simp +decide [fHo_h5, loopsOf, Tryz.f45, fHo_o5b, fHo_C5, C1, C1_]
theorem fHo_f2 (K1 : run (n + 4) 39 [claimV a0, .lit (.int .i64 (a1.length : Int))] = some (.tup [.sl 4 (r.map formC), .lit (.int .i64 r2)])) (C2 : r2 = 0) (L3 : loopG Tryz.prog (tab (n + 5)) 0 41 (livesOf 45) 5 fHo_C5 (fHo_h5 a1 r 0) = some (.ret, fHo_o5a i_5)) :
    run (n + 5) 45 [claimV a0, .sl 3 (a1.map rawC)] = some (.tup [.lit (.int .i64 (i_5 : Int)), .lit (.bool false), .lit (.int .i64 0)]) := by
  simp only [claimV] at K1
  have C2_ : (r2 == 0) = true := by rw [C2]; simp
  have C2_n : (r2 != 0) = false := by rw [C2]; simp
  unfold run fnP
  simp +decide [Tryz.f45, K1, C2_, C2_n]
  rw [loopX_G (C' := fHo_C5) (e := (fHo_h5 a1 r 0)) ?_ ?_, L3]
  rotate_left
  · kernel_rfl
  · simp +decide [fHo_h5, K1, C2_, C2_n]
  simp +decide [fHo_o5a, K1, C2_, C2_n]
theorem fHo_f3 (K1 : run (n + 4) 39 [claimV a0, .lit (.int .i64 (a1.length : Int))] = some (.tup [.sl 4 (r.map formC), .lit (.int .i64 r2)])) (C2 : r2 = 0) (L3 : loopG Tryz.prog (tab (n + 5)) 0 41 (livesOf 45) 5 fHo_C5 (fHo_h5 a1 r 0) = some (.exit 0, fHo_o5b )) :
    run (n + 5) 45 [claimV a0, .sl 3 (a1.map rawC)] = some (.tup [.lit (.int .i64 0), .lit (.bool true), .lit (.int .i64 0)]) := by
  simp only [claimV] at K1
  have C2_ : (r2 == 0) = true := by rw [C2]; simp
  have C2_n : (r2 != 0) = false := by rw [C2]; simp
  unfold run fnP
  simp +decide [Tryz.f45, K1, C2_, C2_n]
  rw [loopX_G (C' := fHo_C5) (e := (fHo_h5 a1 r 0)) ?_ ?_, L3]
  rotate_left
  · kernel_rfl
  · simp +decide [fHo_h5, K1, C2_, C2_n]
  simp +decide [fHo_o5b, K1, C2_, C2_n]
end
end Go.Proofs.YtjpoanaoaeaneaaGreatDoor
set_option linter.all false
set_option maxRecDepth 100000
set_option maxHeartbeats 6400000
namespace Go.Proofs.YtjpoanaoaeaneaaGreatDoor
open Go.RowKit
theorem cHoR_f1 {n : Nat} {a0 : TClaimR} {a1 : List Raw} {r : List Form} {r2 : Int} (K1 : run (n + 5) 37 [claimRV a0, .lit (.int .i64 (a1.length : Int))] = some (.tup [.sl 4 (r.map formC), .lit (.int .i64 r2)])) (C2 : ¬ r2 = 0) :
    run (n + 6) 44 [claimRV a0, .sl 3 (a1.map rawC)] = some (.tup [.lit (.int .i64 0), .lit (.bool false), .lit (.int .i64 r2)]) := by
  simp only [claimRV] at K1
  have C2_ : (r2 == 0) = false := by simpa using C2
  have C2_n : (r2 != 0) = true := by simpa using C2
  unfold run fnP
  simp +decide [Tryz.f44, K1, C2_, C2_n]
theorem fHoR_f1 {n : Nat} {a0 : TClaimR} {a1 : List Raw} {r : List Form} {r2 : Int} (K1 : run (n + 4) 39 [claimRV a0, .lit (.int .i64 (a1.length : Int))] = some (.tup [.sl 4 (r.map formC), .lit (.int .i64 r2)])) (C2 : ¬ r2 = 0) :
    run (n + 5) 45 [claimRV a0, .sl 3 (a1.map rawC)] = some (.tup [.lit (.int .i64 0), .lit (.bool false), .lit (.int .i64 r2)]) := by
  simp only [claimRV] at K1
  have C2_ : (r2 == 0) = false := by simpa using C2
  have C2_n : (r2 != 0) = true := by simpa using C2
  unfold run fnP
  simp +decide [Tryz.f45, K1, C2_, C2_n]
end Go.Proofs.YtjpoanaoaeaneaaGreatDoor
set_option linter.all false
set_option maxRecDepth 100000
set_option maxHeartbeats 6400000
namespace Go.Proofs.YtjpoanaoaeaneaaGreatDoor
open Go.RowKit
attribute [local irreducible] run runL loopG exec
open Classical in
noncomputable def evQ (X : List Rat) (f : Form) : Rat := if InR X.length f.1 then f.2 + evS X f.1 else 0
open Classical in
noncomputable def evE (X : List Rat) (f : Form) : Int := if InR X.length f.1 then 0 else 2
theorem evR_eq (X : List Rat) (f : Form) : evR X f = .tup [ratV (evQ X f), .lit (.int .i64 (evE X f))] := by
  unfold evQ evE
  by_cases h : InR X.length f.1
  · rw [if_pos h, if_pos h]; exact (evR_in h).1
  · rw [if_neg h, if_neg h]; exact evR_out h
structure PtR (xs : List Raw) : Prop where
  l : xs.length ≤ 6
  t : ∀ r ∈ xs, Two r ∧ LimR2 r
theorem raw_H {c : Raw} (h : Two c) (hl : LimR2 c) : H c.q ≤ 2 := by
  have a1 := lmb_len_val hl.1
  have a2 : (lmb (dn c.l2)).length ≤ 2 := by
    unfold dn
    split
    · rw [lmb_one]; simp
    · have := lmb_len_val hl.2; have := h.2; omega
  have h9 := H_mk (sgi c.s (val c.l1)) (D := dn c.l2) (dn_pos _)
  rw [sgi_natAbs] at h9
  have := h.1
  show H (sv c.s c.l1 c.l2) ≤ 2
  unfold sv
  omega
theorem PtR.h {xs : List Raw} (h : PtR xs) : ∀ q ∈ xs.map Raw.q, H q ≤ 2 := fun q hq => by
  obtain ⟨r, hr, rfl⟩ := List.mem_map.1 hq
  exact raw_H (h.t r hr).1 (h.t r hr).2
theorem PtR.b {xs : List Raw} (h : PtR xs) : ∀ r ∈ xs, RawB r := fun r hr => (h.t r hr).1.rb (h.t r hr).2
theorem ev_both {n : Nat} {f : Form} {xs : List Raw} {m k : Nat} (hp : PtR xs) (hf : SB m k f) (hm : m ≤ 1000) (hk : k ≤ 1000) :
    run n 109 [formV f, .sl 3 (xs.map rawC)] = some (.tup [ratV (evQ (xs.map Raw.q) f), .lit (.int .i64 (evE (xs.map Raw.q) f))]) ∧ run n 59 [formV f, .sl 3 (xs.map rawC)] = some (.tup [ratV (evQ (xs.map Raw.q) f), .lit (.int .i64 (evE (xs.map Raw.q) f))]) ∧ H (evQ (xs.map Raw.q) f) ≤ m + k * (m + 3) + 1 := by
  have h1 := hf.k
  have h2 := hf.l
  have h3 := hp.l
  have hX : (xs.map Raw.q).length ≤ 100000000 := by rw [List.length_map]; omega
  have hmul : f.1.length * (m + 2 + 1) ≤ k * (m + 2 + 1) := Nat.mul_le_mul_right _ h2
  have hmul2 : k * (m + 2 + 1) ≤ 1000 * 1003 := Nat.mul_le_mul hk (by omega)
  have A := pevX_c (n := n) (f := f) (X := xs.map Raw.q) (xs := xs) (a := m) (b := 2) (k := m) rfl hp.b (fun t ht => (hf.t t ht).2) hp.h h1 hX (by omega) (by omega) (by omega)
  obtain ⟨B, C⟩ := evalX_c (n := n) (f := f) (X := xs.map Raw.q) (xs := xs) (a := m) (b := 2) (k := m) rfl hp.b (fun t ht => (hf.t t ht).2) hp.h h1 hX (by omega) (by omega) (by omega)
  rw [evR_eq] at A B
  refine ⟨A, B, ?_⟩
  have e3 : m + 2 + 1 = m + 3 := by omega
  rw [e3] at hmul C
  unfold evQ
  by_cases h : InR (xs.map Raw.q).length f.1
  · rw [if_pos h]
    have := C _ (evR_in h).2
    omega
  · rw [if_neg h]
    have : H 0 ≤ 1 := by decide
    omega
def NegF (X : List Rat) (f : Form) : Prop := sgR (evQ X f) < 0
def HoQ (X : List Rat) (L : List Form) (i : Int) (ok : Bool) : Prop :=
  (ok = true ∧ i = 0 ∧ ∀ f ∈ L, ¬ NegF X f) ∨ (ok = false ∧ ∃ k : Nat, i = (k : Int) ∧ (∃ f, L[k]? = some f ∧ NegF X f) ∧ ∀ j g, j < k → L[j]? = some g → ¬ NegF X g)
theorem HoQ.uniq {X : List Rat} {L : List Form} {i k : Int} {a b : Bool} (h1 : HoQ X L i a) (h2 : HoQ X L k b) : i = k ∧ a = b := by
  rcases h1 with ⟨rfl, rfl, h1⟩ | ⟨rfl, u, rfl, ⟨f, hf, hn⟩, h1⟩ <;> rcases h2 with ⟨rfl, rfl, h2⟩ | ⟨rfl, v, rfl, ⟨g, hg, hm⟩, h2⟩
  · exact ⟨rfl, rfl⟩
  · exact absurd hm (h1 g (List.mem_of_getElem? hg))
  · exact absurd hn (h2 f (List.mem_of_getElem? hf))
  · refine ⟨?_, rfl⟩
    rcases Nat.lt_trichotomy u v with h | h | h
    · exact absurd hn (h2 u f h hf)
    · rw [h]
    · exact absurd hm (h1 v g h hg)
section
variable {n : Nat} {c : TClaim} {z : Int} {xs : List Raw}
theorem cholds_c (h : SmC c z) (hz : z = (xs.length : Int)) (hp : PtR xs) (hV : run (n + 4) 40 [claimV c, .lit (.int .i64 z)] = some (.lit (.bool true))) :
    ∃ i ok, run (n + 6) 44 [claimV c, .sl 3 (xs.map rawC)] = some (.tup [.lit (.int .i64 i), .lit (.bool ok), .lit (.int .i64 0)]) ∧ HoQ (xs.map Raw.q) (goalsF c z) i ok := by
  have G := cgoals_c (n := n) h hV
  rw [hz] at G
  have hl := goals_len h
  rw [hz] at hl ⊢
  have hsb := goals_sb h
  rw [hz] at hsb
  obtain ⟨ex, t, h1, h2⟩ := loopG_Q (β := Unit) (P := Tryz.prog) (O := tab (n + 6)) (m := 0) (N := 41) (lives := livesOf 44) (r := 5) (C := cHo_C5) (M := (goalsF c (xs.length : Int)).length) (enc := fun i _ => cHo_h5 xs (goalsF c (xs.length : Int)) i)
    (fun i _ => ∀ j g, j < i → (goalsF c (xs.length : Int))[j]? = some g → ¬ NegF (xs.map Raw.q) g)
    (fun ex t => (ex = .exit 0 ∧ t = cHo_o5b ∧ ∀ f ∈ goalsF c (xs.length : Int), ¬ NegF (xs.map Raw.q) f) ∨ (ex = .ret ∧ ∃ i : Nat, t = cHo_o5a i ∧ (∃ f, (goalsF c (xs.length : Int))[i]? = some f ∧ NegF (xs.map Raw.q) f) ∧ ∀ j g, j < i → (goalsF c (xs.length : Int))[j]? = some g → ¬ NegF (xs.map Raw.q) g)) () (fun j f hj => by omega) (by omega)
    (fun i b hi hI => by
      have hx : (goalsF c (xs.length : Int))[i]? = some (goalsF c (xs.length : Int))[i] := List.getElem?_eq_getElem hi
      generalize (goalsF c (xs.length : Int))[i] = f at hx
      have hm := List.mem_of_getElem? hx
      obtain ⟨K, _, hB⟩ := ev_both (n := n + 5) hp (hsb f hm) (by omega) (by omega)
      obtain ⟨F, q⟩ := f
      by_cases hn : NegF (xs.map Raw.q) (F, q)
      · exact .inr ⟨_, _, by simp, cHo_x5_1 (by omega) hx K (by omega) hn, .inr ⟨rfl, i, rfl, ⟨_, hx, hn⟩, hI⟩⟩
      · refine .inl ⟨(), cHo_r5_1 (by omega) hx K (by omega) hn ⟨by omega, by omega⟩, fun j g hj hg => ?_⟩
        rcases Nat.lt_succ_iff_lt_or_eq.1 hj with h2 | rfl
        · exact hI j g h2 hg
        · rw [hx] at hg; cases hg; exact hn)
    (fun b hI => ⟨_, _, by simp, cHo_x5_2 (by omega), .inl ⟨rfl, rfl, fun f hf => by
      obtain ⟨j, hj⟩ := List.mem_iff_getElem?.1 hf
      exact hI j f (List.getElem?_eq_some_iff.1 hj).1 hj⟩⟩)
  rcases h2 with ⟨rfl, rfl, h3⟩ | ⟨rfl, i, rfl, h3, h4⟩
  · exact ⟨0, true, cHo_f3 G rfl h1, .inl ⟨rfl, rfl, h3⟩⟩
  · exact ⟨(i : Int), false, cHo_f2 G rfl h1, .inr ⟨rfl, i, rfl, h3, h4⟩⟩
theorem fholds_c (h : SmC c z) (hz : z = (xs.length : Int)) (hp : PtR xs) (hV : run (n + 3) 41 [claimV c, .lit (.int .i64 z)] = some (.lit (.bool true))) :
    ∃ i ok, run (n + 5) 45 [claimV c, .sl 3 (xs.map rawC)] = some (.tup [.lit (.int .i64 i), .lit (.bool ok), .lit (.int .i64 0)]) ∧ HoQ (xs.map Raw.q) (goalsF c z) i ok := by
  have G := fgoals_c (n := n) h hV
  rw [hz] at G
  have hl := goals_len h
  rw [hz] at hl ⊢
  have hsb := goals_sb h
  rw [hz] at hsb
  obtain ⟨ex, t, h1, h2⟩ := loopG_Q (β := Unit) (P := Tryz.prog) (O := tab (n + 5)) (m := 0) (N := 41) (lives := livesOf 45) (r := 5) (C := fHo_C5) (M := (goalsF c (xs.length : Int)).length) (enc := fun i _ => fHo_h5 xs (goalsF c (xs.length : Int)) i)
    (fun i _ => ∀ j g, j < i → (goalsF c (xs.length : Int))[j]? = some g → ¬ NegF (xs.map Raw.q) g)
    (fun ex t => (ex = .exit 0 ∧ t = fHo_o5b ∧ ∀ f ∈ goalsF c (xs.length : Int), ¬ NegF (xs.map Raw.q) f) ∨ (ex = .ret ∧ ∃ i : Nat, t = fHo_o5a i ∧ (∃ f, (goalsF c (xs.length : Int))[i]? = some f ∧ NegF (xs.map Raw.q) f) ∧ ∀ j g, j < i → (goalsF c (xs.length : Int))[j]? = some g → ¬ NegF (xs.map Raw.q) g)) () (fun j f hj => by omega) (by omega)
    (fun i b hi hI => by
      have hx : (goalsF c (xs.length : Int))[i]? = some (goalsF c (xs.length : Int))[i] := List.getElem?_eq_getElem hi
      generalize (goalsF c (xs.length : Int))[i] = f at hx
      have hm := List.mem_of_getElem? hx
      obtain ⟨_, K, hB⟩ := ev_both (n := n + 4) hp (hsb f hm) (by omega) (by omega)
      obtain ⟨F, q⟩ := f
      by_cases hn : NegF (xs.map Raw.q) (F, q)
      · exact .inr ⟨_, _, by simp, fHo_x5_1 (by omega) hx K (by omega) hn, .inr ⟨rfl, i, rfl, ⟨_, hx, hn⟩, hI⟩⟩
      · refine .inl ⟨(), fHo_r5_1 (by omega) hx K (by omega) hn ⟨by omega, by omega⟩, fun j g hj hg => ?_⟩
        rcases Nat.lt_succ_iff_lt_or_eq.1 hj with h2 | rfl
        · exact hI j g h2 hg
        · rw [hx] at hg; cases hg; exact hn)
    (fun b hI => ⟨_, _, by simp, fHo_x5_2 (by omega), .inl ⟨rfl, rfl, fun f hf => by
      obtain ⟨j, hj⟩ := List.mem_iff_getElem?.1 hf
      exact hI j f (List.getElem?_eq_some_iff.1 hj).1 hj⟩⟩)
  rcases h2 with ⟨rfl, rfl, h3⟩ | ⟨rfl, i, rfl, h3, h4⟩
  · exact ⟨0, true, fHo_f3 G rfl h1, .inl ⟨rfl, rfl, h3⟩⟩
  · exact ⟨(i : Int), false, fHo_f2 G rfl h1, .inr ⟨rfl, i, rfl, h3, h4⟩⟩
end
theorem holdsG {c : TClaimR} {xs : List Raw} (hg : Good c) (hH : Cn c.Margin → H c.Margin.q ≤ 8) (hp : PtR xs) : ∃ i ok e,
    (∀ n, run (n + 6) 44 [claimRV c, .sl 3 (xs.map rawC)] = some (.tup [.lit (.int .i64 i), .lit (.bool ok), .lit (.int .i64 e)])) ∧ (∀ n, run (n + 5) 45 [claimRV c, .sl 3 (xs.map rawC)] = some (.tup [.lit (.int .i64 i), .lit (.bool ok), .lit (.int .i64 e)])) ∧
    ((OkClR c (xs.length : Int) ∧ e = 0 ∧ SmC (unC c) (xs.length : Int) ∧ HoQ (xs.map Raw.q) (goalsF (unC c) (xs.length : Int)) i ok) ∨ (¬ OkClR c (xs.length : Int) ∧ e = 1)) := by
  by_cases ho : OkClR c (xs.length : Int)
  · obtain ⟨e, hs⟩ := claim_canonG hg (hH ho.m) ho
    have V1 : ∀ n, run (n + 4) 40 [claimV (unC c), .lit (.int .i64 (xs.length : Int))] = some (.lit (.bool true)) := fun n => by
      have := cvalidG (n := n) (z := (xs.length : Int)) hg
      rwa [tv_t ho, e] at this
    have W1 : ∀ n, run (n + 3) 41 [claimV (unC c), .lit (.int .i64 (xs.length : Int))] = some (.lit (.bool true)) := fun n => by
      have := fvalidG (n := n + 1) (z := (xs.length : Int)) hg
      rwa [tv_t ho, e] at this
    obtain ⟨i, ok, _, hq⟩ := cholds_c (n := 0) hs rfl hp (V1 0)
    refine ⟨i, ok, 0, fun n => ?_, fun n => ?_, .inl ⟨ho, rfl, hs, hq⟩⟩
    · obtain ⟨i', ok', h1, h2⟩ := cholds_c (n := n) hs rfl hp (V1 n)
      obtain ⟨rfl, rfl⟩ := h2.uniq hq
      rw [e]; exact h1
    · obtain ⟨i', ok', h1, h2⟩ := fholds_c (n := n) hs rfl hp (W1 n)
      obtain ⟨rfl, rfl⟩ := h2.uniq hq
      rw [e]; exact h1
  · refine ⟨0, false, 1, fun n => ?_, fun n => ?_, .inr ⟨ho, rfl⟩⟩
    · have V := cvalidG (n := n) (z := (xs.length : Int)) hg
      rw [tv_f ho] at V
      exact cHoR_f1 (r := ([] : List Form)) (cGoR_f1 (n := n) V rfl) (by omega)
    · have W := fvalidG (n := n + 1) (z := (xs.length : Int)) hg
      rw [tv_f ho] at W
      exact fHoR_f1 (r := ([] : List Form)) (fGoR_f1 (n := n) W rfl) (by omega)
end Go.Proofs.YtjpoanaoaeaneaaGreatDoor
