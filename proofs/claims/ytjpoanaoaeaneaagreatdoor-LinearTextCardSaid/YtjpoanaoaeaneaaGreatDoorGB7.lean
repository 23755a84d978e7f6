import Derived.Test.YtjpoanaoaeaneaaGreatDoorGB5
import Derived.Test.YtjpoanaoaeaneaaGreatDoorGB6
set_option linter.all false
set_option maxRecDepth 100000
set_option maxHeartbeats 6400000
namespace Go.Proofs.YtjpoanaoaeaneaaGreatDoor
open Go.RowKit
noncomputable def va_C2 : Code := (loopsOf (bodyOf Tryz.f17)).getD 0 .skip
def va_h2 (a0 : Form) (a1 : Int) (i_2 : Nat) : St :=
  ⟨[(1, .lit (.int .i64 a1)), (2, .ptr 0 0), (5, .lit (.int .i64 (i_2 : Int)))],
   [(0, some (.box 28 [.sl 4 (a0.1.map termC), .lit (.bool (rawQ a0.2).s), natA (rawQ a0.2).l1, natA (rawQ a0.2).l2] false))], 1⟩
def va_o2a (a0 : Form) : St :=
  ⟨[(2, .ptr 0 0), (4, .lit (.bool false))],
   [(0, some (.box 28 [.sl 4 (a0.1.map termC), .lit (.bool (rawQ a0.2).s), natA (rawQ a0.2).l1, natA (rawQ a0.2).l2] false))], 1⟩
def va_o2b (a0 : Form) : St :=
  ⟨[(2, .ptr 0 0), (4, .any)],
   [(0, some (.box 28 [.sl 4 (a0.1.map termC), .lit (.bool (rawQ a0.2).s), natA (rawQ a0.2).l1, natA (rawQ a0.2).l2] false))], 1⟩
section
variable {v4 : Int} {v5 : Int} {a0 : Form} {q5 : Rat} {q4 : Rat} {a1 : Int} {n : Nat} {i_2 : Nat}
theorem va_r2_1 (C1 : (i_2 : Int) < (a0.1.length : Int)) (E2 : a0.1[i_2]? = some (v4, q4)) (C3 : ¬ v4 < 0) (C4 : ¬ a1 ≤ v4) (C5 : 0 < (i_2 : Int)) (W6 : InI ((i_2 : Int) - 1)) (E7 : a0.1[i_2 - 1]? = some (v5, q5)) (Z7 : 1 ≤ i_2) (C8 : ¬ v4 ≤ v5) (B9a : H q4 ≤ 17179869184) (C10 : ¬ sgR q4 = 0) (W12 : InI ((i_2 : Int) + 1)) :
    Cont 0 (exec Tryz.prog (tab n) 0 59 (livesOf 17) big va_C2) (livesOf 17 2) (va_h2 a0 a1 i_2) (va_h2 a0 a1 (i_2 + 1)) := by
  have C1_ : i_2 < a0.1.length := by omega
  obtain ⟨EL2, EG2⟩ := List.getElem?_eq_some_iff.1 E2
  have C5_ : 0 < i_2 := by omega
  have C5_z : (i_2 : Int) ≠ 0 := by omega
  have C5_e : ((i_2 : Int) == 0) = false := by simpa using C5_z
  have C5_g : ((i_2 : Int) != 0) = true := by simpa using C5_z
  have W6_ : IntKind.i64.wrap ((i_2 : Int) - 1) = (i_2 : Int) - 1 := wr64 W6.1 W6.2
  obtain ⟨EL7, EG7⟩ := List.getElem?_eq_some_iff.1 E7
  have Z7_0 : (1 : Int) ≤ (i_2 : Int) := by omega
  have Z7_1 : 0 ≤ (i_2 : Int) - 1 := by omega
  have K9 := r_sign (p := q4) B9a
  have C10_ : (sgR q4 == 0) = false := by simpa using C10
  have C10_n : (sgR q4 != 0) = true := by simpa using C10
  have K11 := r_valid (p := q4) B9a
  have W12_ : IntKind.i64.wrap ((i_2 : Int) + 1) = (i_2 : Int) + 1 := wr64 W12.1 W12.2
  unfold Cont
  simp +decide [va_h2, loopsOf, Tryz.f17, va_C2, C1, C1_, EL2, EG2, E2, C3, C4, C5, C5_, C5_e, C5_g, W6_, EL7, EG7, E7, Z7, Z7_0, Z7_1, C8, K9, C10_, C10_n, K11, W12_]
theorem va_r2_2 (C1 : (i_2 : Int) < (a0.1.length : Int)) (E2 : a0.1[i_2]? = some (v4, q4)) (C3 : ¬ v4 < 0) (C4 : ¬ a1 ≤ v4) (C5 : ¬ 0 < (i_2 : Int)) (B6a : H q4 ≤ 17179869184) (C7 : ¬ sgR q4 = 0) (W9 : InI ((i_2 : Int) + 1)) :
    Cont 0 (exec Tryz.prog (tab n) 0 59 (livesOf 17) big va_C2) (livesOf 17 2) (va_h2 a0 a1 i_2) (va_h2 a0 a1 (i_2 + 1)) := by
  have C1_ : i_2 < a0.1.length := by omega
  obtain ⟨EL2, EG2⟩ := List.getElem?_eq_some_iff.1 E2
  have C5_ : ¬ 0 < i_2 := by omega
  have C5_z : (i_2 : Int) = 0 := by omega
  have C5_e : ((i_2 : Int) == 0) = true := by rw [C5_z]; simp
  have C5_g : ((i_2 : Int) != 0) = false := by rw [C5_z]; simp
  have K6 := r_sign (p := q4) B6a
  have C7_ : (sgR q4 == 0) = false := by simpa using C7
  have C7_n : (sgR q4 != 0) = true := by simpa using C7
  have K8 := r_valid (p := q4) B6a
  have W9_ : IntKind.i64.wrap ((i_2 : Int) + 1) = (i_2 : Int) + 1 := wr64 W9.1 W9.2
  unfold Cont
  simp +decide [va_h2, loopsOf, Tryz.f17, va_C2, C1, C1_, EL2, EG2, E2, C3, C4, C5, C5_, C5_e, C5_g, K6, C7_, C7_n, K8, W9_]
theorem va_x2_1 (C1 : (i_2 : Int) < (a0.1.length : Int)) (E2 : a0.1[i_2]? = some (v4, q4)) (C3 : v4 < 0) :
    Leave 0 (exec Tryz.prog (tab n) 0 59 (livesOf 17) big va_C2) (livesOf 17 (outOf 2)) (va_h2 a0 a1 i_2) (.ret) (va_o2a a0) := by
  have C1_ : i_2 < a0.1.length := by omega
  obtain ⟨EL2, EG2⟩ := List.getElem?_eq_some_iff.1 E2
  unfold Leave
  simp +decide [va_h2, loopsOf, Tryz.f17, va_o2a, va_C2, C1, C1_, EL2, EG2, E2, C3]
theorem va_x2_2 (C1 : (i_2 : Int) < (a0.1.length : Int)) (E2 : a0.1[i_2]? = some (v4, q4)) (C3 : ¬ v4 < 0) (C4 : a1 ≤ v4) :
    Leave 0 (exec Tryz.prog (tab n) 0 59 (livesOf 17) big va_C2) (livesOf 17 (outOf 2)) (va_h2 a0 a1 i_2) (.ret) (va_o2a a0) := by
  have C1_ : i_2 < a0.1.length := by omega
  obtain ⟨EL2, EG2⟩ := List.getElem?_eq_some_iff.1 E2
  unfold Leave
  simp +decide [va_h2, loopsOf, Tryz.f17, va_o2a, va_C2, C1, C1_, EL2, EG2, E2, C3, C4]
theorem va_x2_3 (C1 : (i_2 : Int) < (a0.1.length : Int)) (E2 : a0.1[i_2]? = some (v4, q4)) (C3 : ¬ v4 < 0) (C4 : ¬ a1 ≤ v4) (C5 : 0 < (i_2 : Int)) (W6 : InI ((i_2 : Int) - 1)) (E7 : a0.1[i_2 - 1]? = some (v5, q5)) (Z7 : 1 ≤ i_2) (C8 : v4 ≤ v5) :
    Leave 0 (exec Tryz.prog (tab n) 0 59 (livesOf 17) big va_C2) (livesOf 17 (outOf 2)) (va_h2 a0 a1 i_2) (.ret) (va_o2a a0) := by
  have C1_ : i_2 < a0.1.length := by omega
  obtain ⟨EL2, EG2⟩ := List.getElem?_eq_some_iff.1 E2
  have C5_ : 0 < i_2 := by omega
  have C5_z : (i_2 : Int) ≠ 0 := by omega
  have C5_e : ((i_2 : Int) == 0) = false := by simpa using C5_z
  have C5_g : ((i_2 : Int) != 0) = true := by simpa using C5_z
  have W6_ : IntKind.i64.wrap ((i_2 : Int) - 1) = (i_2 : Int) - 1 := wr64 W6.1 W6.2
  obtain ⟨EL7, EG7⟩ := List.getElem?_eq_some_iff.1 E7
  have Z7_0 : (1 : Int) ≤ (i_2 : Int) := by omega
  have Z7_1 : 0 ≤ (i_2 : Int) - 1 := by omega
  unfold Leave
  simp +decide [va_h2, loopsOf, Tryz.f17, va_o2a, va_C2, C1, C1_, EL2, EG2, E2, C3, C4, C5, C5_, C5_e, C5_g, W6_, EL7, EG7, E7, Z7, Z7_0, Z7_1, C8]
theorem va_x2_4 (C1 : (i_2 : Int) < (a0.1.length : Int)) (E2 : a0.1[i_2]? = some (v4, q4)) (C3 : ¬ v4 < 0) (C4 : ¬ a1 ≤ v4) (C5 : 0 < (i_2 : Int)) (W6 : InI ((i_2 : Int) - 1)) (E7 : a0.1[i_2 - 1]? = some (v5, q5)) (Z7 : 1 ≤ i_2) (C8 : ¬ v4 ≤ v5) (B9a : H q4 ≤ 17179869184) (C10 : sgR q4 = 0) :
    Leave 0 (exec Tryz.prog (tab n) 0 59 (livesOf 17) big va_C2) (livesOf 17 (outOf 2)) (va_h2 a0 a1 i_2) (.ret) (va_o2a a0) := by
  have C1_ : i_2 < a0.1.length := by omega
  obtain ⟨EL2, EG2⟩ := List.getElem?_eq_some_iff.1 E2
  have C5_ : 0 < i_2 := by omega
  have C5_z : (i_2 : Int) ≠ 0 := by omega
  have C5_e : ((i_2 : Int) == 0) = false := by simpa using C5_z
  have C5_g : ((i_2 : Int) != 0) = true := by simpa using C5_z
  have W6_ : IntKind.i64.wrap ((i_2 : Int) - 1) = (i_2 : Int) - 1 := wr64 W6.1 W6.2
  obtain ⟨EL7, EG7⟩ := List.getElem?_eq_some_iff.1 E7
  have Z7_0 : (1 : Int) ≤ (i_2 : Int) := by omega
  have Z7_1 : 0 ≤ (i_2 : Int) - 1 := by omega
  have K9 := r_sign (p := q4) B9a
  have C10_ : (sgR q4 == 0) = true := by rw [C10]; simp
  have C10_n : (sgR q4 != 0) = false := by rw [C10]; simp
  unfold Leave
  simp +decide [va_h2, loopsOf, Tryz.f17, va_o2a, va_C2, C1, C1_, EL2, EG2, E2, C3, C4, C5, C5_, C5_e, C5_g, W6_, EL7, EG7, E7, Z7, Z7_0, Z7_1, C8, K9, C10_, C10_n]
theorem va_x2_5 (C1 : (i_2 : Int) < (a0.1.length : Int)) (E2 : a0.1[i_2]? = some (v4, q4)) (C3 : ¬ v4 < 0) (C4 : ¬ a1 ≤ v4) (C5 : ¬ 0 < (i_2 : Int)) (B6a : H q4 ≤ 17179869184) (C7 : sgR q4 = 0) :
    Leave 0 (exec Tryz.prog (tab n) 0 59 (livesOf 17) big va_C2) (livesOf 17 (outOf 2)) (va_h2 a0 a1 i_2) (.ret) (va_o2a a0) := by
  have C1_ : i_2 < a0.1.length := by omega
  obtain ⟨EL2, EG2⟩ := List.getElem?_eq_some_iff.1 E2
  have C5_ : ¬ 0 < i_2 := by omega
  have C5_z : (i_2 : Int) = 0 := by omega
  have C5_e : ((i_2 : Int) == 0) = true := by rw [C5_z]; simp
  have C5_g : ((i_2 : Int) != 0) = false := by rw [C5_z]; simp
  have K6 := r_sign (p := q4) B6a
  have C7_ : (sgR q4 == 0) = true := by rw [C7]; simp
  have C7_n : (sgR q4 != 0) = false := by rw [C7]; simp
  unfold Leave
  simp +decide [va_h2, loopsOf, Tryz.f17, va_o2a, va_C2, C1, C1_, EL2, EG2, E2, C3, C4, C5, C5_, C5_e, C5_g, K6, C7_, C7_n]
theorem va_x2_6 (C1 : ¬ (i_2 : Int) < (a0.1.length : Int)) :
    Leave 0 (exec Tryz.prog (tab n) 0 59 (livesOf 17) big va_C2) (livesOf 17 (outOf 2)) (va_h2 a0 a1 i_2) (.exit 0) (va_o2b a0) := by
  have C1_ : ¬ i_2 < a0.1.length := by omega
  unfold Leave
  simp +decide [va_h2, loopsOf, Tryz.f17, va_o2b, va_C2, C1, C1_]
theorem va_f1 (L1 : loopG Tryz.prog (tab n) 0 59 (livesOf 17) 2 va_C2 (va_h2 a0 a1 0) = some (.ret, va_o2a a0)) :
    run n 17 [formV a0, .lit (.int .i64 a1)] = some (.lit (.bool false)) := by
  unfold run fnP
  simp +decide [Tryz.f17]
  rw [loopX_G (C' := va_C2) (e := (va_h2 a0 a1 0)) ?_ ?_, L1]
  rotate_left
  · kernel_rfl
  · simp +decide [va_h2]
  simp +decide [va_o2a]
theorem va_f2 (L1 : loopG Tryz.prog (tab n) 0 59 (livesOf 17) 2 va_C2 (va_h2 a0 a1 0) = some (.exit 0, va_o2b a0)) (B2a : H a0.2 ≤ 17179869184) :
    run n 17 [formV a0, .lit (.int .i64 a1)] = some (.lit (.bool true)) := by
  have K2 := r_valid (p := a0.2) B2a
  unfold run fnP
  simp +decide [Tryz.f17, K2]
  rw [loopX_G (C' := va_C2) (e := (va_h2 a0 a1 0)) ?_ ?_, L1]
  rotate_left
  · kernel_rfl
  · simp +decide [va_h2, K2]
  simp +decide [va_o2b, K2]
end
end Go.Proofs.YtjpoanaoaeaneaaGreatDoor
set_option linter.all false
set_option maxRecDepth 100000
set_option maxHeartbeats 6400000
namespace Go.Proofs.YtjpoanaoaeaneaaGreatDoor
open Go.RowKit
attribute [local irreducible] run runL loopG exec
noncomputable def tv (p : Prop) : Bool := @decide p (Classical.propDecidable p)
theorem tv_t {p : Prop} (h : p) : tv p = true := @decide_eq_true p (Classical.propDecidable p) h
theorem tv_f {p : Prop} (h : ¬ p) : tv p = false := @decide_eq_false p (Classical.propDecidable p) h
theorem tv_true {p : Prop} (h : tv p = true) : p := @of_decide_eq_true p (Classical.propDecidable p) h
theorem tv_false {p : Prop} (h : tv p = false) : ¬ p := @of_decide_eq_false p (Classical.propDecidable p) h
def OkTm (F : List (Int × Rat)) (vars : Int) (i : Nat) : Prop := ∀ v c, F[i]? = some (v, c) → 0 ≤ v ∧ v < vars ∧ c ≠ 0 ∧ ∀ v' c', 0 < i → F[i - 1]? = some (v', c') → v' < v
def OkFm (f : Form) (vars : Int) : Prop := ∀ i, i < f.1.length → OkTm f.1 vars i
structure BdF (b : Nat) (f : Form) : Prop where
  l : f.1.length ≤ 100000000
  t : ∀ t ∈ f.1, H t.2 ≤ b
  k : H f.2 ≤ b
theorem BdF.mono {b c : Nat} {f : Form} (h : BdF b f) (hb : b ≤ c) : BdF c f := ⟨h.l, fun t ht => Nat.le_trans (h.t t ht) hb, Nat.le_trans h.k hb⟩
theorem validF_c {n : Nat} {f : Form} {vars : Int} (hB : BdF 17179869184 f) : run n 17 [formV f, .lit (.int .i64 vars)] = some (.lit (.bool (tv (OkFm f vars)))) := by
  have hl := hB.l
  have L := loopG_all (O := tab n) (P := Tryz.prog) (m := 0) (N := 59) (lives := livesOf 17) (r := 2) (C := va_C2) (M := f.1.length) (enc := va_h2 f vars) (p := fun i => tv (OkTm f.1 vars i)) (exN := .exit 0) (exE := .ret) (out := va_o2b f) (outE := va_o2a f) (by omega) (by simp) (by simp)
    (fun i hi hI => by
      have hx : f.1[i]? = some f.1[i] := List.getElem?_eq_getElem hi
      generalize f.1[i] = t at hx
      obtain ⟨v, c⟩ := t
      have hc : H c ≤ 17179869184 := hB.t _ (List.mem_of_getElem? hx)
      have C1 : (i : Int) < (f.1.length : Int) := by omega
      have W : InI ((i : Int) + 1) := ⟨by omega, by omega⟩
      have W2 : InI ((i : Int) - 1) := ⟨by omega, by omega⟩
      have hs : sgR c = 0 ↔ c = 0 := sgR_eq_zero
      by_cases h0 : 0 < i
      · have hy : f.1[i - 1]? = some (f.1[i - 1]'(by omega)) := List.getElem?_eq_getElem _
        generalize f.1[i - 1]'(by omega) = t at hy
        obtain ⟨v', c'⟩ := t
        refine ⟨fun hp => ?_, fun hp => ?_⟩
        · obtain ⟨a1, a2, a3, a4⟩ := tv_true hp v c hx
          have a5 := a4 v' c' h0 hy
          exact va_r2_1 C1 hx (by omega) (by omega) (by omega) W2 hy (by omega) (by omega) hc (fun h => a3 (hs.1 h)) W
        · by_cases b1 : v < 0
          · exact va_x2_1 C1 hx b1
          · by_cases b2 : vars ≤ v
            · exact va_x2_2 C1 hx b1 b2
            · by_cases b3 : v ≤ v'
              · exact va_x2_3 C1 hx b1 b2 (by omega) W2 hy (by omega) b3
              · by_cases b4 : c = 0
                · exact va_x2_4 C1 hx b1 b2 (by omega) W2 hy (by omega) b3 hc (hs.2 b4)
                · refine absurd (fun u d hu => ?_) (tv_false hp)
                  rw [hx] at hu; cases hu
                  exact ⟨by omega, by omega, b4, fun v2 c2 _ h2 => by rw [hy] at h2; cases h2; omega⟩
      · refine ⟨fun hp => ?_, fun hp => ?_⟩
        · obtain ⟨a1, a2, a3, a4⟩ := tv_true hp v c hx
          exact va_r2_2 C1 hx (by omega) (by omega) (by omega) hc (fun h => a3 (hs.1 h)) W
        · by_cases b1 : v < 0
          · exact va_x2_1 C1 hx b1
          · by_cases b2 : vars ≤ v
            · exact va_x2_2 C1 hx b1 b2
            · by_cases b4 : c = 0
              · exact va_x2_5 C1 hx b1 b2 (by omega) hc (hs.2 b4)
              · refine absurd (fun u d hu => ?_) (tv_false hp)
                rw [hx] at hu; cases hu
                exact ⟨by omega, by omega, b4, fun v2 c2 h2 => absurd h2 h0⟩)
    (va_x2_6 (by omega))
  by_cases h : OkFm f vars
  · rw [if_pos (fun i hi => tv_t (h i hi))] at L
    rw [tv_t h]
    exact va_f2 L hB.k
  · rw [if_neg (fun h2 => h fun i hi => tv_true (h2 i hi))] at L
    rw [tv_f h]
    exact va_f1 L
end Go.Proofs.YtjpoanaoaeaneaaGreatDoor
set_option linter.all false
set_option maxRecDepth 100000
set_option maxHeartbeats 6400000
namespace Go.Proofs.YtjpoanaoaeaneaaGreatDoor
open Go.RowKit
noncomputable def ldc_C5 : Code := (loopsOf (bodyOf Tryz.f137)).getD 0 .skip
def ldc_h5 (nat_5 : List Nat) (r : List Nat) (out_5 : List ByteArray) : St :=
  ⟨[(0, natA nat_5), (3, natA r), (4, .own 0 out_5.length)],
   [(0, some (.row 9 1 (out_5.map strC) 0))], 1⟩
def ldc_o5a (out_5 : List ByteArray) : St :=
  ⟨[(4, .own 0 out_5.length)],
   [(0, some (.row 9 1 (out_5.map strC) 0))], 1⟩
section
variable {r16 : List Nat} {r19 : Int} {r : List Nat} {cat3 : ByteArray} {nat_5 : List Nat} {out_5 : List ByteArray} {r18 : Int} {r20 : Bool} {r22 : ByteArray} {n : Nat} {r17 : List Nat} {r21 : ByteArray} {a0 : List Nat} {r23 : ByteArray} {R : List ByteArray}
theorem ldc_r5_1 (C1 : 0 < (nat_5.length : Int)) (K2 : (oND fun x y => .tup [natA (lmb (val x / val y)), natA (lmb (val x % val y)), .lit (.int .i64 0)]) [natA nat_5, natA r] = some (.tup [natA r16, natA r17, .lit (.int .i64 r18)])) (K3 : (oN1 u64N fun x => .tup [.lit (.int .u64 (val x : Nat)), .lit (.bool true)]) [natA r17] = some (.tup [.lit (.int .u64 r19), .lit (.bool r20)])) (K4 : (oFU) [.lit (.int .u64 r19), .lit (.int .i64 10)] = some (.lit (.string r21))) (C5 : 0 < (r16.length : Int)) (W6 : InI (9 - (r21.size : Int))) (K7 : (oRepeat) [.lit (.string (⟨#[48]⟩ : ByteArray)), .lit (.int .i64 (9 - (r21.size : Int)))] = some (.lit (.string r22))) (S8 : r22.size + r21.size ≤ 9000000000000000000) (D8 : cat3 = r22 ++ r21) (M9 : out_5.length + 1 ≤ 100000000) :
    Cont 0 (exec Tryz.prog (tab (n + 5)) 0 50 (livesOf 137) big ldc_C5) (livesOf 137 5) (ldc_h5 nat_5 r out_5) (ldc_h5 r16 r (out_5 ++ [cat3])) := by
  have C1_ : 0 < nat_5.length := by omega
  have C1_z : (nat_5.length : Int) ≠ 0 := by omega
  have C1_e : ((nat_5.length : Int) == 0) = false := by simpa using C1_z
  have C1_g : ((nat_5.length : Int) != 0) = true := by simpa using C1_z
  have C5_ : 0 < r16.length := by omega
  have C5_z : (r16.length : Int) ≠ 0 := by omega
  have C5_e : ((r16.length : Int) == 0) = false := by simpa using C5_z
  have C5_g : ((r16.length : Int) != 0) = true := by simpa using C5_z
  have W6_ : IntKind.i64.wrap (9 - (r21.size : Int)) = 9 - (r21.size : Int) := wr64 W6.1 W6.2
  have S8_r := cat_r S8 D8
  have S8_q := cat_q S8 D8
  have M9_ : ∀ b, b ≤ 10000 → roomy (out_5.length + 1) b = true := fun b hb => roomy_s M9 hb
  unfold Cont
  simp +decide [ldc_h5, loopsOf, Tryz.f137, ldc_C5, C1, C1_, C1_e, C1_g, K2, K3, K4, C5, C5_, C5_e, C5_g, W6_, K7, ↓S8_r, S8_q, M9_]
theorem ldc_r5_2 (C1 : 0 < (nat_5.length : Int)) (K2 : (oND fun x y => .tup [natA (lmb (val x / val y)), natA (lmb (val x % val y)), .lit (.int .i64 0)]) [natA nat_5, natA r] = some (.tup [natA r16, natA r17, .lit (.int .i64 r18)])) (K3 : (oN1 u64N fun x => .tup [.lit (.int .u64 (val x : Nat)), .lit (.bool true)]) [natA r17] = some (.tup [.lit (.int .u64 r19), .lit (.bool r20)])) (K4 : (oFU) [.lit (.int .u64 r19), .lit (.int .i64 10)] = some (.lit (.string r21))) (C5 : ¬ 0 < (r16.length : Int)) (M6 : out_5.length + 1 ≤ 100000000) :
    Cont 0 (exec Tryz.prog (tab (n + 5)) 0 50 (livesOf 137) big ldc_C5) (livesOf 137 5) (ldc_h5 nat_5 r out_5) (ldc_h5 r16 r (out_5 ++ [r21])) := by
  have C1_ : 0 < nat_5.length := by omega
  have C1_z : (nat_5.length : Int) ≠ 0 := by omega
  have C1_e : ((nat_5.length : Int) == 0) = false := by simpa using C1_z
  have C1_g : ((nat_5.length : Int) != 0) = true := by simpa using C1_z
  have C5_ : ¬ 0 < r16.length := by omega
  have C5_z : (r16.length : Int) = 0 := by omega
  have C5_e : ((r16.length : Int) == 0) = true := by rw [C5_z]; simp
  have C5_g : ((r16.length : Int) != 0) = false := by rw [C5_z]; simp
  have M6_ : ∀ b, b ≤ 10000 → roomy (out_5.length + 1) b = true := fun b hb => roomy_s M6 hb
  unfold Cont
  simp +decide [ldc_h5, loopsOf, Tryz.f137, ldc_C5, C1, C1_, C1_e, C1_g, K2, K3, K4, C5, C5_, C5_e, C5_g, M6_]
theorem ldc_x5_1 (C1 : ¬ 0 < (nat_5.length : Int)) :
    Leave 0 (exec Tryz.prog (tab (n + 5)) 0 50 (livesOf 137) big ldc_C5) (livesOf 137 (outOf 5)) (ldc_h5 nat_5 r out_5) (.exit 0) (ldc_o5a out_5) := by
  have C1_ : ¬ 0 < nat_5.length := by omega
  have C1_z : (nat_5.length : Int) = 0 := by omega
  have C1_e : ((nat_5.length : Int) == 0) = true := by rw [C1_z]; simp
  have C1_g : ((nat_5.length : Int) != 0) = false := by rw [C1_z]; simp
  unfold Leave
  simp +decide [ldc_h5, loopsOf, Tryz.f137, ldc_o5a, ldc_C5, C1, C1_, C1_e, C1_g]
theorem ldc_f1 (C1 : (a0.length : Int) = 0) :
    run (n + 5) 137 [natA a0] = some (.lit (.string (⟨#[48]⟩ : ByteArray))) := by
  have C1_ : ((a0.length : Int) == 0) = true := by rw [C1]; simp
  have C1_n : ((a0.length : Int) != 0) = false := by rw [C1]; simp
  have C1_l : ¬ 0 < (a0.length : Int) := by omega
  unfold run fnP
  simp +decide [Tryz.f137, C1_, C1_n, C1_l]
theorem ldc_f2 (HR : R.length = out_5.length) (C1 : ¬ (a0.length : Int) = 0) (K2 : (oU fun k => natA (lmb k)) [.lit (.int .u64 1000000000)] = some (natA r)) (L3 : loopG Tryz.prog (tab (n + 5)) 0 50 (livesOf 137) 5 ldc_C5 (ldc_h5 a0 r []) = some (.exit 0, ldc_o5a out_5)) (K4 : runL (n + 4) 206 [.own 0 out_5.length] [.row 9 1 (out_5.map strC) 0] = some (.tup [], [(0, .row 9 1 (R.map strC) 0)])) (K5 : (oJoin) [.sl 1 (R.map strC), .lit (.string (⟨#[]⟩ : ByteArray))] = some (.lit (.string r23))) :
    run (n + 5) 137 [natA a0] = some (.lit (.string r23)) := by
  have C1_ : ((a0.length : Int) == 0) = false := by simpa using C1
  have C1_n : ((a0.length : Int) != 0) = true := by simpa using C1
  have C1_l : 0 < (a0.length : Int) := by omega
  unfold run fnP
  simp +decide [Tryz.f137, C1_, C1_n, C1_l, HR, K2, K4, K5]
  rw [loopX_G (C' := ldc_C5) (e := (ldc_h5 a0 r [])) ?_ ?_, L3]
  rotate_left
  · kernel_rfl
  · simp +decide [ldc_h5, C1_, C1_n, C1_l, HR, K2, K4, K5]
  simp +decide [ldc_o5a, C1_, C1_n, C1_l, HR, K2, K4, K5]
end
end Go.Proofs.YtjpoanaoaeaneaaGreatDoor
set_option linter.all false
set_option maxRecDepth 100000
set_option maxHeartbeats 6400000
namespace Go.Proofs.YtjpoanaoaeaneaaGreatDoor
open Go.RowKit
noncomputable def srv_C1 : Code := (loopsOf (bodyOf Tryz.f206)).getD 0 .skip
def srv_h1 (out_1 : List ByteArray) (i_1 : Nat) (i2_1 : Int) : St :=
  ⟨[(0, .own 0 out_1.length), (2, .lit (.int .i64 (i_1 : Int))), (3, .lit (.int .i64 i2_1))],
   [(0, some (.row 9 1 (out_1.map strC) 0))], 1⟩
def srv_o1a (out_1 : List ByteArray) : St :=
  ⟨[],
   [(0, some (.row 9 1 (out_1.map strC) 0))], 1⟩
section
variable {i2_1 : Int} {i_1 : Nat} {x5 : ByteArray} {n : Nat} {out_1 : List ByteArray} {x6 : ByteArray} {a0 : List ByteArray}
theorem srv_r1_1 (C1 : (i_1 : Int) < i2_1) (G2 : i2_1.toNat < out_1.length) (Z2 : 0 ≤ i2_1) (E3 : out_1[i2_1.toNat]? = some x5) (Z3 : 0 ≤ i2_1) (G4 : i_1 < out_1.length) (E5 : out_1[i_1]? = some x6) (W10 : InI ((i_1 : Int) + 1)) (W11 : InI (i2_1 - 1)) :
    Cont 1 (exec Tryz.prog (tab n) 1 28 (livesOf 206) big srv_C1) (livesOf 206 1) (srv_h1 out_1 i_1 i2_1) (srv_h1 ((out_1.set i_1 x5).set i2_1.toNat x6) (i_1 + 1) (i2_1 - 1)) := by
  obtain ⟨EL3, EG3⟩ := List.getElem?_eq_some_iff.1 E3
  obtain ⟨EL5, EG5⟩ := List.getElem?_eq_some_iff.1 E5
  have W10_ : IntKind.i64.wrap ((i_1 : Int) + 1) = (i_1 : Int) + 1 := wr64 W10.1 W10.2
  have W11_ : IntKind.i64.wrap (i2_1 - 1) = i2_1 - 1 := wr64 W11.1 W11.2
  unfold Cont
  simp +decide [srv_h1, loopsOf, Tryz.f206, srv_C1, C1, G2, Z2, EL3, EG3, E3, Z3, G4, EL5, EG5, E5, set_strC, -List.map_set, W10_, W11_]
theorem srv_x1_1 (C1 : ¬ (i_1 : Int) < i2_1) :
    Leave 1 (exec Tryz.prog (tab n) 1 28 (livesOf 206) big srv_C1) (livesOf 206 (outOf 1)) (srv_h1 out_1 i_1 i2_1) (.exit 0) (srv_o1a out_1) := by
  unfold Leave
  simp +decide [srv_h1, loopsOf, Tryz.f206, srv_o1a, srv_C1, C1]
theorem srv_f1 (W1 : InI ((a0.length : Int) - 1)) (L2 : loopG Tryz.prog (tab n) 1 28 (livesOf 206) 1 srv_C1 (srv_h1 a0 0 ((a0.length : Int) - 1)) = some (.exit 0, srv_o1a out_1)) :
    runL n 206 [.own 0 a0.length] [.row 9 1 (a0.map strC) 0] = some (.tup [], [(0, .row 9 1 (out_1.map strC) 0)]) := by
  have W1_ : IntKind.i64.wrap ((a0.length : Int) - 1) = (a0.length : Int) - 1 := wr64 W1.1 W1.2
  unfold runL fnL
  simp +decide [Tryz.f206, W1_]
  rw [loopX_G (C' := srv_C1) (e := (srv_h1 a0 0 ((a0.length : Int) - 1))) ?_ ?_, L2]
  rotate_left
  · kernel_rfl
  · simp +decide [srv_h1, W1_]
  simp +decide [srv_o1a, W1_]
end
end Go.Proofs.YtjpoanaoaeaneaaGreatDoor
set_option linter.all false
set_option maxRecDepth 100000
set_option maxHeartbeats 6400000
namespace Go.Proofs.YtjpoanaoaeaneaaGreatDoor
open Go.RowKit
open Lib (decDigits)
attribute [local irreducible] run runL loopG exec
theorem few_lmb {k : Nat} (h : (lmb k).length ≤ 1000000) : fewN (lmb k) = true := Nat.ble_eq_true_of_le (by omega)
theorem k_div {k m : Nat} (hk : (lmb k).length ≤ 1000000) (hm : (lmb m).length ≤ 1000000) (h0 : 0 < m) : (oND fun x y => .tup [natA (lmb (val x / val y)), natA (lmb (val x % val y)), .lit (.int .i64 0)]) [natA (lmb k), natA (lmb m)] = some (.tup [natA (lmb (k / m)), natA (lmb (k % m)), .lit (.int .i64 0)]) := by
  have hb : Nat.blt 0 m = true := Nat.ble_eq_true_of_le h0
  simp only [oND, decN_nat (lim_lmb _), few_lmb hk, few_lmb hm, val_lmb, hb, Bool.and_self, if_true]
theorem k_div10 {k : Nat} (hk : (lmb k).length ≤ 1000000) : (oND fun x y => .tup [natA (lmb (val x / val y)), natA (lmb (val x % val y)), .lit (.int .i64 0)]) [natA (lmb k), .sl 1 [[.lit (.int .u32 10)]]] = some (.tup [natA (lmb (k / 10)), natA (lmb (k % 10)), .lit (.int .i64 0)]) := by
  have e : AV.sl 1 [[.lit (.int .u32 10)]] = natA (lmb 10) := by
    have : lmb 10 = [10] := by decide +kernel
    rw [this]; rfl
  rw [e]
  exact k_div hk (by decide +kernel) (by omega)
theorem k_uint {k : Nat} (h : k < 18446744073709551616) : (oN1 u64N fun x => .tup [.lit (.int .u64 (val x : Nat)), .lit (.bool true)]) [natA (lmb k)] = some (.tup [.lit (.int .u64 (k : Int)), .lit (.bool true)]) := by
  have hl : (lmb k).length ≤ 2 := lmb_len_le (by simpa using h)
  have h64 : u64N (lmb k) = true := by
    unfold u64N
    rw [val_lmb]
    exact Nat.ble_eq_true_of_le h
  simp only [oN1, decN_nat (lim_lmb _), few_lmb (show (lmb k).length ≤ 1000000 by omega), h64, Bool.and_self, if_true, val_lmb]
theorem k_make {k : Nat} (hk : (lmb k).length ≤ 1000000) : (oN1 (fun _ => true) fun x => natA (lmb (val x))) [natA (lmb k)] = some (natA (lmb k)) := by
  simp only [oN1, decN_nat (lim_lmb _), few_lmb hk, Bool.and_self, if_true, val_lmb]
theorem k_ofu {z : Int} (h0 : 0 ≤ z) (h1 : z < 18446744073709551616) : (oU fun k => natA (lmb k)) [.lit (.int .u64 z)] = some (natA (lmb z.toNat)) := if_pos ⟨h0, h1⟩
theorem k_fu {d : Nat} (h : d < 18446744073709551616) : oFU [.lit (.int .u64 (d : Int)), .lit (.int .i64 10)] = some (.lit (.string (bs (decDigits d)))) := by
  have h1 : (0 : Int) ≤ (d : Int) ∧ (d : Int) < 18446744073709551616 := ⟨by omega, by omega⟩
  simp only [oFU]
  rw [if_pos h1, Int.toNat_natCast]
  rfl
theorem k_rep {l : List UInt8} (h : l.length ≤ 9) : oRepeat [.lit (.string (⟨#[48]⟩ : ByteArray)), .lit (.int .i64 (9 - ((bs l).size : Int)))] = some (.lit (.string (bs (List.replicate (9 - l.length) 48)))) := by
  have e : (9 - ((bs l).size : Int)).toNat = 9 - l.length := by rw [bs_size]; omega
  have e2 : (⟨#[48]⟩ : ByteArray).size = 1 := rfl
  unfold oRepeat
  dsimp only
  rw [if_pos ⟨by rw [bs_size]; omega, by rw [bs_size]; omega, by rw [e, e2]; omega⟩, e]
  rw [repL]
  rfl
theorem strsL_map (l : List ByteArray) : strsL (l.map strC) = some l := by
  induction l with
  | nil => rfl
  | cons a l ih => simp [strsL, ih]
theorem k_join {P : List (List UInt8)} (h1 : P.length ≤ 100000000) (h2 : P.flatten.length ≤ 100000000) : oJoin [.sl 1 ((P.map bs).map strC), .lit (.string (⟨#[]⟩ : ByteArray))] = some (.lit (.string (bs P.flatten))) := by
  have e : (P.map bs).map (fun (a : ByteArray) => a.data.toList) = P := by
    rw [List.map_map]
    conv => rhs; rw [← List.map_id P]
    apply List.map_congr_left
    intro x _
    exact bs_data x
  have e2 : (⟨#[]⟩ : ByteArray).data.toList = [] := rfl
  simp only [oJoin, strsL_map, e2, e, joinL]
  rw [if_pos ⟨by rw [List.length_map]; omega, by omega⟩]
  rfl
def rv (L : List ByteArray) (i : Nat) : List ByteArray := (List.range L.length).map fun t => if t < i ∨ L.length ≤ t + i then L.getD (L.length - 1 - t) ByteArray.empty else L.getD t ByteArray.empty
theorem rv_len (L : List ByteArray) (i : Nat) : (rv L i).length = L.length := by
  unfold rv
  rw [List.length_map, List.length_range]
theorem rv_get {L : List ByteArray} {i t : Nat} (ht : t < L.length) : (rv L i)[t]? = some (if t < i ∨ L.length ≤ t + i then L.getD (L.length - 1 - t) ByteArray.empty else L.getD t ByteArray.empty) := by
  unfold rv
  rw [List.getElem?_map, List.getElem?_range ht]
  rfl
theorem rv_zero (L : List ByteArray) : rv L 0 = L := by
  apply List.ext_getElem?
  intro t
  rcases Nat.lt_or_ge t L.length with ht | ht
  · rw [rv_get ht, if_neg (by omega), List.getD_eq_getElem?_getD, List.getElem?_eq_getElem ht]; rfl
  · rw [List.getElem?_eq_none (by rw [rv_len]; exact ht), List.getElem?_eq_none ht]
theorem rv_full {L : List ByteArray} {i : Nat} (h : L.length ≤ 2 * i + 1) : rv L i = L.reverse := by
  apply List.ext_getElem?
  intro t
  rcases Nat.lt_or_ge t L.length with ht | ht
  · have e : L.reverse[t]? = some (L.getD (L.length - 1 - t) ByteArray.empty) := by
      rw [List.getElem?_reverse ht, List.getD_eq_getElem?_getD, List.getElem?_eq_getElem (show L.length - 1 - t < L.length by omega)]; rfl
    rw [rv_get ht, e]
    split
    · rfl
    · rename_i h1
      have : L.length - 1 - t = t := by omega
      rw [this]
  · rw [List.getElem?_eq_none (by rw [rv_len]; exact ht), List.getElem?_eq_none (by rw [List.length_reverse]; exact ht)]
theorem rv_step {L : List ByteArray} {i : Nat} (h : i + i + 1 < L.length) : ((rv L i).set i (L.getD (L.length - 1 - i) ByteArray.empty)).set (L.length - 1 - i) (L.getD i ByteArray.empty) = rv L (i + 1) := by
  apply List.ext_getElem?
  intro t
  rcases Nat.lt_or_ge t L.length with ht | ht
  · rw [rv_get ht]
    by_cases h1 : t = L.length - 1 - i
    · subst h1
      rw [List.getElem?_set_self (by rw [List.length_set, rv_len]; exact ht), if_pos (.inr (by omega))]
      congr 2
      omega
    · rw [List.getElem?_set_ne (fun e => h1 e.symm)]
      by_cases h2 : t = i
      · subst h2
        rw [List.getElem?_set_self (by rw [rv_len]; exact ht), if_pos (.inl (by omega))]
      · rw [List.getElem?_set_ne (fun e => h2 e.symm), rv_get ht]
        by_cases h3 : t < i ∨ L.length ≤ t + i
        · rw [if_pos h3, if_pos (by omega)]
        · rw [if_neg h3, if_neg (by omega)]
  · rw [List.getElem?_eq_none (by rw [List.length_set, List.length_set, rv_len]; exact ht), List.getElem?_eq_none (by rw [rv_len]; exact ht)]
theorem srv_c {n : Nat} {L : List ByteArray} (hl : L.length ≤ 100000000) : runL n 206 [.own 0 L.length] [.row 9 1 (L.map strC) 0] = some (.tup [], [(0, .row 9 1 (L.reverse.map strC) 0)]) := by
  obtain ⟨b, hL, hI⟩ := loopG_R (O := tab n) (P := Tryz.prog) (m := 1) (N := 28) (lives := livesOf 206) (r := 1) (C := srv_C1) (exN := .exit 0) (M := L.length / 2) (enc := fun i (_ : Unit) => srv_h1 (rv L i) i ((L.length : Int) - 1 - (i : Int))) (out := fun _ => srv_o1a L.reverse)
    (fun i _ => i ≤ L.length / 2) () (by omega) (by omega) (fun h => by cases h)
    (fun i _ hi hI => by
      have e : ((L.length : Int) - 1 - (i : Int)).toNat = L.length - 1 - i := by omega
      have h1 : (rv L i)[((L.length : Int) - 1 - (i : Int)).toNat]? = some (L.getD (L.length - 1 - i) ByteArray.empty) := by
        rw [e, rv_get (by omega), if_neg (by omega)]
      have h2 : (rv L i)[i]? = some (L.getD i ByteArray.empty) := by rw [rv_get (by omega), if_neg (by omega)]
      have R := srv_r1_1 (n := n) (i_1 := i) (i2_1 := (L.length : Int) - 1 - (i : Int)) (out_1 := rv L i) (by omega) (by rw [rv_len]; omega) (by omega) h1 (by omega) (by rw [rv_len]; omega) h2 ⟨by omega, by omega⟩ ⟨by omega, by omega⟩
      rw [e, rv_step (by omega)] at R
      have e2 : (L.length : Int) - 1 - (i : Int) - 1 = (L.length : Int) - 1 - ((i + 1 : Nat) : Int) := by omega
      rw [e2] at R
      exact ⟨(), R, by omega⟩)
    (fun _ _ => by
      have R := srv_x1_1 (n := n) (i_1 := L.length / 2) (i2_1 := (L.length : Int) - 1 - ((L.length / 2 : Nat) : Int)) (out_1 := rv L (L.length / 2)) (by omega)
      have e : srv_o1a (rv L (L.length / 2)) = srv_o1a L.reverse := by rw [rv_full (by omega)]
      rw [e] at R
      exact R)
  rw [rv_zero] at hL
  have e : (L.length : Int) - 1 - ((0 : Nat) : Int) = (L.length : Int) - 1 := by omega
  rw [e] at hL
  exact srv_f1 ⟨by omega, by omega⟩ hL
theorem ldc_c {n K : Nat} (hK : (lmb K).length ≤ 100000) : run (n + 5) 137 [natA (lmb K)] = some (.lit (.string (bs (decDigits K)))) := by
  by_cases h0 : K = 0
  · subst h0
    have e : bs (decDigits 0) = (⟨#[48]⟩ : ByteArray) := by rw [dd_lt (by omega)]; rfl
    rw [e]
    exact ldc_f1 (by rw [lmb_zero]; rfl)
  have h9 : (lmb 1000000000).length ≤ 1000000 := by decide +kernel
  have hbits : K < 2 ^ (32 * (lmb K).length) := by
    have := val_lt (lim_lmb K)
    rw [val_lmb] at this
    rwa [Nat.pow_mul]
  have hM := rnd_le (32 * (lmb K).length) K
  have hdd := dd_bits _ K hbits
  obtain ⟨s, hL, hI⟩ := loopG_R (O := tab (n + 5)) (P := Tryz.prog) (m := 0) (N := 50) (lives := livesOf 137) (r := 5) (C := ldc_C5) (exN := .exit 0) (M := rnd (32 * (lmb K).length) K) (enc := fun i (s : Nat × List (List UInt8)) => ldc_h5 (lmb s.1) (lmb 1000000000) (s.2.map bs)) (out := fun s => ldc_o5a (s.2.map bs))
    (fun i s => s.1 ≤ K ∧ rnd (32 * (lmb K).length) s.1 + i = rnd (32 * (lmb K).length) K ∧ s.2.length = i ∧ dd0 s.1 ++ s.2.reverse.flatten = dd0 K) (K, []) ⟨Nat.le_refl _, rfl, rfl, by simp⟩ (by omega) (fun h => by cases h)
    (fun i s hi hI => by
      obtain ⟨k, parts⟩ := s
      obtain ⟨i1, i2, i3, i4⟩ := hI
      dsimp only at i1 i2 i3 i4 ⊢
      have hk0 : 0 < k := by
        rcases Nat.eq_zero_or_pos k with h | h
        · subst h; rw [rnd_zero] at i2; omega
        · exact h
      have hkl : (lmb k).length ≤ (lmb K).length := lmb_len_mono i1
      have hp : 0 < (lmb k).length := by rw [lmb_pos hk0]; simp
      have hlim : k < 2 ^ (32 * (lmb K).length) := Nat.lt_of_le_of_lt i1 hbits
      have hr : rnd (32 * (lmb K).length) k = rnd (32 * (lmb K).length) (k / 1000000000) + 1 := by
        obtain ⟨f, hf⟩ : ∃ f, 32 * (lmb K).length = f + 1 := ⟨32 * (lmb K).length - 1, by omega⟩
        rw [hf] at hlim ⊢
        rw [rnd, if_neg (by omega)]
        congr 1
        rw [Nat.pow_succ] at hlim
        exact rnd_enough f (f + 1) _ (by omega) (by rw [Nat.pow_succ]; omega)
      obtain ⟨d1, d2⟩ := dd0_step hk0
      have K2 := k_div (k := k) (m := 1000000000) (by omega) h9 (by omega)
      have hrm : k % 1000000000 < 18446744073709551616 := by omega
      have K3 := k_uint hrm
      have K4 := k_fu hrm
      by_cases hq : 0 < k / 1000000000
      · rw [if_pos hq] at d1
        have hql : 0 < (lmb (k / 1000000000)).length := by rw [lmb_pos hq]; simp
        refine ⟨(k / 1000000000, parts ++ [List.replicate (9 - (decDigits (k % 1000000000)).length) 48 ++ decDigits (k % 1000000000)]), ?_, Nat.le_trans (Nat.div_le_self _ _) i1, by dsimp only; omega, by simp [i3], ?_⟩
        · have R := ldc_r5_1 (n := n) (out_5 := parts.map bs) (by omega) K2 K3 K4 (by omega) ⟨by rw [bs_size]; omega, by rw [bs_size]; omega⟩ (k_rep d2) (by rw [bs_size, bs_size, List.length_replicate]; omega) (bs_app _ _).symm (by rw [List.length_map]; omega)
          have e : parts.map bs ++ [bs (List.replicate (9 - (decDigits (k % 1000000000)).length) 48 ++ decDigits (k % 1000000000))] = (parts ++ [List.replicate (9 - (decDigits (k % 1000000000)).length) 48 ++ decDigits (k % 1000000000)]).map bs := by simp
          rw [e] at R
          exact R
        · dsimp only
          rw [List.reverse_append, List.reverse_singleton, List.singleton_append, List.flatten_cons, ← List.append_assoc, ← d1]
          exact i4
      · rw [if_neg hq] at d1
        have hq0 : k / 1000000000 = 0 := by omega
        refine ⟨(k / 1000000000, parts ++ [decDigits (k % 1000000000)]), ?_, Nat.le_trans (Nat.div_le_self _ _) i1, by dsimp only; omega, by simp [i3], ?_⟩
        · have R := ldc_r5_2 (n := n) (out_5 := parts.map bs) (by omega) K2 K3 K4 (by rw [hq0, lmb_zero]; simp) (by rw [List.length_map]; omega)
          have e : parts.map bs ++ [bs (decDigits (k % 1000000000))] = (parts ++ [decDigits (k % 1000000000)]).map bs := by simp
          rw [e] at R
          exact R
        · dsimp only
          rw [List.reverse_append, List.reverse_singleton, List.singleton_append, List.flatten_cons, ← List.append_assoc, ← d1]
          exact i4)
    (fun s hI => by
      obtain ⟨k, parts⟩ := s
      obtain ⟨i1, i2, i3, i4⟩ := hI
      dsimp only at i1 i2 i3 i4 ⊢
      have hk0 : k = 0 := by
        rcases Nat.eq_zero_or_pos k with h | h
        · exact h
        · exfalso
          have hp : 0 < 32 * (lmb K).length := by
            have hkl : (lmb k).length ≤ (lmb K).length := lmb_len_mono i1
            have : 0 < (lmb k).length := by rw [lmb_pos h]; simp
            omega
          obtain ⟨f, hf⟩ : ∃ f, 32 * (lmb K).length = f + 1 := ⟨32 * (lmb K).length - 1, by omega⟩
          rw [hf, rnd, if_neg (by omega)] at i2
          omega
      subst hk0
      exact ldc_x5_1 (by rw [lmb_zero]; simp))
  obtain ⟨k, parts⟩ := s
  obtain ⟨i1, i2, i3, i4⟩ := hI
  dsimp only at i1 i2 i3 i4 hL
  have hk0 : k = 0 := by
    rcases Nat.eq_zero_or_pos k with h | h
    · exact h
    · exfalso
      have hp : 0 < 32 * (lmb K).length := by
        have hkl : (lmb k).length ≤ (lmb K).length := lmb_len_mono i1
        have : 0 < (lmb k).length := by rw [lmb_pos h]; simp
        omega
      obtain ⟨f, hf⟩ : ∃ f, 32 * (lmb K).length = f + 1 := ⟨32 * (lmb K).length - 1, by omega⟩
      rw [hf] at i2
      have e : rnd (f + 1) k = rnd f (k / 1000000000) + 1 := by rw [rnd, if_neg (by omega)]
      omega
  subst hk0
  have e0 : dd0 0 = [] := rfl
  have e1 : dd0 K = decDigits K := if_neg h0
  rw [e0, List.nil_append, e1] at i4
  have V := srv_c (n := n + 4) (L := parts.map bs) (by rw [List.length_map]; omega)
  have J := k_join (P := parts.reverse) (by rw [List.length_reverse]; omega) (by rw [i4]; omega)
  rw [i4, List.map_reverse] at J
  exact ldc_f2 (by have : 0 < (lmb K).length := by rw [lmb_pos (by omega)]; simp
                   omega) (HR := by rw [List.length_reverse]) (k_ofu (z := 1000000000) (by omega) (by omega)) hL V J
end Go.Proofs.YtjpoanaoaeaneaaGreatDoor
set_option linter.all false
set_option maxRecDepth 100000
set_option maxHeartbeats 6400000
namespace Go.Proofs.YtjpoanaoaeaneaaGreatDoor
open Go.RowKit
section
variable {r : ByteArray} {a0 : Rat} {r2 : ByteArray} {n : Nat} {cat2 : ByteArray} {cat : ByteArray}
theorem lsz_f1 (K1 : run (n + 5) 137 [natA (rawQ a0).l1] = some (.lit (.string r))) (C2 : 0 < ((rawQ a0).l2.length : Int)) (K3 : run (n + 5) 137 [natA (rawQ a0).l2] = some (.lit (.string r2))) (S4 : (⟨#[47]⟩ : ByteArray).size + r2.size ≤ 9000000000000000000) (D4 : cat = (⟨#[47]⟩ : ByteArray) ++ r2) (S5 : r.size + cat.size ≤ 9000000000000000000) (D5 : cat2 = r ++ cat) :
    run (n + 6) 67 [ratV a0] = some (.lit (.string cat2)) := by
  have C2_ : 0 < (rawQ a0).l2.length := by omega
  have C2_z : ((rawQ a0).l2.length : Int) ≠ 0 := by omega
  have C2_e : (((rawQ a0).l2.length : Int) == 0) = false := by simpa using C2_z
  have C2_g : (((rawQ a0).l2.length : Int) != 0) = true := by simpa using C2_z
  have S4_r := cat_r S4 D4
  have S4_q := cat_q S4 D4
  have S5_r := cat_r S5 D5
  have S5_q := cat_q S5 D5
  unfold run fnP
  simp +decide [Tryz.f67, K1, C2, C2_, C2_e, C2_g, K3, ↓S4_r, S4_q, ↓S5_r, S5_q]
theorem lsz_f2 (K1 : run (n + 5) 137 [natA (rawQ a0).l1] = some (.lit (.string r))) (C2 : ¬ 0 < ((rawQ a0).l2.length : Int)) :
    run (n + 6) 67 [ratV a0] = some (.lit (.string r)) := by
  have C2_ : ¬ 0 < (rawQ a0).l2.length := by omega
  have C2_z : ((rawQ a0).l2.length : Int) = 0 := by omega
  have C2_e : (((rawQ a0).l2.length : Int) == 0) = true := by rw [C2_z]; simp
  have C2_g : (((rawQ a0).l2.length : Int) != 0) = false := by rw [C2_z]; simp
  unfold run fnP
  simp +decide [Tryz.f67, K1, C2, C2_, C2_e, C2_g]
end
end Go.Proofs.YtjpoanaoaeaneaaGreatDoor
set_option linter.all false
set_option maxRecDepth 100000
set_option maxHeartbeats 6400000
namespace Go.Proofs.YtjpoanaoaeaneaaGreatDoor
open Go.RowKit
noncomputable def fdg_C3 : Code := (loopsOf (bodyOf Tryz.f74)).getD 0 .skip
def fdg_h3 (nat_3 : List Nat) (str_3 : ByteArray) : St :=
  ⟨[(0, natA nat_3), (3, .lit (.string str_3))],
   [], 0⟩
def fdg_o3a (str_3 : ByteArray) : St :=
  ⟨[(3, .lit (.string str_3))],
   [], 0⟩
section
variable {nat_3 : List Nat} {r25 : Int} {str_3 : ByteArray} {r22 : List Nat} {n : Nat} {cat5 : ByteArray} {r24 : Int} {r23 : List Nat} {r26 : Bool} {r27 : List Nat} {r30 : Int} {r28 : List Nat} {r29 : Int} {r31 : Bool} {cat6 : ByteArray} {r : List Nat} {a0 : List Nat}
theorem fdg_r3_1 (C1 : 0 < (nat_3.length : Int)) (K2 : (oND fun x y => .tup [natA (lmb (val x / val y)), natA (lmb (val x % val y)), .lit (.int .i64 0)]) [natA nat_3, .sl 1 [[.lit (.int .u32 10)]]] = some (.tup [natA r22, natA r23, .lit (.int .i64 r24)])) (K3 : (oN1 u64N fun x => .tup [.lit (.int .u64 (val x : Nat)), .lit (.bool true)]) [natA r23] = some (.tup [.lit (.int .u64 r25), .lit (.bool r26)])) (W4 : IntKind.u64.wrap (48 + r25) = 48 + r25) (W5 : IntKind.u8.wrap (48 + r25) = 48 + r25) (O6 : 0 ≤ 48 + r25 ∧ 48 + r25 < 256) (S7 : ((oneB (48 + r25))).size + str_3.size ≤ 9000000000000000000) (D7 : cat5 = ((oneB (48 + r25))) ++ str_3) :
    Cont 0 (exec Tryz.prog (tab (n + 4)) 0 39 (livesOf 74) big fdg_C3) (livesOf 74 3) (fdg_h3 nat_3 str_3) (fdg_h3 r22 cat5) := by
  have C1_ : 0 < nat_3.length := by omega
  have C1_z : (nat_3.length : Int) ≠ 0 := by omega
  have C1_e : ((nat_3.length : Int) == 0) = false := by simpa using C1_z
  have C1_g : ((nat_3.length : Int) != 0) = true := by simpa using C1_z
  have O6_ := strOf_one O6.1 O6.2
  have S7_r := cat_r S7 D7
  have S7_q := cat_q S7 D7
  unfold Cont
  simp +decide [fdg_h3, loopsOf, Tryz.f74, fdg_C3, C1, C1_, C1_e, C1_g, K2, K3, W4, W5, O6_, ↓S7_r, S7_q]
theorem fdg_r3_2 (C1 : ¬ 0 < (nat_3.length : Int)) (C2 : str_3 = (⟨#[]⟩ : ByteArray)) (K3 : (oND fun x y => .tup [natA (lmb (val x / val y)), natA (lmb (val x % val y)), .lit (.int .i64 0)]) [natA nat_3, .sl 1 [[.lit (.int .u32 10)]]] = some (.tup [natA r27, natA r28, .lit (.int .i64 r29)])) (K4 : (oN1 u64N fun x => .tup [.lit (.int .u64 (val x : Nat)), .lit (.bool true)]) [natA r28] = some (.tup [.lit (.int .u64 r30), .lit (.bool r31)])) (W5 : IntKind.u64.wrap (48 + r30) = 48 + r30) (W6 : IntKind.u8.wrap (48 + r30) = 48 + r30) (O7 : 0 ≤ 48 + r30 ∧ 48 + r30 < 256) (S8 : ((oneB (48 + r30))).size + str_3.size ≤ 9000000000000000000) (D8 : cat6 = ((oneB (48 + r30))) ++ str_3) :
    Cont 0 (exec Tryz.prog (tab (n + 4)) 0 39 (livesOf 74) big fdg_C3) (livesOf 74 3) (fdg_h3 nat_3 str_3) (fdg_h3 r27 cat6) := by
  have C1_ : ¬ 0 < nat_3.length := by omega
  have C1_z : (nat_3.length : Int) = 0 := by omega
  have C1_e : ((nat_3.length : Int) == 0) = true := by rw [C1_z]; simp
  have C1_g : ((nat_3.length : Int) != 0) = false := by rw [C1_z]; simp
  have C2_ : (str_3.toList == (⟨#[]⟩ : ByteArray).toList) = true := by rw [C2]; simp
  have C2_n : (str_3.toList != (⟨#[]⟩ : ByteArray).toList) = false := by rw [bne, C2_]; rfl
  have C2_i : str_3.toList.isEmpty = true := by rw [C2, ba_toList] <;> rfl
  have O7_ := strOf_one O7.1 O7.2
  have S8_r := cat_r S8 D8
  have S8_q := cat_q S8 D8
  unfold Cont
  simp +decide [fdg_h3, loopsOf, Tryz.f74, fdg_C3, C1, C1_, C1_e, C1_g, C2_, C2_n, C2_i, K3, K4, W5, W6, O7_, ↓S8_r, S8_q]
theorem fdg_x3_1 (C1 : ¬ 0 < (nat_3.length : Int)) (C2 : ¬ str_3 = (⟨#[]⟩ : ByteArray)) :
    Leave 0 (exec Tryz.prog (tab (n + 4)) 0 39 (livesOf 74) big fdg_C3) (livesOf 74 (outOf 3)) (fdg_h3 nat_3 str_3) (.exit 0) (fdg_o3a str_3) := by
  have C1_ : ¬ 0 < nat_3.length := by omega
  have C1_z : (nat_3.length : Int) = 0 := by omega
  have C1_e : ((nat_3.length : Int) == 0) = true := by rw [C1_z]; simp
  have C1_g : ((nat_3.length : Int) != 0) = false := by rw [C1_z]; simp
  have C2_ : (str_3.toList == (⟨#[]⟩ : ByteArray).toList) = false := by rw [beq_eq_false_iff_ne]; exact fun h => C2 (ba_inj h)
  have C2_n : (str_3.toList != (⟨#[]⟩ : ByteArray).toList) = true := by rw [bne, C2_]; rfl
  have C2_i : str_3.toList.isEmpty = false := by rcases he : str_3.toList.isEmpty with _ | _; rfl; exact absurd (ba_inj (by rw [List.isEmpty_iff.1 he, ba_toList] <;> rfl)) C2
  unfold Leave
  simp +decide [fdg_h3, loopsOf, Tryz.f74, fdg_o3a, fdg_C3, C1, C1_, C1_e, C1_g, C2_, C2_n, C2_i]
theorem fdg_f1 (K1 : (oN1 (fun _ => true) fun x => natA (lmb (val x))) [natA a0] = some (natA r)) (L2 : loopG Tryz.prog (tab (n + 4)) 0 39 (livesOf 74) 3 fdg_C3 (fdg_h3 r (⟨#[]⟩ : ByteArray)) = some (.exit 0, fdg_o3a str_3)) :
    run (n + 4) 74 [natA a0] = some (.lit (.string str_3)) := by
  unfold run fnP
  simp +decide [Tryz.f74, K1]
  rw [loopX_G (C' := fdg_C3) (e := (fdg_h3 r (⟨#[]⟩ : ByteArray))) ?_ ?_, L2]
  rotate_left
  · kernel_rfl
  · simp +decide [fdg_h3, K1]
  simp +decide [fdg_o3a, K1]
end
end Go.Proofs.YtjpoanaoaeaneaaGreatDoor
set_option linter.all false
set_option maxRecDepth 100000
set_option maxHeartbeats 6400000
namespace Go.Proofs.YtjpoanaoaeaneaaGreatDoor
open Go.RowKit
section
variable {r : ByteArray} {a0 : Rat} {r2 : ByteArray} {n : Nat} {cat2 : ByteArray} {cat : ByteArray}
theorem fab_f1 (K1 : run (n + 4) 74 [natA (rawQ a0).l1] = some (.lit (.string r))) (C2 : 0 < ((rawQ a0).l2.length : Int)) (K3 : run (n + 4) 74 [natA (rawQ a0).l2] = some (.lit (.string r2))) (S4 : (⟨#[47]⟩ : ByteArray).size + r2.size ≤ 9000000000000000000) (D4 : cat = (⟨#[47]⟩ : ByteArray) ++ r2) (S5 : r.size + cat.size ≤ 9000000000000000000) (D5 : cat2 = r ++ cat) :
    run (n + 5) 72 [ratV a0] = some (.lit (.string cat2)) := by
  have C2_ : 0 < (rawQ a0).l2.length := by omega
  have C2_z : ((rawQ a0).l2.length : Int) ≠ 0 := by omega
  have C2_e : (((rawQ a0).l2.length : Int) == 0) = false := by simpa using C2_z
  have C2_g : (((rawQ a0).l2.length : Int) != 0) = true := by simpa using C2_z
  have S4_r := cat_r S4 D4
  have S4_q := cat_q S4 D4
  have S5_r := cat_r S5 D5
  have S5_q := cat_q S5 D5
  unfold run fnP
  simp +decide [Tryz.f72, K1, C2, C2_, C2_e, C2_g, K3, ↓S4_r, S4_q, ↓S5_r, S5_q]
theorem fab_f2 (K1 : run (n + 4) 74 [natA (rawQ a0).l1] = some (.lit (.string r))) (C2 : ¬ 0 < ((rawQ a0).l2.length : Int)) :
    run (n + 5) 72 [ratV a0] = some (.lit (.string r)) := by
  have C2_ : ¬ 0 < (rawQ a0).l2.length := by omega
  have C2_z : ((rawQ a0).l2.length : Int) = 0 := by omega
  have C2_e : (((rawQ a0).l2.length : Int) == 0) = true := by rw [C2_z]; simp
  have C2_g : (((rawQ a0).l2.length : Int) != 0) = false := by rw [C2_z]; simp
  unfold run fnP
  simp +decide [Tryz.f72, K1, C2, C2_, C2_e, C2_g]
end
end Go.Proofs.YtjpoanaoaeaneaaGreatDoor
set_option linter.all false
set_option maxRecDepth 100000
set_option maxHeartbeats 6400000
namespace Go.Proofs.YtjpoanaoaeaneaaGreatDoor
open Go.RowKit
section
variable {a0 : ByteArray} {a1 : Bool} {n : Nat} {cat : ByteArray} {a2 : ByteArray} {cat3 : ByteArray} {cat2 : ByteArray} {cat4 : ByteArray} {cat5 : ByteArray}
theorem fjn_f1 (C1 : a0 = (⟨#[]⟩ : ByteArray)) (C2 : a1 = true) (S3 : (⟨#[45]⟩ : ByteArray).size + a2.size ≤ 9000000000000000000) (D3 : cat = (⟨#[45]⟩ : ByteArray) ++ a2) :
    run n 73 [.lit (.string a0), .lit (.bool a1), .lit (.string a2)] = some (.lit (.string cat)) := by
  have C1_ : (a0.toList == (⟨#[]⟩ : ByteArray).toList) = true := by rw [C1]; simp
  have C1_n : (a0.toList != (⟨#[]⟩ : ByteArray).toList) = false := by rw [bne, C1_]; rfl
  have C1_i : a0.toList.isEmpty = true := by rw [C1, ba_toList] <;> rfl
  have S3_r := cat_r S3 D3
  have S3_q := cat_q S3 D3
  unfold run fnP
  simp +decide [Tryz.f73, C1_, C1_n, C1_i, C2, ↓S3_r, S3_q]
theorem fjn_f2 (C1 : a0 = (⟨#[]⟩ : ByteArray)) (C2 : a1 = false) :
    run n 73 [.lit (.string a0), .lit (.bool a1), .lit (.string a2)] = some (.lit (.string a2)) := by
  have C1_ : (a0.toList == (⟨#[]⟩ : ByteArray).toList) = true := by rw [C1]; simp
  have C1_n : (a0.toList != (⟨#[]⟩ : ByteArray).toList) = false := by rw [bne, C1_]; rfl
  have C1_i : a0.toList.isEmpty = true := by rw [C1, ba_toList] <;> rfl
  unfold run fnP
  simp +decide [Tryz.f73, C1_, C1_n, C1_i, C2]
theorem fjn_f3 (C1 : ¬ a0 = (⟨#[]⟩ : ByteArray)) (C2 : a1 = true) (S3 : a0.size + (⟨#[32, 45, 32]⟩ : ByteArray).size ≤ 9000000000000000000) (D3 : cat2 = a0 ++ (⟨#[32, 45, 32]⟩ : ByteArray)) (S4 : cat2.size + a2.size ≤ 9000000000000000000) (D4 : cat3 = cat2 ++ a2) :
    run n 73 [.lit (.string a0), .lit (.bool a1), .lit (.string a2)] = some (.lit (.string cat3)) := by
  obtain ⟨ks0, hks0⟩ : ∃ k : ByteArray, (⟨#[32, 45, 32]⟩ : ByteArray) = k := ⟨_, rfl⟩
  rw [hks0] at S3 D3
  have C1_ : (a0.toList == (⟨#[]⟩ : ByteArray).toList) = false := by rw [beq_eq_false_iff_ne]; exact fun h => C1 (ba_inj h)
  have C1_n : (a0.toList != (⟨#[]⟩ : ByteArray).toList) = true := by rw [bne, C1_]; rfl
  have C1_i : a0.toList.isEmpty = false := by rcases he : a0.toList.isEmpty with _ | _; rfl; exact absurd (ba_inj (by rw [List.isEmpty_iff.1 he, ba_toList] <;> rfl)) C1
  have S3_r := cat_r S3 D3
  have S3_q := cat_q S3 D3
  have S4_r := cat_r S4 D4
  have S4_q := cat_q S4 D4
  unfold run fnP
  simp +decide [Tryz.f73, C1_, C1_n, C1_i, C2, ↓S3_r, S3_q, ↓S4_r, S4_q, hks0]
theorem fjn_f4 (C1 : ¬ a0 = (⟨#[]⟩ : ByteArray)) (C2 : a1 = false) (S3 : a0.size + (⟨#[32, 43, 32]⟩ : ByteArray).size ≤ 9000000000000000000) (D3 : cat4 = a0 ++ (⟨#[32, 43, 32]⟩ : ByteArray)) (S4 : cat4.size + a2.size ≤ 9000000000000000000) (D4 : cat5 = cat4 ++ a2) :
    run n 73 [.lit (.string a0), .lit (.bool a1), .lit (.string a2)] = some (.lit (.string cat5)) := by
  obtain ⟨ks0, hks0⟩ : ∃ k : ByteArray, (⟨#[32, 43, 32]⟩ : ByteArray) = k := ⟨_, rfl⟩
  rw [hks0] at S3 D3
  have C1_ : (a0.toList == (⟨#[]⟩ : ByteArray).toList) = false := by rw [beq_eq_false_iff_ne]; exact fun h => C1 (ba_inj h)
  have C1_n : (a0.toList != (⟨#[]⟩ : ByteArray).toList) = true := by rw [bne, C1_]; rfl
  have C1_i : a0.toList.isEmpty = false := by rcases he : a0.toList.isEmpty with _ | _; rfl; exact absurd (ba_inj (by rw [List.isEmpty_iff.1 he, ba_toList] <;> rfl)) C1
  have S3_r := cat_r S3 D3
  have S3_q := cat_q S3 D3
  have S4_r := cat_r S4 D4
  have S4_q := cat_q S4 D4
  unfold run fnP
  simp +decide [Tryz.f73, C1_, C1_n, C1_i, C2, ↓S3_r, S3_q, ↓S4_r, S4_q, hks0]
end
end Go.Proofs.YtjpoanaoaeaneaaGreatDoor
