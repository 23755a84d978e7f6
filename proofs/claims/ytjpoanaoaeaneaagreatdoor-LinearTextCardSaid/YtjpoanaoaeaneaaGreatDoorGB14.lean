import Derived.Test.YtjpoanaoaeaneaaGreatDoorGB5
import Derived.Test.YtjpoanaoaeaneaaGreatDoorGB13
import Derived.Test.YtjpoanaoaeaneaaGreatDoorGB9
import Derived.Test.YtjpoanaoaeaneaaGreatDoorRows
import Derived.Deep.Slices
import Derived.ChangeArms
import Derived.ChangeSlices
import Derived.DataReads
import Derived.OpenShut
set_option linter.all false
set_option maxRecDepth 100000
set_option maxHeartbeats 6400000
namespace Go.Proofs.YtjpoanaoaeaneaaGreatDoor
open Go.RowKit
noncomputable def vaR_C2 : Code := (loopsOf (bodyOf Tryz.f17)).getD 0 .skip
def vaR_h2 (a0 : FormR) (a1 : Int) (i_2 : Nat) : St :=
  ⟨[(1, .lit (.int .i64 a1)), (2, .ptr 0 0), (5, .lit (.int .i64 (i_2 : Int)))],
   [(0, some (.box 28 [.sl 4 (a0.1.map termRC), .lit (.bool a0.2.s), natA a0.2.l1, natA a0.2.l2] false))], 1⟩
def vaR_o2a (a0 : FormR) : St :=
  ⟨[(2, .ptr 0 0), (4, .lit (.bool false))],
   [(0, some (.box 28 [.sl 4 (a0.1.map termRC), .lit (.bool a0.2.s), natA a0.2.l1, natA a0.2.l2] false))], 1⟩
def vaR_o2b (a0 : FormR) : St :=
  ⟨[(2, .ptr 0 0), (4, .any)],
   [(0, some (.box 28 [.sl 4 (a0.1.map termRC), .lit (.bool a0.2.s), natA a0.2.l1, natA a0.2.l2] false))], 1⟩
section
variable {v4 : Int} {v5 : Int} {r4 : Raw} {a0 : FormR} {a1 : Int} {r5 : Raw} {n : Nat} {i_2 : Nat}
theorem vaR_r2_1 (C1 : (i_2 : Int) < (a0.1.length : Int)) (E2 : a0.1[i_2]? = some (v4, r4)) (C3 : ¬ v4 < 0) (C4 : ¬ a1 ≤ v4) (C5 : 0 < (i_2 : Int)) (W6 : InI ((i_2 : Int) - 1)) (E7 : a0.1[i_2 - 1]? = some (v5, r5)) (Z7 : 1 ≤ i_2) (C8 : ¬ v4 ≤ v5) (B9a : RawB r4) (C10 : ¬ sgR r4.q = 0) (C12 : RatV r4.s r4.l1 r4.l2) (W13 : InI ((i_2 : Int) + 1)) :
    Cont 0 (exec Tryz.prog (tab n) 0 59 (livesOf 17) big vaR_C2) (livesOf 17 2) (vaR_h2 a0 a1 i_2) (vaR_h2 a0 a1 (i_2 + 1)) := by
  have C1_ : i_2 < a0.1.length := by omega
  obtain ⟨EL2, EG2⟩ := List.getElem?_eq_some_iff.1 E2
  have C5_ : 0 < i_2 := by omega
  have C5_z : (i_2 : Int) ≠ 0 := by omega
  have C5_e : ((i_2 : Int) == 0) = false := by simpa using C5_z
  have C5_g : ((i_2 : Int) != 0) = true := by simpa using C5_z
  have W6_ : IntKind.i64.wrap ((i_2 : Int) - 1) = (i_2 : Int) - 1 := wr64 W6.1 W6.2
  obtain ⟨EL7, EG7⟩ := List.getElem?_eq_some_iff.1 E7
  have Z7_0 : (1 : Int) ≤ (i_2 : Int) := by omega
  have Z7_1 : 0 ≤ (i_2 : Int) - 1 := by omega
  have K9 := rr_sign B9a
  have C10_ : (sgR r4.q == 0) = false := by simpa using C10
  have C10_n : (sgR r4.q != 0) = true := by simpa using C10
  have K11 := rr_valid B9a
  have W13_ : IntKind.i64.wrap ((i_2 : Int) + 1) = (i_2 : Int) + 1 := wr64 W13.1 W13.2
  unfold Cont
  simp +decide [vaR_h2, loopsOf, Tryz.f17, vaR_C2, C1, C1_, EL2, EG2, E2, C3, C4, C5, C5_, C5_e, C5_g, W6_, EL7, EG7, E7, Z7, Z7_0, Z7_1, C8, K9, C10_, C10_n, K11, C12, W13_]
theorem vaR_r2_2 (C1 : (i_2 : Int) < (a0.1.length : Int)) (E2 : a0.1[i_2]? = some (v4, r4)) (C3 : ¬ v4 < 0) (C4 : ¬ a1 ≤ v4) (C5 : ¬ 0 < (i_2 : Int)) (B6a : RawB r4) (C7 : ¬ sgR r4.q = 0) (C9 : RatV r4.s r4.l1 r4.l2) (W10 : InI ((i_2 : Int) + 1)) :
    Cont 0 (exec Tryz.prog (tab n) 0 59 (livesOf 17) big vaR_C2) (livesOf 17 2) (vaR_h2 a0 a1 i_2) (vaR_h2 a0 a1 (i_2 + 1)) := by
  have C1_ : i_2 < a0.1.length := by omega
  obtain ⟨EL2, EG2⟩ := List.getElem?_eq_some_iff.1 E2
  have C5_ : ¬ 0 < i_2 := by omega
  have C5_z : (i_2 : Int) = 0 := by omega
  have C5_e : ((i_2 : Int) == 0) = true := by rw [C5_z]; simp
  have C5_g : ((i_2 : Int) != 0) = false := by rw [C5_z]; simp
  have K6 := rr_sign B6a
  have C7_ : (sgR r4.q == 0) = false := by simpa using C7
  have C7_n : (sgR r4.q != 0) = true := by simpa using C7
  have K8 := rr_valid B6a
  have W10_ : IntKind.i64.wrap ((i_2 : Int) + 1) = (i_2 : Int) + 1 := wr64 W10.1 W10.2
  unfold Cont
  simp +decide [vaR_h2, loopsOf, Tryz.f17, vaR_C2, C1, C1_, EL2, EG2, E2, C3, C4, C5, C5_, C5_e, C5_g, K6, C7_, C7_n, K8, C9, W10_]
theorem vaR_x2_1 (C1 : (i_2 : Int) < (a0.1.length : Int)) (E2 : a0.1[i_2]? = some (v4, r4)) (C3 : v4 < 0) :
    Leave 0 (exec Tryz.prog (tab n) 0 59 (livesOf 17) big vaR_C2) (livesOf 17 (outOf 2)) (vaR_h2 a0 a1 i_2) (.ret) (vaR_o2a a0) := by
  have C1_ : i_2 < a0.1.length := by omega
  obtain ⟨EL2, EG2⟩ := List.getElem?_eq_some_iff.1 E2
  unfold Leave
  simp +decide [vaR_h2, loopsOf, Tryz.f17, vaR_o2a, vaR_C2, C1, C1_, EL2, EG2, E2, C3]
theorem vaR_x2_2 (C1 : (i_2 : Int) < (a0.1.length : Int)) (E2 : a0.1[i_2]? = some (v4, r4)) (C3 : ¬ v4 < 0) (C4 : a1 ≤ v4) :
    Leave 0 (exec Tryz.prog (tab n) 0 59 (livesOf 17) big vaR_C2) (livesOf 17 (outOf 2)) (vaR_h2 a0 a1 i_2) (.ret) (vaR_o2a a0) := by
  have C1_ : i_2 < a0.1.length := by omega
  obtain ⟨EL2, EG2⟩ := List.getElem?_eq_some_iff.1 E2
  unfold Leave
  simp +decide [vaR_h2, loopsOf, Tryz.f17, vaR_o2a, vaR_C2, C1, C1_, EL2, EG2, E2, C3, C4]
theorem vaR_x2_3 (C1 : (i_2 : Int) < (a0.1.length : Int)) (E2 : a0.1[i_2]? = some (v4, r4)) (C3 : ¬ v4 < 0) (C4 : ¬ a1 ≤ v4) (C5 : 0 < (i_2 : Int)) (W6 : InI ((i_2 : Int) - 1)) (E7 : a0.1[i_2 - 1]? = some (v5, r5)) (Z7 : 1 ≤ i_2) (C8 : v4 ≤ v5) :
    Leave 0 (exec Tryz.prog (tab n) 0 59 (livesOf 17) big vaR_C2) (livesOf 17 (outOf 2)) (vaR_h2 a0 a1 i_2) (.ret) (vaR_o2a a0) := by
  have C1_ : i_2 < a0.1.length := by omega
  obtain ⟨EL2, EG2⟩ := List.getElem?_eq_some_iff.1 E2
  have C5_ : 0 < i_2 := by omega
  have C5_z : (i_2 : Int) ≠ 0 := by omega
  have C5_e : ((i_2 : Int) == 0) = false := by simpa using C5_z
  have C5_g : ((i_2 : Int) != 0) = true := by simpa using C5_z
  have W6_ : IntKind.i64.wrap ((i_2 : Int) - 1) = (i_2 : Int) - 1 := wr64 W6.1 W6.2
  obtain ⟨EL7, EG7⟩ := List.getElem?_eq_some_iff.1 E7
  have Z7_0 : (1 : Int) ≤ (i_2 : Int) := by omega
  have Z7_1 : 0 ≤ (i_2 : Int) - 1 := by omega
  unfold Leave
  simp +decide [vaR_h2, loopsOf, Tryz.f17, vaR_o2a, vaR_C2, C1, C1_, EL2, EG2, E2, C3, C4, C5, C5_, C5_e, C5_g, W6_, EL7, EG7, E7, Z7, Z7_0, Z7_1, C8]
theorem vaR_x2_4 (C1 : (i_2 : Int) < (a0.1.length : Int)) (E2 : a0.1[i_2]? = some (v4, r4)) (C3 : ¬ v4 < 0) (C4 : ¬ a1 ≤ v4) (C5 : 0 < (i_2 : Int)) (W6 : InI ((i_2 : Int) - 1)) (E7 : a0.1[i_2 - 1]? = some (v5, r5)) (Z7 : 1 ≤ i_2) (C8 : ¬ v4 ≤ v5) (B9a : RawB r4) (C10 : sgR r4.q = 0) :
    Leave 0 (exec Tryz.prog (tab n) 0 59 (livesOf 17) big vaR_C2) (livesOf 17 (outOf 2)) (vaR_h2 a0 a1 i_2) (.ret) (vaR_o2a a0) := by
  have C1_ : i_2 < a0.1.length := by omega
  obtain ⟨EL2, EG2⟩ := List.getElem?_eq_some_iff.1 E2
  have C5_ : 0 < i_2 := by omega
  have C5_z : (i_2 : Int) ≠ 0 := by omega
  have C5_e : ((i_2 : Int) == 0) = false := by simpa using C5_z
  have C5_g : ((i_2 : Int) != 0) = true := by simpa using C5_z
  have W6_ : IntKind.i64.wrap ((i_2 : Int) - 1) = (i_2 : Int) - 1 := wr64 W6.1 W6.2
  obtain ⟨EL7, EG7⟩ := List.getElem?_eq_some_iff.1 E7
  have Z7_0 : (1 : Int) ≤ (i_2 : Int) := by omega
  have Z7_1 : 0 ≤ (i_2 : Int) - 1 := by omega
  have K9 := rr_sign B9a
  have C10_ : (sgR r4.q == 0) = true := by rw [C10]; simp
  have C10_n : (sgR r4.q != 0) = false := by rw [C10]; simp
  unfold Leave
  simp +decide [vaR_h2, loopsOf, Tryz.f17, vaR_o2a, vaR_C2, C1, C1_, EL2, EG2, E2, C3, C4, C5, C5_, C5_e, C5_g, W6_, EL7, EG7, E7, Z7, Z7_0, Z7_1, C8, K9, C10_, C10_n]
theorem vaR_x2_5 (C1 : (i_2 : Int) < (a0.1.length : Int)) (E2 : a0.1[i_2]? = some (v4, r4)) (C3 : ¬ v4 < 0) (C4 : ¬ a1 ≤ v4) (C5 : 0 < (i_2 : Int)) (W6 : InI ((i_2 : Int) - 1)) (E7 : a0.1[i_2 - 1]? = some (v5, r5)) (Z7 : 1 ≤ i_2) (C8 : ¬ v4 ≤ v5) (B9a : RawB r4) (C10 : ¬ sgR r4.q = 0) (C12 : ¬ (RatV r4.s r4.l1 r4.l2)) :
    Leave 0 (exec Tryz.prog (tab n) 0 59 (livesOf 17) big vaR_C2) (livesOf 17 (outOf 2)) (vaR_h2 a0 a1 i_2) (.ret) (vaR_o2a a0) := by
  have C1_ : i_2 < a0.1.length := by omega
  obtain ⟨EL2, EG2⟩ := List.getElem?_eq_some_iff.1 E2
  have C5_ : 0 < i_2 := by omega
  have C5_z : (i_2 : Int) ≠ 0 := by omega
  have C5_e : ((i_2 : Int) == 0) = false := by simpa using C5_z
  have C5_g : ((i_2 : Int) != 0) = true := by simpa using C5_z
  have W6_ : IntKind.i64.wrap ((i_2 : Int) - 1) = (i_2 : Int) - 1 := wr64 W6.1 W6.2
  obtain ⟨EL7, EG7⟩ := List.getElem?_eq_some_iff.1 E7
  have Z7_0 : (1 : Int) ≤ (i_2 : Int) := by omega
  have Z7_1 : 0 ≤ (i_2 : Int) - 1 := by omega
  have K9 := rr_sign B9a
  have C10_ : (sgR r4.q == 0) = false := by simpa using C10
  have C10_n : (sgR r4.q != 0) = true := by simpa using C10
  have K11 := rr_valid B9a
  unfold Leave
  simp +decide [vaR_h2, loopsOf, Tryz.f17, vaR_o2a, vaR_C2, C1, C1_, EL2, EG2, E2, C3, C4, C5, C5_, C5_e, C5_g, W6_, EL7, EG7, E7, Z7, Z7_0, Z7_1, C8, K9, C10_, C10_n, K11, C12]
theorem vaR_x2_6 (C1 : (i_2 : Int) < (a0.1.length : Int)) (E2 : a0.1[i_2]? = some (v4, r4)) (C3 : ¬ v4 < 0) (C4 : ¬ a1 ≤ v4) (C5 : ¬ 0 < (i_2 : Int)) (B6a : RawB r4) (C7 : sgR r4.q = 0) :
    Leave 0 (exec Tryz.prog (tab n) 0 59 (livesOf 17) big vaR_C2) (livesOf 17 (outOf 2)) (vaR_h2 a0 a1 i_2) (.ret) (vaR_o2a a0) := by
  have C1_ : i_2 < a0.1.length := by omega
  obtain ⟨EL2, EG2⟩ := List.getElem?_eq_some_iff.1 E2
  have C5_ : ¬ 0 < i_2 := by omega
  have C5_z : (i_2 : Int) = 0 := by omega
  have C5_e : ((i_2 : Int) == 0) = true := by rw [C5_z]; simp
  have C5_g : ((i_2 : Int) != 0) = false := by rw [C5_z]; simp
  have K6 := rr_sign B6a
  have C7_ : (sgR r4.q == 0) = true := by rw [C7]; simp
  have C7_n : (sgR r4.q != 0) = false := by rw [C7]; simp
  unfold Leave
  simp +decide [vaR_h2, loopsOf, Tryz.f17, vaR_o2a, vaR_C2, C1, C1_, EL2, EG2, E2, C3, C4, C5, C5_, C5_e, C5_g, K6, C7_, C7_n]
theorem vaR_x2_7 (C1 : (i_2 : Int) < (a0.1.length : Int)) (E2 : a0.1[i_2]? = some (v4, r4)) (C3 : ¬ v4 < 0) (C4 : ¬ a1 ≤ v4) (C5 : ¬ 0 < (i_2 : Int)) (B6a : RawB r4) (C7 : ¬ sgR r4.q = 0) (C9 : ¬ (RatV r4.s r4.l1 r4.l2)) :
    Leave 0 (exec Tryz.prog (tab n) 0 59 (livesOf 17) big vaR_C2) (livesOf 17 (outOf 2)) (vaR_h2 a0 a1 i_2) (.ret) (vaR_o2a a0) := by
  have C1_ : i_2 < a0.1.length := by omega
  obtain ⟨EL2, EG2⟩ := List.getElem?_eq_some_iff.1 E2
  have C5_ : ¬ 0 < i_2 := by omega
  have C5_z : (i_2 : Int) = 0 := by omega
  have C5_e : ((i_2 : Int) == 0) = true := by rw [C5_z]; simp
  have C5_g : ((i_2 : Int) != 0) = false := by rw [C5_z]; simp
  have K6 := rr_sign B6a
  have C7_ : (sgR r4.q == 0) = false := by simpa using C7
  have C7_n : (sgR r4.q != 0) = true := by simpa using C7
  have K8 := rr_valid B6a
  unfold Leave
  simp +decide [vaR_h2, loopsOf, Tryz.f17, vaR_o2a, vaR_C2, C1, C1_, EL2, EG2, E2, C3, C4, C5, C5_, C5_e, C5_g, K6, C7_, C7_n, K8, C9]
theorem vaR_x2_8 (C1 : ¬ (i_2 : Int) < (a0.1.length : Int)) :
    Leave 0 (exec Tryz.prog (tab n) 0 59 (livesOf 17) big vaR_C2) (livesOf 17 (outOf 2)) (vaR_h2 a0 a1 i_2) (.exit 0) (vaR_o2b a0) := by
  have C1_ : ¬ i_2 < a0.1.length := by omega
  unfold Leave
  simp +decide [vaR_h2, loopsOf, Tryz.f17, vaR_o2b, vaR_C2, C1, C1_]
theorem vaR_f1 (L1 : loopG Tryz.prog (tab n) 0 59 (livesOf 17) 2 vaR_C2 (vaR_h2 a0 a1 0) = some (.ret, vaR_o2a a0)) :
    run n 17 [.agg [.sl 4 (a0.1.map termRC), .lit (.bool a0.2.s), natA a0.2.l1, natA a0.2.l2], .lit (.int .i64 a1)] = some (.lit (.bool false)) := by
  unfold run fnP
  simp +decide [Tryz.f17]
  rw [loopX_G (C' := vaR_C2) (e := (vaR_h2 a0 a1 0)) ?_ ?_, L1]
  rotate_left
  · kernel_rfl
  · simp +decide [vaR_h2]
  simp +decide [vaR_o2a]
theorem vaR_f2 (L1 : loopG Tryz.prog (tab n) 0 59 (livesOf 17) 2 vaR_C2 (vaR_h2 a0 a1 0) = some (.exit 0, vaR_o2b a0)) (B2a : RawB a0.2) :
    run n 17 [.agg [.sl 4 (a0.1.map termRC), .lit (.bool a0.2.s), natA a0.2.l1, natA a0.2.l2], .lit (.int .i64 a1)] = some (.lit (.bool (decide (RatV a0.2.s a0.2.l1 a0.2.l2)))) := by
  have K2 := rr_valid B2a
  unfold run fnP
  simp +decide [Tryz.f17, K2]
  rw [loopX_G (C' := vaR_C2) (e := (vaR_h2 a0 a1 0)) ?_ ?_, L1]
  rotate_left
  · kernel_rfl
  · simp +decide [vaR_h2, K2]
  simp +decide [vaR_o2b, K2]
end
end Go.Proofs.YtjpoanaoaeaneaaGreatDoor
set_option linter.all false
set_option maxRecDepth 100000
set_option maxHeartbeats 6400000
namespace Go.Proofs.YtjpoanaoaeaneaaGreatDoor
open Go.RowKit
attribute [local irreducible] run runL loopG exec
def frV (f : FormR) : AV := .agg [.sl 4 (f.1.map termRC), .lit (.bool f.2.s), natA f.2.l1, natA f.2.l2]
def LimR2 (r : Raw) : Prop := Lim r.l1 ∧ Lim r.l2
structure LimF (f : FormR) : Prop where
  t : ∀ t ∈ f.1, LimR2 t.2
  k : LimR2 f.2
def Two (r : Raw) : Prop := r.l1.length ≤ 2 ∧ r.l2.length ≤ 2
def FewR (l : List (Int × Raw)) (c : Raw) : Prop := l.length ≤ 8 ∧ Two c ∧ ∀ t ∈ l, Two t.2
theorem Two.rb {r : Raw} (h : Two r) (hl : LimR2 r) : RawB r := ⟨hl.1, hl.2, by have := h.1; omega, by have := h.2; omega⟩
def Cn (r : Raw) : Prop := RatV r.s r.l1 r.l2
theorem Cn.raw {r : Raw} (h : Cn r) : r = rawQ r.q := by
  obtain ⟨s, l1, l2⟩ := r
  obtain ⟨h1, h2, h3⟩ := h
  dsimp only at h1 h2 h3
  unfold Raw.q rawQ
  dsimp only
  rw [← h1, ← h2, ← h3]
theorem dlmb_H (d : Nat) : (lmb d).length ≤ max 1 (dlmb d).length := by
  unfold dlmb
  split
  · rename_i h; subst h; rw [lmb_one]; simp
  · exact Nat.le_max_right _ _
theorem Cn.HB {r : Raw} {m : Nat} (h : Cn r) (hm : 1 ≤ m) (h1 : r.l1.length ≤ m) (h2 : r.l2.length ≤ m) : H r.q ≤ m := by
  have e := h.raw
  have a1 : (lmb r.q.num.natAbs).length ≤ m := by have := congrArg Raw.l1 e; rw [this] at h1; exact h1
  have a2 : (dlmb r.q.den).length ≤ m := by have := congrArg Raw.l2 e; rw [this] at h2; exact h2
  have a3 := dlmb_H r.q.den
  unfold Go.Proofs.YtjpoanaoaeaneaaGreatDoor.H
  omega
theorem Cn.H {r : Raw} (h : Cn r) (ht : Two r) : H r.q ≤ 2 := h.HB (by omega) ht.1 ht.2
def OkTmR (F : List (Int × Raw)) (vars : Int) (i : Nat) : Prop := ∀ v c, F[i]? = some (v, c) → 0 ≤ v ∧ v < vars ∧ c.q ≠ 0 ∧ Cn c ∧ ∀ v' c', 0 < i → F[i - 1]? = some (v', c') → v' < v
def OkFR (f : FormR) (vars : Int) : Prop := (∀ i, i < f.1.length → OkTmR f.1 vars i) ∧ Cn f.2
theorem validRB_c {n : Nat} {f : FormR} {vars : Int} (h8 : f.1.length ≤ 100000) (hrbs : ∀ t ∈ f.1, RawB t.2) (hkb : RawB f.2) : run n 17 [frV f, .lit (.int .i64 vars)] = some (.lit (.bool (tv (OkFR f vars)))) := by
  have L := loopG_all (O := tab n) (P := Tryz.prog) (m := 0) (N := 59) (lives := livesOf 17) (r := 2) (C := vaR_C2) (M := f.1.length) (enc := vaR_h2 f vars) (p := fun i => tv (OkTmR f.1 vars i)) (exN := .exit 0) (exE := .ret) (out := vaR_o2b f) (outE := vaR_o2a f) (by omega) (fun h => by cases h) (fun h => by cases h)
    (fun i hi _ => by
      have hx : f.1[i]? = some f.1[i] := List.getElem?_eq_getElem hi
      obtain ⟨t, ht⟩ : ∃ t, f.1[i] = t := ⟨_, rfl⟩
      rw [ht] at hx
      obtain ⟨v, r⟩ := t
      have hm : (v, r) ∈ f.1 := List.mem_of_getElem? hx
      have hrb : RawB r := hrbs _ hm
      have C1 : (i : Int) < (f.1.length : Int) := by omega
      have hp : 0 < i → ∃ v' r', f.1[i - 1]? = some (v', r') := fun h0 => ⟨(f.1[i - 1]'(by omega)).1, (f.1[i - 1]'(by omega)).2, List.getElem?_eq_getElem _⟩
      refine ⟨fun hp' => ?_, fun hp' => ?_⟩
      · obtain ⟨a1, a2, a3, a4, a5⟩ := tv_true hp' v r hx
        have s0 : ¬ sgR r.q = 0 := fun h => a3 (sgR_eq_zero.1 h)
        by_cases h0 : 0 < i
        · obtain ⟨v', r', hx'⟩ := hp h0
          have := a5 v' r' h0 hx'
          exact vaR_r2_1 C1 hx (by omega) (by omega) (by omega) ⟨by omega, by omega⟩ hx' (by omega) (by omega) hrb s0 a4 ⟨by omega, by omega⟩
        · exact vaR_r2_2 C1 hx (by omega) (by omega) (by omega) hrb s0 a4 ⟨by omega, by omega⟩
      · have hq := tv_false hp'
        by_cases b1 : v < 0
        · exact vaR_x2_1 C1 hx b1
        by_cases b2 : vars ≤ v
        · exact vaR_x2_2 C1 hx b1 b2
        by_cases h0 : 0 < i
        · obtain ⟨v', r', hx'⟩ := hp h0
          by_cases b3 : v ≤ v'
          · exact vaR_x2_3 C1 hx b1 b2 (by omega) ⟨by omega, by omega⟩ hx' (by omega) b3
          by_cases b4 : sgR r.q = 0
          · exact vaR_x2_4 C1 hx b1 b2 (by omega) ⟨by omega, by omega⟩ hx' (by omega) b3 hrb b4
          refine vaR_x2_5 C1 hx b1 b2 (by omega) ⟨by omega, by omega⟩ hx' (by omega) b3 hrb b4 fun b5 => hq fun v2 c2 h2 => ?_
          rw [hx] at h2; cases h2
          refine ⟨by omega, by omega, fun h => b4 (sgR_eq_zero.2 h), b5, fun v3 c3 _ h3 => ?_⟩
          rw [hx'] at h3; cases h3
          omega
        · by_cases b4 : sgR r.q = 0
          · exact vaR_x2_6 C1 hx b1 b2 (by omega) hrb b4
          refine vaR_x2_7 C1 hx b1 b2 (by omega) hrb b4 fun b5 => hq fun v2 c2 h2 => ?_
          rw [hx] at h2; cases h2
          exact ⟨by omega, by omega, fun h => b4 (sgR_eq_zero.2 h), b5, fun v3 c3 h9 h3 => absurd h9 h0⟩)
    (vaR_x2_8 (by omega))
  by_cases hA : ∀ i, i < f.1.length → tv (OkTmR f.1 vars i) = true
  · rw [if_pos hA] at L
    have h := vaR_f2 L hkb
    have e : decide (RatV f.2.s f.2.l1 f.2.l2) = tv (OkFR f vars) := by
      by_cases hk : Cn f.2
      · rw [tv_t ⟨fun i hi => tv_true (hA i hi), hk⟩]; exact decide_eq_true hk
      · rw [tv_f fun h => hk h.2]; exact decide_eq_false hk
    rw [e] at h
    exact h
  · rw [if_neg hA] at L
    rw [tv_f fun h => hA fun i hi => tv_t (h.1 i hi)]
    exact vaR_f1 L
theorem validR_c {n : Nat} {f : FormR} {vars : Int} (hl : LimF f) (hf : FewR f.1 f.2) : run n 17 [frV f, .lit (.int .i64 vars)] = some (.lit (.bool (tv (OkFR f vars)))) :=
  validRB_c (by have := hf.1; omega) (fun t ht => (hf.2.2 t ht).rb (hl.t t ht)) (hf.2.1.rb hl.k)
def unR (f : FormR) : Form := (f.1.map fun t => (t.1, t.2.q), f.2.q)
theorem small_formB {f : FormR} {vars : Int} {m : Nat} (hm : 1 ≤ m) (ht : ∀ t ∈ f.1, t.2.l1.length ≤ m ∧ t.2.l2.length ≤ m) (hk : f.2.l1.length ≤ m ∧ f.2.l2.length ≤ m) (ho : OkFR f vars) : frV f = formV (unR f) ∧ (unR f).1.length = f.1.length ∧ (∀ t ∈ (unR f).1, H t.2 ≤ m) ∧ H (unR f).2 ≤ m ∧ OkFm (unR f) vars := by
  have hc : ∀ t ∈ f.1, Cn t.2 := fun t ht => by
    obtain ⟨i, hi⟩ := List.mem_iff_getElem?.1 ht
    exact (ho.1 i (List.getElem?_eq_some_iff.1 hi).1 t.1 t.2 hi).2.2.2.1
  refine ⟨?_, by simp [unR], fun t h9 => ?_, ho.2.HB hm hk.1 hk.2, fun i hi v c h => ?_⟩
  · have e1 : f.1.map termRC = (unR f).1.map termC := by
      simp only [unR, List.map_map]
      apply List.map_congr_left
      intro t ht
      have e := (hc t ht).raw
      simp only [Function.comp, termRC, termC, ratC]
      rw [← e]
    have e2 := ho.2.raw
    unfold frV
    simp only [formV, e1]
    have e3 : rawQ (unR f).2 = f.2 := e2.symm
    rw [e3]
  · simp only [unR, List.mem_map] at h9
    obtain ⟨u, hu, rfl⟩ := h9
    exact (hc u hu).HB hm (ht u hu).1 (ht u hu).2
  · simp only [unR, List.length_map] at hi
    simp only [unR, List.getElem?_map] at h
    obtain ⟨u, hu, he⟩ := Option.map_eq_some_iff.1 h
    cases he
    obtain ⟨a1, a2, a3, _, a5⟩ := ho.1 i hi u.1 u.2 hu
    refine ⟨a1, a2, a3, fun v' c' h0 h' => ?_⟩
    simp only [unR, List.getElem?_map] at h'
    obtain ⟨u', hu', he'⟩ := Option.map_eq_some_iff.1 h'
    cases he'
    exact a5 u'.1 u'.2 h0 hu'
theorem small_form {f : FormR} {vars : Int} (hf : FewR f.1 f.2) (ho : OkFR f vars) : frV f = formV (unR f) ∧ (unR f).1.length = f.1.length ∧ (∀ t ∈ (unR f).1, H t.2 ≤ 2) ∧ H (unR f).2 ≤ 2 ∧ OkFm (unR f) vars :=
  small_formB (by omega) (fun t ht => hf.2.2 t ht) hf.2.1 ho
end Go.Proofs.YtjpoanaoaeaneaaGreatDoor
set_option linter.all false
set_option maxRecDepth 100000
set_option maxHeartbeats 6400000
namespace Go.Proofs.YtjpoanaoaeaneaaGreatDoor
open Go.RowKit
noncomputable def few_C4 : Code := (loopsOf (bodyOf Tryz.f31)).getD 0 .skip
def few_h4 (a0 : List (Int × Raw)) (i_4 : Nat) : St :=
  ⟨[(0, .sl 4 (a0.map termRC)), (5, .lit (.int .i64 (i_4 : Int)))],
   [], 0⟩
def few_o4a  : St :=
  ⟨[(4, .lit (.bool false))],
   [], 0⟩
def few_o4b  : St :=
  ⟨[(4, .any)],
   [], 0⟩
section
variable {a0 : List (Int × Raw)} {v3 : Int} {n : Nat} {i_4 : Nat} {r3 : Raw} {a1 : Raw}
theorem few_r4_1 (C1 : (i_4 : Int) < (a0.length : Int)) (E2 : a0[i_4]? = some (v3, r3)) (C3 : ¬ 2 < (r3.l1.length : Int)) (C4 : ¬ 2 < (r3.l2.length : Int)) (W5 : InI ((i_4 : Int) + 1)) :
    Cont 0 (exec Tryz.prog (tab n) 0 45 (livesOf 31) big few_C4) (livesOf 31 4) (few_h4 a0 i_4) (few_h4 a0 (i_4 + 1)) := by
  have C1_ : i_4 < a0.length := by omega
  obtain ⟨EL2, EG2⟩ := List.getElem?_eq_some_iff.1 E2
  have C3_ : ¬ 2 < r3.l1.length := by omega
  have C4_ : ¬ 2 < r3.l2.length := by omega
  have W5_ : IntKind.i64.wrap ((i_4 : Int) + 1) = (i_4 : Int) + 1 := wr64 W5.1 W5.2
  unfold Cont
  simp +decide [few_h4, loopsOf, Tryz.f31, few_C4, C1, C1_, EL2, EG2, E2, C3, C3_, C4, C4_, W5_]
theorem few_x4_1 (C1 : (i_4 : Int) < (a0.length : Int)) (E2 : a0[i_4]? = some (v3, r3)) (C3 : 2 < (r3.l1.length : Int)) :
    Leave 0 (exec Tryz.prog (tab n) 0 45 (livesOf 31) big few_C4) (livesOf 31 (outOf 4)) (few_h4 a0 i_4) (.ret) (few_o4a ) := by
  have C1_ : i_4 < a0.length := by omega
  obtain ⟨EL2, EG2⟩ := List.getElem?_eq_some_iff.1 E2
  have C3_ : 2 < r3.l1.length := by omega
  unfold Leave
  simp +decide [few_h4, loopsOf, Tryz.f31, few_o4a, few_C4, C1, C1_, EL2, EG2, E2, C3, C3_]
theorem few_x4_2 (C1 : (i_4 : Int) < (a0.length : Int)) (E2 : a0[i_4]? = some (v3, r3)) (C3 : ¬ 2 < (r3.l1.length : Int)) (C4 : 2 < (r3.l2.length : Int)) :
    Leave 0 (exec Tryz.prog (tab n) 0 45 (livesOf 31) big few_C4) (livesOf 31 (outOf 4)) (few_h4 a0 i_4) (.ret) (few_o4a ) := by
  have C1_ : i_4 < a0.length := by omega
  obtain ⟨EL2, EG2⟩ := List.getElem?_eq_some_iff.1 E2
  have C3_ : ¬ 2 < r3.l1.length := by omega
  have C4_ : 2 < r3.l2.length := by omega
  unfold Leave
  simp +decide [few_h4, loopsOf, Tryz.f31, few_o4a, few_C4, C1, C1_, EL2, EG2, E2, C3, C3_, C4, C4_]
theorem few_x4_3 (C1 : ¬ (i_4 : Int) < (a0.length : Int)) :
    Leave 0 (exec Tryz.prog (tab n) 0 45 (livesOf 31) big few_C4) (livesOf 31 (outOf 4)) (few_h4 a0 i_4) (.exit 0) (few_o4b ) := by
  have C1_ : ¬ i_4 < a0.length := by omega
  unfold Leave
  simp +decide [few_h4, loopsOf, Tryz.f31, few_o4b, few_C4, C1, C1_]
theorem few_f1 (C1 : 8 < (a0.length : Int)) :
    run n 31 [.sl 4 (a0.map termRC), .agg [.lit (.bool a1.s), natA a1.l1, natA a1.l2]] = some (.lit (.bool false)) := by
  have C1_ : 8 < a0.length := by omega
  unfold run fnP
  simp +decide [Tryz.f31, C1, C1_]
theorem few_f2 (C1 : ¬ 8 < (a0.length : Int)) (C2 : 2 < (a1.l1.length : Int)) :
    run n 31 [.sl 4 (a0.map termRC), .agg [.lit (.bool a1.s), natA a1.l1, natA a1.l2]] = some (.lit (.bool false)) := by
  have C1_ : ¬ 8 < a0.length := by omega
  have C2_ : 2 < a1.l1.length := by omega
  unfold run fnP
  simp +decide [Tryz.f31, C1, C1_, C2, C2_]
theorem few_f3 (C1 : ¬ 8 < (a0.length : Int)) (C2 : ¬ 2 < (a1.l1.length : Int)) (C3 : 2 < (a1.l2.length : Int)) :
    run n 31 [.sl 4 (a0.map termRC), .agg [.lit (.bool a1.s), natA a1.l1, natA a1.l2]] = some (.lit (.bool false)) := by
  have C1_ : ¬ 8 < a0.length := by omega
  have C2_ : ¬ 2 < a1.l1.length := by omega
  have C3_ : 2 < a1.l2.length := by omega
  unfold run fnP
  simp +decide [Tryz.f31, C1, C1_, C2, C2_, C3, C3_]
theorem few_f4 (C1 : ¬ 8 < (a0.length : Int)) (C2 : ¬ 2 < (a1.l1.length : Int)) (C3 : ¬ 2 < (a1.l2.length : Int)) (L4 : loopG Tryz.prog (tab n) 0 45 (livesOf 31) 4 few_C4 (few_h4 a0 0) = some (.ret, few_o4a )) :
    run n 31 [.sl 4 (a0.map termRC), .agg [.lit (.bool a1.s), natA a1.l1, natA a1.l2]] = some (.lit (.bool false)) := by
  have C1_ : ¬ 8 < a0.length := by omega
  have C2_ : ¬ 2 < a1.l1.length := by omega
  have C3_ : ¬ 2 < a1.l2.length := by omega
  unfold run fnP
  simp +decide [Tryz.f31, C1, C1_, C2, C2_, C3, C3_]
  rw [loopX_G (C' := few_C4) (e := (few_h4 a0 0)) ?_ ?_, L4]
  rotate_left
  · kernel_rfl
  · simp +decide [few_h4, C1, C1_, C2, C2_, C3, C3_]
  simp +decide [few_o4a, C1, C1_, C2, C2_, C3, C3_]
theorem few_f5 (C1 : ¬ 8 < (a0.length : Int)) (C2 : ¬ 2 < (a1.l1.length : Int)) (C3 : ¬ 2 < (a1.l2.length : Int)) (L4 : loopG Tryz.prog (tab n) 0 45 (livesOf 31) 4 few_C4 (few_h4 a0 0) = some (.exit 0, few_o4b )) :
    run n 31 [.sl 4 (a0.map termRC), .agg [.lit (.bool a1.s), natA a1.l1, natA a1.l2]] = some (.lit (.bool true)) := by
  have C1_ : ¬ 8 < a0.length := by omega
  have C2_ : ¬ 2 < a1.l1.length := by omega
  have C3_ : ¬ 2 < a1.l2.length := by omega
  unfold run fnP
  simp +decide [Tryz.f31, C1, C1_, C2, C2_, C3, C3_]
  rw [loopX_G (C' := few_C4) (e := (few_h4 a0 0)) ?_ ?_, L4]
  rotate_left
  · kernel_rfl
  · simp +decide [few_h4, C1, C1_, C2, C2_, C3, C3_]
  simp +decide [few_o4b, C1, C1_, C2, C2_, C3, C3_]
end
section
variable {r2 : Bool} {n : Nat} {r : Bool} {a0 : FormR}
theorem sml_f1 (K1 : run n 31 [.sl 4 (a0.1.map termRC), .agg [.lit (.bool a0.2.s), natA a0.2.l1, natA a0.2.l2]] = some (.lit (.bool r))) (C2 : r = true) (K3 : run n 17 [.agg [.sl 4 (a0.1.map termRC), .lit (.bool a0.2.s), natA a0.2.l1, natA a0.2.l2], .lit (.int .i64 4611686018427387904)] = some (.lit (.bool r2))) :
    run (n + 1) 16 [.agg [.sl 4 (a0.1.map termRC), .lit (.bool a0.2.s), natA a0.2.l1, natA a0.2.l2]] = some (.lit (.bool r2)) := by
  unfold run fnP
  simp +decide [Tryz.f16, K1, C2, K3]
theorem sml_f2 (K1 : run n 31 [.sl 4 (a0.1.map termRC), .agg [.lit (.bool a0.2.s), natA a0.2.l1, natA a0.2.l2]] = some (.lit (.bool r))) (C2 : r = false) :
    run (n + 1) 16 [.agg [.sl 4 (a0.1.map termRC), .lit (.bool a0.2.s), natA a0.2.l1, natA a0.2.l2]] = some (.lit (.bool false)) := by
  unfold run fnP
  simp +decide [Tryz.f16, K1, C2]
end
end Go.Proofs.YtjpoanaoaeaneaaGreatDoor
set_option linter.all false
set_option maxRecDepth 100000
set_option maxHeartbeats 6400000
namespace Go.Proofs.YtjpoanaoaeaneaaGreatDoor
open Go.RowKit
attribute [local irreducible] run runL loopG exec
theorem few_c {n : Nat} {l : List (Int × Raw)} {c : Raw} : run n 31 [.sl 4 (l.map termRC), .agg [.lit (.bool c.s), natA c.l1, natA c.l2]] = some (.lit (.bool (tv (FewR l c)))) := by
  by_cases h1 : 8 < l.length
  · rw [tv_f fun h => by have := h.1; omega]
    exact few_f1 (by omega)
  by_cases h2 : 2 < c.l1.length
  · rw [tv_f fun h => by have := h.2.1.1; omega]
    exact few_f2 (by omega) (by omega)
  by_cases h3 : 2 < c.l2.length
  · rw [tv_f fun h => by have := h.2.1.2; omega]
    exact few_f3 (by omega) (by omega) (by omega)
  have L := loopG_all (O := tab n) (P := Tryz.prog) (m := 0) (N := 45) (lives := livesOf 31) (r := 4) (C := few_C4) (M := l.length) (enc := few_h4 l) (p := fun i => tv (∀ t, l[i]? = some t → Two t.2)) (exN := .exit 0) (exE := .ret) (out := few_o4b) (outE := few_o4a) (by omega) (fun h => by cases h) (fun h => by cases h)
    (fun i hi _ => by
      obtain ⟨v, r⟩ : Int × Raw := l[i]
      have hx : l[i]? = some l[i] := List.getElem?_eq_getElem hi
      obtain ⟨t, ht⟩ : ∃ t, l[i] = t := ⟨_, rfl⟩
      rw [ht] at hx
      obtain ⟨v, r⟩ := t
      refine ⟨fun hp => ?_, fun hp => ?_⟩
      · have hp := tv_true hp _ hx
        have a1 := hp.1; have a2 := hp.2
        dsimp only at a1 a2
        exact few_r4_1 (by omega) hx (by omega) (by omega) ⟨by omega, by omega⟩
      · have hp := tv_false hp
        by_cases a1 : 2 < r.l1.length
        · exact few_x4_1 (by omega) hx (by omega)
        · by_cases a2 : 2 < r.l2.length
          · exact few_x4_2 (by omega) hx (by omega) (by omega)
          · exact absurd (fun t ht => by rw [hx] at ht; cases ht; exact ⟨by dsimp only; omega, by dsimp only; omega⟩) hp)
    (few_x4_3 (by omega))
  by_cases hA : ∀ i, i < l.length → tv (∀ t, l[i]? = some t → Two t.2) = true
  · rw [if_pos hA] at L
    rw [tv_t]
    · exact few_f5 (by omega) (by omega) (by omega) L
    · refine ⟨by omega, ⟨by omega, by omega⟩, fun t ht => ?_⟩
      obtain ⟨i, hi⟩ := List.mem_iff_getElem?.1 ht
      exact tv_true (hA i (List.getElem?_eq_some_iff.1 hi).1) t hi
  · rw [if_neg hA] at L
    rw [tv_f]
    · exact few_f4 (by omega) (by omega) (by omega) L
    · intro h
      refine hA fun i hi => tv_t fun t ht => h.2.2 t (List.mem_of_getElem? ht)
structure SmF7 (F : Form) : Prop where
  l : F.1.length ≤ 8
  t : ∀ t ∈ F.1, H t.2 ≤ 2
  k : H F.2 ≤ 2
  ok : OkFm F 4611686018427387904
theorem small_or (n : Nat) {f : FormR} (hl : LimF f) : run (n + 1) 16 [frV f] = some (.lit (.bool false)) ∨ (run (n + 1) 16 [frV f] = some (.lit (.bool true)) ∧ ∃ F : Form, frV f = formV F ∧ SmF7 F) := by
  have K := few_c (n := n) (l := f.1) (c := f.2)
  by_cases hf : FewR f.1 f.2
  · rw [tv_t hf] at K
    have V := validR_c (n := n) (vars := 4611686018427387904) hl hf
    have h := sml_f1 K rfl V
    by_cases ho : OkFR f 4611686018427387904
    · rw [tv_t ho] at h
      obtain ⟨a1, a2, a3, a4, a5⟩ := small_form hf ho
      exact .inr ⟨h, _, a1, by rw [a2]; exact hf.1, a3, a4, a5⟩
    · rw [tv_f ho] at h
      exact .inl h
  · rw [tv_f hf] at K
    exact .inl (sml_f2 K rfl)
end Go.Proofs.YtjpoanaoaeaneaaGreatDoor
set_option linter.all false
namespace Go.Proofs.YtjpoanaoaeaneaaGreatDoor
open Go.RowKit
def InR (k : Nat) (F : List (Int × Rat)) : Prop := ∀ t ∈ F, 0 ≤ t.1 ∧ t.1 < (k : Int)
theorem InR.app {k : Nat} {F G : List (Int × Rat)} (h : InR k F) (g : InR k G) : InR k (F ++ G) := fun t ht => (List.mem_append.1 ht).elim (h t) (g t)
theorem InR.put {k : Nat} {v : Int} {q : Rat} (h : 0 ≤ v ∧ v < (k : Int)) : InR k (put1 v q) := fun t ht => by
  obtain ⟨rfl, _⟩ := put1_mem ht
  exact h
theorem InR.plus {k : Nat} {v : Int} {c : Rat} (hv : 0 ≤ v ∧ v < (k : Int)) : ∀ {d : Bool} {F : List (Int × Rat)}, InR k F → InR k (plusV d F v c)
  | d, [], _ => by
    rw [plusV]
    split
    · exact fun t ht => by cases ht
    · exact InR.put hv
  | d, t :: F, h => by
    have ht : 0 ≤ t.1 ∧ t.1 < (k : Int) := h t (by simp)
    have hF : InR k F := fun u hu => h u (by simp [hu])
    rw [plusV]
    split
    · exact (InR.put ht).app (InR.plus hv hF)
    · split
      · exact (InR.put hv).app ((InR.put ht).app (InR.plus hv hF))
      · exact (InR.put ht).app (InR.plus hv hF)
theorem InR.add {k : Nat} : ∀ {G F : List (Int × Rat)}, InR k F → InR k G → InR k (addV F G)
  | [], F, h, _ => h
  | t :: G, F, h, g => by
    have e : addV F (t :: G) = addV (plusV false F t.1 t.2) G := rfl
    rw [e]
    exact InR.add (InR.plus (g t (by simp)) h) fun u hu => g u (by simp [hu])
theorem TmB.add {b : Nat} : ∀ {G F : List (Int × Rat)} {m : Nat}, TmB m F → TmB b G → TmB (m + (b + 1) * G.length) (addV F G)
  | [], F, m, h, _ => h
  | t :: G, F, m, h, g => by
    have e : addV F (t :: G) = addV (plusV false F t.1 t.2) G := rfl
    rw [e]
    refine (TmB.add (TmB.plus (g t (by simp)).2 h) fun u hu => g u (by simp [hu])).mono ?_
    rw [List.length_cons, Nat.mul_add]
    omega
theorem TmB.bd {m : Nat} {f : Form} (h : TmB m f.1) (hl : f.1.length ≤ 100000000) (hk : H f.2 ≤ m) : BdF m f := ⟨hl, fun t ht => (h t ht).2, hk⟩
end Go.Proofs.YtjpoanaoaeaneaaGreatDoor
set_option linter.all false
set_option maxRecDepth 100000
set_option maxHeartbeats 6400000
namespace Go.Proofs.YtjpoanaoaeaneaaGreatDoor
open Go.RowKit
open Lib (decDigits)
attribute [local irreducible] run runL loopG exec ltR ltC
theorem dd_pow : ∀ (m u : Nat), 0 < m → u < 10 ^ m → (decDigits u).length ≤ m
  | 0, _, h, _ => absurd h (by omega)
  | m + 1, u, _, h => by
    by_cases h1 : u < 10
    · rw [dd_lt h1]; simp
    · rw [dd_ge h1, List.length_append, List.length_singleton]
      have e : 10 ^ (m + 1) = 10 ^ m * 10 := Nat.pow_succ 10 _
      cases m with
      | zero => omega
      | succ m =>
        have := dd_pow (m + 1) (u / 10) (by omega) (by omega)
        omega
theorem lmb_t20 {k : Nat} (h : (lmb k).length ≤ 2) : k < 10 ^ 20 := by
  have h2 := val_lt (lim_lmb k)
  rw [val_lmb] at h2
  have h3 : (4294967296 : Nat) ^ (lmb k).length ≤ 4294967296 ^ 2 := Nat.pow_le_pow_right (by omega) h
  omega
theorem dd_t20 {k : Nat} (h : (lmb k).length ≤ 2) : (decDigits k).length ≤ 20 := dd_pow 20 k (by omega) (lmb_t20 h)
theorem abs_two {q : Rat} (h : H q ≤ 2) : (decDigits q.num.natAbs).length ≤ 20 ∧ (decDigits q.den).length ≤ 20 ∧ (absT q).length ≤ 41 := by
  have a1 : (lmb q.num.natAbs).length ≤ H q := Nat.le_max_left _ _
  have a2 : (lmb q.den).length ≤ H q := Nat.le_max_right _ _
  have h1 := dd_t20 (k := q.num.natAbs) (by omega)
  have h2 := dd_t20 (k := q.den) (by omega)
  refine ⟨h1, h2, ?_⟩
  unfold absT
  rw [List.length_append]
  split
  · simp; omega
  · simp; omega
theorem prt_two {t : Int × Rat} (h : H t.2 ≤ 2) (h1 : t.1 < 1000000000) : (prt t).length ≤ 52 := by
  have a1 := (abs_two h).2.2
  have a3 : (decDigits t.1.toNat).length ≤ 9 := dd_pow 9 t.1.toNat (by omega) (by omega)
  unfold prt
  rw [List.length_append, List.length_cons]
  split
  · simp; omega
  · rw [List.length_append]; simp; omega
theorem txL_two : ∀ {l : List (Int × Rat)} {a : List UInt8}, (∀ t ∈ l, H t.2 ≤ 2 ∧ t.1 < 1000000000) → (l.foldl txS a).length ≤ a.length + l.length * 55
  | [], a, _ => by simp
  | t :: l, a, h => by
    have h0 := h t (by simp)
    have h1 : (txS a t).length ≤ a.length + 55 := by
      have := jn_len a (ngT t.2) (prt t)
      have := prt_two h0.1 h0.2
      unfold txS
      omega
    have h2 := txL_two (l := l) (a := txS a t) (fun u hu => h u (by simp [hu]))
    rw [List.foldl_cons, List.length_cons, Nat.add_mul]
    omega
theorem txt_two {f : Form} (hl : f.1.length ≤ 8) (ht : ∀ t ∈ f.1, H t.2 ≤ 2 ∧ t.1 < 1000000000) (hk : H f.2 ≤ 2) : (txt f).length ≤ 900 := by
  have h := txL_two (l := f.1) (a := []) ht
  have a := (abs_two hk).2.2
  have hm : f.1.length * 55 ≤ 8 * 55 := Nat.mul_le_mul_right _ hl
  have hj := jn_len (txL f.1) (ngT f.2) (absT f.2)
  simp only [List.length_nil, Nat.zero_add] at h
  have h2 : (txL f.1).length ≤ f.1.length * 55 := h
  unfold txt
  split <;> omega
theorem lt_law {f : FormR} (hf : LimF f) : Con Tryz.prog 3 [frV f] (.lit (.bool true)) := by
  rcases small_or 11 hf with h | ⟨h, F, e, hF⟩
  · exact ltR_con (n := 0) (ltR_f1 h rfl)
  rw [e] at h ⊢
  have lF := hF.l
  have kF := hF.k
  have tF : TmB 2 F.1 := fun t ht => ⟨hF.ok.srt.1.2 t ht, hF.t t ht⟩
  have hb : BdF 17179869184 F := (tF.bd (m := 2) (by omega) kF).mono (by omega)
  have V := validF_c (n := 12) (vars := 1000000000) hb
  by_cases ho : OkFm F 1000000000
  · rw [tv_t ho] at V
    have hv : ∀ t ∈ F.1, 0 ≤ t.1 ∧ t.1 < 1000000000 := fun t ht => by
      obtain ⟨i, hi⟩ := List.mem_iff_getElem?.1 ht
      obtain ⟨a, b, _⟩ := ho i (List.getElem?_eq_some_iff.1 hi).1 t.1 t.2 hi
      exact ⟨a, b⟩
    have hB : TxB F := ⟨by omega, fun t ht => ⟨by have := hF.t t ht; omega, (hv t ht).1, by have := (hv t ht).2; omega⟩, by omega⟩
    have hlen := txt_two lF (fun t ht => ⟨hF.t t ht, (hv t ht).2⟩) kF
    have nb : ∀ {q : Rat}, H q ≤ 2 → NB q := fun {q} h => by
      obtain ⟨a, b, _⟩ := abs_two h
      exact ⟨by omega, by omega⟩
    have hp : psT (txt F) = .ok F := psT_txt hF.ok.srt.1 (fun t ht => ⟨nb (hF.t t ht), (hv t ht).1, dd_pow 9 _ (by omega) (by have := hv t ht; omega)⟩) (nb kF)
    have A := ltx_c (n := 5) hB
    have B := ftx_c (n := 6) hB
    have C := parse_c (n := 1) (L := txt F) (by omega)
    rw [hp] at C
    have Q := feq_c (n := 12) hb hb
    rw [tv_t rfl] at Q
    exact ltC_con (n := 0) (ltC_f3 h rfl V rfl A C B rfl rfl rfl Q)
  · rw [tv_f ho] at V
    exact ltC_con (n := 0) (ltC_f2 h rfl V rfl)
end Go.Proofs.YtjpoanaoaeaneaaGreatDoor
set_option linter.all false
namespace Go.Proofs.YtjpoanaoaeaneaaGreatDoor
open Go.ChangeShapes Go.WideShapes Go.RowKit Go.Deep
def okT : Nat → Nat → Prop := fun _ _ => True
theorem bulk_one_le {H : Type} (d : DataW H) : 1 ≤ Rows.uptoBulk d := by
  cases d with
  | lit l => cases l <;> simp [Rows.uptoBulk]
  | nil => simp [Rows.uptoBulk]
  | ptr d => simp [Rows.uptoBulk]
  | slice elems spare => simp [Rows.uptoBulk]
  | agg parts => simp [Rows.uptoBulk]
  | iface t d => simp [Rows.uptoBulk]
  | map entries => simp [Rows.uptoBulk]
  | held h => simp [Rows.uptoBulk]
theorem bulk_part_le {H : Type} {d : DataW H} {l : List (DataW H)} (h : d ∈ l) : Rows.uptoBulk d ≤ Rows.uptoBulkAll l := by
  induction l with
  | nil => cases h
  | cons x r ih =>
    simp only [Rows.uptoBulkAll]
    cases List.mem_cons.1 h with
    | inl e => subst e; omega
    | inr e => have := ih e; omega
theorem bulk_length_le {H : Type} (l : List (DataW H)) : l.length ≤ Rows.uptoBulkAll l := by
  induction l with
  | nil => simp [Rows.uptoBulkAll]
  | cons x r ih => have := bulk_one_le x; simp only [Rows.uptoBulkAll, List.length_cons]; omega
theorem bulk_agg {H : Type} {d : DataW H} {l : List (DataW H)} (h : d ∈ l) : Rows.uptoBulk d ≤ Rows.uptoBulk (.agg l) := by
  have := bulk_part_le h
  simp only [Rows.uptoBulk]
  omega
theorem bulk_slice {H : Type} {d : DataW H} {l r : List (DataW H)} (h : d ∈ l) : Rows.uptoBulk d ≤ Rows.uptoBulk (.slice l r) := by
  have := bulk_part_le h
  simp only [Rows.uptoBulk]
  omega
theorem bulk_slice_len {H : Type} (l r : List (DataW H)) : l.length ≤ Rows.uptoBulk (.slice l r) := by
  have := bulk_length_le l
  simp only [Rows.uptoBulk]
  omega
def Opens (w : World) (t : TypeId) (A : Nat → List AV → Prop) : Prop :=
  ∀ (H : Type) (enc : TypeId × Value → H) (base : Nat) (spare : Nat → Bool) (held : Bool) (fuel : Nat) (cs : List Value) (x : DataW H × List MemPlace), DataW.trod enc Tryz.prog w base spare held fuel t cs = some x → ∃ us, A (Rows.uptoBulk x.1) us ∧ RV (RepT w okT) us cs
def Up1 (A : Nat → List AV → Prop) : Prop := ∀ N M us, N ≤ M → A N us → A M us
theorem Opens.mono {w : World} {t : TypeId} {A B : Nat → List AV → Prop} (h : Opens w t A) (hA : ∀ N us, A N us → B N us) : Opens w t B := fun H enc base spare held fuel cs x hx => by
  obtain ⟨us, h1, h2⟩ := h H enc base spare held fuel cs x hx
  exact ⟨us, hA _ _ h1, h2⟩
theorem rvq1 {R : AV → Value → Prop} {a : AV} {v : Value} (h : R a v) : RV R [a] [v] := ⟨rfl, fun i d hi => by
  match i, hi with
  | 0, hi => cases hi; exact ⟨v, rfl, h⟩
  | i + 1, hi => simp at hi⟩
theorem rv_fld {R : AV → Value → Prop} {us bs : List AV} {cs : List Value} {o n : Nat} (h1 : RV R us ((cs.drop o).take n)) (h2 : RV R bs (cs.drop (o + n))) (hn : o + n ≤ cs.length) : RV R (us ++ bs) (cs.drop o) := by
  have l1 := h1.1
  have l2 := h2.1
  rw [List.length_take, List.length_drop] at l1
  rw [List.length_drop] at l2
  refine ⟨by rw [List.length_append, List.length_drop]; omega, fun i d hi => ?_⟩
  by_cases hl : i < us.length
  · rw [List.getElem?_append_left hl] at hi
    obtain ⟨u, h3, h4⟩ := h1.2 i d hi
    rw [List.getElem?_take, if_pos (by omega)] at h3
    exact ⟨u, h3, h4⟩
  · rw [List.getElem?_append_right (by omega)] at hi
    obtain ⟨u, h3, h4⟩ := h2.2 _ d hi
    refine ⟨u, ?_, h4⟩
    rw [List.getElem?_drop] at h3 ⊢
    rw [← h3]
    congr 1
    omega
theorem rv_end {R : AV → Value → Prop} {cs : List Value} {N : Nat} (h : cs.length = N) : RV R [] (cs.drop N) := by
  rw [List.drop_of_length_le (by omega)]
  exact ⟨rfl, fun i d hi => by simp at hi⟩
section
variable {w : World}
theorem op_int {t : TypeId} {k : IntKind} (ht : Tryz.prog.underlying t = some (.int k)) : Opens w t (fun _ us => ∃ z, us = [.lit (.int k z)] ∧ (Lit.int k z).wf = true) := fun H enc base spare held fuel cs x hx => by
  obtain ⟨n, rfl, rfl, hw⟩ := DataW.trod_int ht hx
  exact ⟨_, ⟨n, rfl, hw⟩, rvq1 (.lit _)⟩
theorem op_bool {t : TypeId} (ht : Tryz.prog.underlying t = some .bool) : Opens w t (fun _ us => ∃ b, us = [.lit (.bool b)]) := fun H enc base spare held fuel cs x hx => by
  obtain ⟨b, rfl, _⟩ := DataW.trod_bool ht hx
  exact ⟨_, ⟨b, rfl⟩, rvq1 (.lit _)⟩
theorem fldB {H : Type} {enc : TypeId × Value → H} {base : Nat} {spare : Nat → Bool} {held : Bool} {t : TypeId} {fs : Array Field} {fuel : Nat} {cs : List Value} {x : DataW H × List MemPlace} (hs : Tryz.prog.underlying t = some (.struct fs)) (h : DataW.trod enc Tryz.prog w base spare held fuel t cs = some x) :
    cs.length = Tryz.prog.cellsOf t ∧ ∀ (i : Nat) (f : Field) (T : TypeId) (o : Nat), fs[i]? = some f → f.type = T → f.offset = o → ∃ n y, DataW.trod enc Tryz.prog w base spare held n T ((cs.drop o).take (Tryz.prog.cellsOf T)) = some y ∧ Rows.uptoBulk y.1 ≤ Rows.uptoBulk x.1 := by
  obtain ⟨xs, n, _, hx, hl, hlen, hg⟩ := DataW.trod_struct hs h
  refine ⟨hl, fun i f T o hf hT ho => ⟨n, xs[i]'(by rw [hlen]; exact (Array.getElem?_eq_some_iff.1 hf).1), ?_, ?_⟩⟩
  · subst hT ho
    rw [hg i f hf]
    exact List.getElem?_eq_getElem _
  · subst hx
    exact bulk_agg (List.mem_map_of_mem (List.getElem_mem _))
theorem addr_at {b o i : Nat} : (⟨b, o, none⟩ : Addr).add i = ⟨b, o + i, none⟩ := by
  unfold Addr.add
  split
  · rename_i h; subst h; rfl
  · rfl
theorem op_sl {t e : TypeId} {k : Nat} {A : Nat → List AV → Prop} (ht : Tryz.prog.underlying t = some (.slice e)) (hk : Tryz.prog.cellsOf e = k) (h0k : 0 < k) (he : Opens w e A) (hA : Up1 A) :
    Opens w t (fun N us => ∃ es : List (List AV), us = [.sl k es] ∧ es.length ≤ N ∧ ∀ e ∈ es, A N e) := fun H enc base spare held fuel cs x hx => by
  rcases open_slice ht hx with ⟨rfl, _⟩ | ⟨a, len, cap, m, n, D, Pl, rfl, _, hl, hm, hmm, hxe, hi⟩
  · exact ⟨_, ⟨[], rfl, by simp, fun e he => by cases he⟩, rvq1 (.nil none 0)⟩
  · have hlm : len ≤ m := by rw [hmm]; split <;> omega
    have hb : ∀ i, i < len → Rows.uptoBulk (D i) ≤ Rows.uptoBulk x.1 := fun i hil => by
      subst hxe
      exact bulk_slice (List.mem_map.2 ⟨i, List.mem_range.2 hil, rfl⟩)
    have hbl : len ≤ Rows.uptoBulk x.1 := by
      subst hxe
      have := bulk_slice_len ((List.range len).map D) ((List.range (m - len)).map fun j => D (len + j))
      rw [List.length_map, List.length_range] at this
      exact this
    obtain ⟨U, hU⟩ := choose_lt (n := len) (p := fun i (u : List AV) => A (Rows.uptoBulk x.1) u ∧ ∃ cs', RV (RepT w okT) u cs' ∧ w.cells? base (a.add (i * k)) k = some cs') (fun i hil => by
      obtain ⟨cs', h1, h2⟩ := hi i (by omega)
      rw [hk] at h1
      obtain ⟨u, hu, hr⟩ := he H enc base spare held _ _ _ h2
      exact ⟨u, hA _ _ _ (hb i hil) hu, cs', hr, h1⟩)
    refine ⟨[.sl k ((List.range len).map U)], ⟨_, rfl, by rw [List.length_map, List.length_range]; exact hbl, fun e he => ?_⟩, ?_⟩
    · obtain ⟨i, hir, rfl⟩ := List.mem_map.1 he
      exact (hU i (List.mem_range.1 hir)).1
    · by_cases h0 : len = 0
      · subst h0; exact rvq1 (.nil (some a) cap)
      · have hz := (hU 0 (by omega)).2.choose_spec.2
        obtain ⟨_, hz1, hz2⟩ := World.cells?_some hz
        have hz3 := hz2 0 h0k
        rw [List.getElem?_eq_getElem (by omega)] at hz3
        have hs0 := World.cell?_spot hz3
        obtain ⟨b, o, sp⟩ := a
        have hsp : sp = none := by
          simp [Addr.add] at hs0
          exact hs0
        subst hsp
        have key : ∀ (i j : Nat) (e : List AV) (d : AV), ((List.range len).map U)[i]? = some e → e[j]? = some d → ∃ u, w.cell? ⟨b, o + i * k + j, none⟩ = some u ∧ RepT w okT d u := fun i j e d hie hjd => by
          have hil : i < len := by have := (List.getElem?_eq_some_iff.1 hie).1; rw [List.length_map, List.length_range] at this; exact this
          rw [List.getElem?_map, List.getElem?_range hil] at hie
          cases hie
          obtain ⟨_, cs', hr, hc⟩ := hU i hil
          obtain ⟨_, q1, q2⟩ := World.cells?_some hc
          obtain ⟨u, g1, g2⟩ := hr.2 j d hjd
          have hj : j < k := by
            have := (List.getElem?_eq_some_iff.1 g1).1
            omega
          have := q2 j hj
          rw [addr_at, addr_at] at this
          exact ⟨u, this.trans g1, g2⟩
        have R := RepT.sl (w := w) (ok := okT) (k := k) (b := b) (o := o) (c := cap) (es := (List.range len).map U) (fun e he => by
            obtain ⟨i, hir, rfl⟩ := List.mem_map.1 he
            obtain ⟨_, cs', hr, hc⟩ := hU i (List.mem_range.1 hir)
            obtain ⟨_, q1, _⟩ := World.cells?_some hc
            have := hr.1
            omega) (by rw [List.length_map, List.length_range]; exact hl) (fun i j e d he hd => by
            obtain ⟨u, h1, _⟩ := key i j e d he hd
            exact ⟨trivial, by rw [h1]; rfl⟩) (fun i j e d he hd => by
            obtain ⟨u, h1, h2⟩ := key i j e d he hd
            rw [h1]
            exact h2)
        rw [List.length_map, List.length_range] at R
        exact rvq1 R
theorem list_of {α : Type} {enc : α → List AV} {ok : α → Prop} : ∀ {es : List (List AV)}, (∀ e ∈ es, ∃ x, e = enc x ∧ ok x) → ∃ L : List α, es = L.map enc ∧ ∀ x ∈ L, ok x
  | [], _ => ⟨[], rfl, fun x hx => by cases hx⟩
  | e :: es, h => by
    obtain ⟨x, rfl, hx⟩ := h e (List.mem_cons_self ..)
    obtain ⟨L, rfl, hL⟩ := list_of fun e he => h e (List.mem_cons_of_mem _ he)
    exact ⟨x :: L, rfl, fun y hy => by
      rcases List.mem_cons.1 hy with rfl | hy
      · exact hx
      · exact hL y hy⟩
theorem op_list {α : Type} {t e : TypeId} {k : Nat} {enc : α → List AV} {ok : Nat → α → Prop} (ht : Tryz.prog.underlying t = some (.slice e)) (hk : Tryz.prog.cellsOf e = k) (h0k : 0 < k) (he : Opens w e (fun N us => ∃ x, us = enc x ∧ ok N x)) (hm : ∀ N M x, N ≤ M → ok N x → ok M x) :
    Opens w t (fun N us => ∃ L : List α, us = [.sl k (L.map enc)] ∧ L.length ≤ N ∧ ∀ x ∈ L, ok N x) :=
  (op_sl ht hk h0k he (fun N M us hN ⟨x, h1, h2⟩ => ⟨x, h1, hm N M x hN h2⟩)).mono fun N us ⟨es, h1, h2, h3⟩ => by
    obtain ⟨L, rfl, hL⟩ := list_of h3
    exact ⟨L, h1, by simpa using h2, hL⟩
def okInt (k : IntKind) (_ : Nat) (z : Int) : Prop := (Lit.int k z).wf = true
theorem okInt.up {k : IntKind} {N M : Nat} {z : Int} (hN : N ≤ M) (h : okInt k N z) : okInt k M z := h
def okBool (_ : Nat) (_ : Bool) : Prop := True
theorem okBool.up {N M : Nat} {b : Bool} (hN : N ≤ M) (h : okBool N b) : okBool M b := h
theorem op_intO {t : TypeId} {k : IntKind} (ht : Tryz.prog.underlying t = some (.int k)) : Opens w t (fun N us => ∃ z, us = [.lit (.int k z)] ∧ okInt k N z) := op_int ht
theorem op_boolO {t : TypeId} (ht : Tryz.prog.underlying t = some .bool) : Opens w t (fun N us => ∃ b, us = [.lit (.bool b)] ∧ okBool N b) := (op_bool ht).mono fun N us ⟨b, h⟩ => ⟨b, h, trivial⟩
def okNat (N : Nat) (l : List Nat) : Prop := Lim l ∧ l.length ≤ N
theorem okNat.up {N M : Nat} {l : List Nat} (hN : N ≤ M) (h : okNat N l) : okNat M l := ⟨h.1, Nat.le_trans h.2 hN⟩
theorem cU32 : Tryz.prog.cellsOf 165 = 1 := by kernel_rfl
theorem op_natO : Opens w 24 (fun N us => ∃ l, us = [natA l] ∧ okNat N l) :=
  (op_list (α := Nat) (enc := fun x => [.lit (.int .u32 (x : Int))]) (ok := fun _ x => x < 4294967296) Tryz.underlying24 cU32 (by omega) ((op_int Tryz.underlying165).mono fun N us ⟨z, h1, h2⟩ => by
    have h3 : 0 ≤ z ∧ z ≤ 4294967295 := by simpa [Lit.wf, IntKind.min, IntKind.max, IntKind.signed, IntKind.bits] using h2
    exact ⟨z.toNat, by rw [h1, Int.toNat_of_nonneg h3.1], by omega⟩) (fun N M x _ h => h)).mono fun N us ⟨L, h1, h2, h3⟩ => ⟨L, h1, fun x hx => h3 x hx, h2⟩
def okRaw (N : Nat) (r : Raw) : Prop := okNat N r.l1 ∧ okNat N r.l2
theorem okRaw.up {N M : Nat} {r : Raw} (hN : N ≤ M) (h : okRaw N r) : okRaw M r := ⟨h.1.up hN, h.2.up hN⟩
theorem arg_agg {us : List AV} {cs : Array Value} (h : RV (RepT w okT) us (Value.agg cs).cells.toList) : RepT w okT (.agg us) (.agg cs) := by
  have h1 : (Value.agg cs).cells = cs := rfl
  rw [h1] at h
  refine .agg (by have := h.1; simpa using this) fun i d hi => ?_
  obtain ⟨u, h2, h3⟩ := h.2 i d hi
  have h4 : cs[i]? = some u := by simpa using h2
  rw [Array.getD_eq_getD_getElem?, h4]
  exact h3
theorem rvs_nil {R : AV → Value → Prop} : RV R [] [] := ⟨rfl, fun i d hi => by simp at hi⟩
theorem rvs_cons {R : AV → Value → Prop} {a : AV} {v : Value} {l : List AV} {vs : List Value} (h : R a v) (hl : RV R l vs) : RV R (a :: l) (v :: vs) := ⟨by simp [hl.1], fun i d hi => by
  match i, hi with
  | 0, hi => cases hi; exact ⟨v, rfl, h⟩
  | i + 1, hi => exact hl.2 i d (by simpa using hi)⟩
end
end Go.Proofs.YtjpoanaoaeaneaaGreatDoor
