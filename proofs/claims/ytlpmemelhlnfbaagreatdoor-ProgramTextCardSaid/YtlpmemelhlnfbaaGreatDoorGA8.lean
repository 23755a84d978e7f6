/- Walks: linear.decimal. Walks: slices.Reverse[[]string,string]. Walks: linear.size. -/
import Derived.Test.YtlpmemelhlnfbaaGreatDoorGA5
import Derived.Test.YtlpmemelhlnfbaaGreatDoorGA6
set_option linter.all false
set_option linter.all false
set_option maxRecDepth 100000
set_option maxHeartbeats 6400000
namespace Go.Proofs.YtlpmemelhlnfbaaGreatDoor
open Go.RowKit

/-! linear.decimal, level 5 -/
noncomputable def ldc_C5 : Code := (loopsOf (bodyOf Tryz.f176)).getD 0 .skip
def ldc_h5 (nat_5 : List Nat) (r : List Nat) (out_5 : List ByteArray) : St :=
  ⟨[(0, natA nat_5), (3, natA r), (4, .own 0 out_5.length)],
   [(0, some (.row 9 1 (out_5.map strC) 0))], 1⟩
def ldc_o5a (out_5 : List ByteArray) : St :=
  ⟨[(4, .own 0 out_5.length)],
   [(0, some (.row 9 1 (out_5.map strC) 0))], 1⟩
theorem ldc_r5_1 {n : Nat} {nat_5 : List Nat} {r : List Nat} {r16 : List Nat} {r17 : List Nat} {r18 : Int} {r19 : Int} {r20 : Bool} {r21 : ByteArray} {r22 : ByteArray} {cat3 : ByteArray} {out_5 : List ByteArray} (C1 : 0 < (nat_5.length : Int)) (K2 : (oND fun x y => .tup [natA (lmb (val x / val y)), natA (lmb (val x % val y)), .lit (.int .i64 0)]) [natA nat_5, natA r] = some (.tup [natA r16, natA r17, .lit (.int .i64 r18)])) (K3 : (oN1 u64N fun x => .tup [.lit (.int .u64 (val x : Nat)), .lit (.bool true)]) [natA r17] = some (.tup [.lit (.int .u64 r19), .lit (.bool r20)])) (K4 : (oFU) [.lit (.int .u64 r19), .lit (.int .i64 10)] = some (.lit (.string r21))) (C5 : 0 < (r16.length : Int)) (W6 : InI (9 - (r21.size : Int))) (K7 : (oRepeat) [.lit (.string (⟨#[48]⟩ : ByteArray)), .lit (.int .i64 (9 - (r21.size : Int)))] = some (.lit (.string r22))) (S8 : r22.size + r21.size ≤ 9000000000000000000) (D8 : cat3 = r22 ++ r21) (M9 : out_5.length + 1 ≤ 100000000) :
    Cont 0 (exec Tryz.prog (tab (n + 5)) 0 50 (livesOf 176) big ldc_C5) (livesOf 176 5) (ldc_h5 nat_5 r out_5) (ldc_h5 r16 r (out_5 ++ [cat3])) := by
  have C1_ : 0 < nat_5.length := by omega
  have C1_z : (nat_5.length : Int) ≠ 0 := by omega
  have C1_e : ((nat_5.length : Int) == 0) = false := by simpa using C1_z
  have C1_g : ((nat_5.length : Int) != 0) = true := by simpa using C1_z
  have C5_ : 0 < r16.length := by omega
  have C5_z : (r16.length : Int) ≠ 0 := by omega
  have C5_e : ((r16.length : Int) == 0) = false := by simpa using C5_z
  have C5_g : ((r16.length : Int) != 0) = true := by simpa using C5_z
  have W6_ : IntKind.i64.wrap (9 - (r21.size : Int)) = 9 - (r21.size : Int) := wr64 W6.1 W6.2
  have S8_r := cat_r S8 D8
  have S8_q := cat_q S8 D8
  have M9_ : ∀ b, b ≤ 10000 → roomy (out_5.length + 1) b = true := fun b hb => roomy_s M9 hb
  unfold Cont
  simp +decide [ldc_h5, loopsOf, Tryz.f176, ldc_C5, C1, C1_, C1_e, C1_g, K2, K3, K4, C5, C5_, C5_e, C5_g, W6_, K7, ↓S8_r, S8_q, M9_]
theorem ldc_r5_2 {n : Nat} {nat_5 : List Nat} {r : List Nat} {r16 : List Nat} {r17 : List Nat} {r18 : Int} {r19 : Int} {r20 : Bool} {r21 : ByteArray} {out_5 : List ByteArray} (C1 : 0 < (nat_5.length : Int)) (K2 : (oND fun x y => .tup [natA (lmb (val x / val y)), natA (lmb (val x % val y)), .lit (.int .i64 0)]) [natA nat_5, natA r] = some (.tup [natA r16, natA r17, .lit (.int .i64 r18)])) (K3 : (oN1 u64N fun x => .tup [.lit (.int .u64 (val x : Nat)), .lit (.bool true)]) [natA r17] = some (.tup [.lit (.int .u64 r19), .lit (.bool r20)])) (K4 : (oFU) [.lit (.int .u64 r19), .lit (.int .i64 10)] = some (.lit (.string r21))) (C5 : ¬ 0 < (r16.length : Int)) (M6 : out_5.length + 1 ≤ 100000000) :
    Cont 0 (exec Tryz.prog (tab (n + 5)) 0 50 (livesOf 176) big ldc_C5) (livesOf 176 5) (ldc_h5 nat_5 r out_5) (ldc_h5 r16 r (out_5 ++ [r21])) := by
  have C1_ : 0 < nat_5.length := by omega
  have C1_z : (nat_5.length : Int) ≠ 0 := by omega
  have C1_e : ((nat_5.length : Int) == 0) = false := by simpa using C1_z
  have C1_g : ((nat_5.length : Int) != 0) = true := by simpa using C1_z
  have C5_ : ¬ 0 < r16.length := by omega
  have C5_z : (r16.length : Int) = 0 := by omega
  have C5_e : ((r16.length : Int) == 0) = true := by rw [C5_z]; simp
  have C5_g : ((r16.length : Int) != 0) = false := by rw [C5_z]; simp
  have M6_ : ∀ b, b ≤ 10000 → roomy (out_5.length + 1) b = true := fun b hb => roomy_s M6 hb
  unfold Cont
  simp +decide [ldc_h5, loopsOf, Tryz.f176, ldc_C5, C1, C1_, C1_e, C1_g, K2, K3, K4, C5, C5_, C5_e, C5_g, M6_]
theorem ldc_x5_1 {n : Nat} {nat_5 : List Nat} {r : List Nat} {out_5 : List ByteArray} (C1 : ¬ 0 < (nat_5.length : Int)) :
    Leave 0 (exec Tryz.prog (tab (n + 5)) 0 50 (livesOf 176) big ldc_C5) (livesOf 176 (outOf 5)) (ldc_h5 nat_5 r out_5) (.exit 0) (ldc_o5a out_5) := by
  have C1_ : ¬ 0 < nat_5.length := by omega
  have C1_z : (nat_5.length : Int) = 0 := by omega
  have C1_e : ((nat_5.length : Int) == 0) = true := by rw [C1_z]; simp
  have C1_g : ((nat_5.length : Int) != 0) = false := by rw [C1_z]; simp
  unfold Leave
  simp +decide [ldc_h5, loopsOf, Tryz.f176, ldc_o5a, ldc_C5, C1, C1_, C1_e, C1_g]
theorem ldc_f1 {n : Nat} {a0 : List Nat} (C1 : (a0.length : Int) = 0) :
    run (n + 5) 176 [natA a0] = some (.lit (.string (⟨#[48]⟩ : ByteArray))) := by
  have C1_ : ((a0.length : Int) == 0) = true := by rw [C1]; simp
  have C1_n : ((a0.length : Int) != 0) = false := by rw [C1]; simp
  have C1_l : ¬ 0 < (a0.length : Int) := by omega
  unfold run fnP
  simp +decide [Tryz.f176, C1_, C1_n, C1_l]
theorem ldc_f2 {n : Nat} {a0 : List Nat} {r : List Nat} {out_5 : List ByteArray} {R : List ByteArray} {r23 : ByteArray} (HR : R.length = out_5.length) (C1 : ¬ (a0.length : Int) = 0) (K2 : (oU fun k => natA (lmb k)) [.lit (.int .u64 1000000000)] = some (natA r)) (L3 : loopG Tryz.prog (tab (n + 5)) 0 50 (livesOf 176) 5 ldc_C5 (ldc_h5 a0 r []) = some (.exit 0, ldc_o5a out_5)) (K4 : runL (n + 4) 212 [.own 0 out_5.length] [.row 9 1 (out_5.map strC) 0] = some (.tup [], [(0, .row 9 1 (R.map strC) 0)])) (K5 : (oJoin) [.sl 1 (R.map strC), .lit (.string (⟨#[]⟩ : ByteArray))] = some (.lit (.string r23))) :
    run (n + 5) 176 [natA a0] = some (.lit (.string r23)) := by
  have C1_ : ((a0.length : Int) == 0) = false := by simpa using C1
  have C1_n : ((a0.length : Int) != 0) = true := by simpa using C1
  have C1_l : 0 < (a0.length : Int) := by omega
  unfold run fnP
  simp +decide [Tryz.f176, C1_, C1_n, C1_l, HR, K2, K4, K5]
  rw [loopX_G (C' := ldc_C5) (e := (ldc_h5 a0 r [])) ?_ ?_, L3]
  rotate_left
  · kernel_rfl
  · simp +decide [ldc_h5, C1_, C1_n, C1_l, HR, K2, K4, K5]
  simp +decide [ldc_o5a, C1_, C1_n, C1_l, HR, K2, K4, K5]
end Go.Proofs.YtlpmemelhlnfbaaGreatDoor
set_option linter.all false
set_option maxRecDepth 100000
set_option maxHeartbeats 6400000
namespace Go.Proofs.YtlpmemelhlnfbaaGreatDoor
open Go.RowKit

/-! slices.Reverse[[]string,string], level 0 -/
noncomputable def srv_C1 : Code := (loopsOf (bodyOf Tryz.f212)).getD 0 .skip
def srv_h1 (out_1 : List ByteArray) (i_1 : Nat) (i2_1 : Int) : St :=
  ⟨[(0, .own 0 out_1.length), (2, .lit (.int .i64 (i_1 : Int))), (3, .lit (.int .i64 i2_1))],
   [(0, some (.row 9 1 (out_1.map strC) 0))], 1⟩
def srv_o1a (out_1 : List ByteArray) : St :=
  ⟨[],
   [(0, some (.row 9 1 (out_1.map strC) 0))], 1⟩
theorem srv_r1_1 {n : Nat} {i_1 : Nat} {i2_1 : Int} {out_1 : List ByteArray} {x5 : ByteArray} {x6 : ByteArray} (C1 : (i_1 : Int) < i2_1) (G2 : i2_1.toNat < out_1.length) (Z2 : 0 ≤ i2_1) (E3 : out_1[i2_1.toNat]? = some x5) (Z3 : 0 ≤ i2_1) (G4 : i_1 < out_1.length) (E5 : out_1[i_1]? = some x6) (W10 : InI ((i_1 : Int) + 1)) (W11 : InI (i2_1 - 1)) :
    Cont 1 (exec Tryz.prog (tab n) 1 28 (livesOf 212) big srv_C1) (livesOf 212 1) (srv_h1 out_1 i_1 i2_1) (srv_h1 ((out_1.set i_1 x5).set i2_1.toNat x6) (i_1 + 1) (i2_1 - 1)) := by
  obtain ⟨EL3, EG3⟩ := List.getElem?_eq_some_iff.1 E3
  obtain ⟨EL5, EG5⟩ := List.getElem?_eq_some_iff.1 E5
  have W10_ : IntKind.i64.wrap ((i_1 : Int) + 1) = (i_1 : Int) + 1 := wr64 W10.1 W10.2
  have W11_ : IntKind.i64.wrap (i2_1 - 1) = i2_1 - 1 := wr64 W11.1 W11.2
  unfold Cont
  simp +decide [srv_h1, loopsOf, Tryz.f212, srv_C1, C1, G2, Z2, EL3, EG3, E3, Z3, G4, EL5, EG5, E5, set_strC, -List.map_set, W10_, W11_]
theorem srv_x1_1 {n : Nat} {i_1 : Nat} {i2_1 : Int} {out_1 : List ByteArray} (C1 : ¬ (i_1 : Int) < i2_1) :
    Leave 1 (exec Tryz.prog (tab n) 1 28 (livesOf 212) big srv_C1) (livesOf 212 (outOf 1)) (srv_h1 out_1 i_1 i2_1) (.exit 0) (srv_o1a out_1) := by
  unfold Leave
  simp +decide [srv_h1, loopsOf, Tryz.f212, srv_o1a, srv_C1, C1]
theorem srv_f1 {n : Nat} {a0 : List ByteArray} {out_1 : List ByteArray} (W1 : InI ((a0.length : Int) - 1)) (L2 : loopG Tryz.prog (tab n) 1 28 (livesOf 212) 1 srv_C1 (srv_h1 a0 0 ((a0.length : Int) - 1)) = some (.exit 0, srv_o1a out_1)) :
    runL n 212 [.own 0 a0.length] [.row 9 1 (a0.map strC) 0] = some (.tup [], [(0, .row 9 1 (out_1.map strC) 0)]) := by
  have W1_ : IntKind.i64.wrap ((a0.length : Int) - 1) = (a0.length : Int) - 1 := wr64 W1.1 W1.2
  unfold runL fnL
  simp +decide [Tryz.f212, W1_]
  rw [loopX_G (C' := srv_C1) (e := (srv_h1 a0 0 ((a0.length : Int) - 1))) ?_ ?_, L2]
  rotate_left
  · kernel_rfl
  · simp +decide [srv_h1, W1_]
  simp +decide [srv_o1a, W1_]
end Go.Proofs.YtlpmemelhlnfbaaGreatDoor
set_option linter.all false
set_option maxRecDepth 100000
set_option maxHeartbeats 6400000
namespace Go.Proofs.YtlpmemelhlnfbaaGreatDoor
open Go.RowKit

/-! linear.size, level 6 -/
theorem lsz_f1 {n : Nat} {a0 : Rat} {r : ByteArray} {r2 : ByteArray} {cat : ByteArray} {cat2 : ByteArray} (K1 : run (n + 5) 176 [natA (rawQ a0).l1] = some (.lit (.string r))) (C2 : 0 < ((rawQ a0).l2.length : Int)) (K3 : run (n + 5) 176 [natA (rawQ a0).l2] = some (.lit (.string r2))) (S4 : (⟨#[47]⟩ : ByteArray).size + r2.size ≤ 9000000000000000000) (D4 : cat = (⟨#[47]⟩ : ByteArray) ++ r2) (S5 : r.size + cat.size ≤ 9000000000000000000) (D5 : cat2 = r ++ cat) :
    run (n + 6) 121 [ratV a0] = some (.lit (.string cat2)) := by
  have C2_ : 0 < (rawQ a0).l2.length := by omega
  have C2_z : ((rawQ a0).l2.length : Int) ≠ 0 := by omega
  have C2_e : (((rawQ a0).l2.length : Int) == 0) = false := by simpa using C2_z
  have C2_g : (((rawQ a0).l2.length : Int) != 0) = true := by simpa using C2_z
  have S4_r := cat_r S4 D4
  have S4_q := cat_q S4 D4
  have S5_r := cat_r S5 D5
  have S5_q := cat_q S5 D5
  unfold run fnP
  simp +decide [Tryz.f121, K1, C2, C2_, C2_e, C2_g, K3, ↓S4_r, S4_q, ↓S5_r, S5_q]
theorem lsz_f2 {n : Nat} {a0 : Rat} {r : ByteArray} (K1 : run (n + 5) 176 [natA (rawQ a0).l1] = some (.lit (.string r))) (C2 : ¬ 0 < ((rawQ a0).l2.length : Int)) :
    run (n + 6) 121 [ratV a0] = some (.lit (.string r)) := by
  have C2_ : ¬ 0 < (rawQ a0).l2.length := by omega
  have C2_z : ((rawQ a0).l2.length : Int) = 0 := by omega
  have C2_e : (((rawQ a0).l2.length : Int) == 0) = true := by rw [C2_z]; simp
  have C2_g : (((rawQ a0).l2.length : Int) != 0) = false := by rw [C2_z]; simp
  unfold run fnP
  simp +decide [Tryz.f121, K1, C2, C2_, C2_e, C2_g]
end Go.Proofs.YtlpmemelhlnfbaaGreatDoor
