/- Walks: relucertref07.Digits. Walks: relucertref07.absolute. Walks: relucertref07.join. Walks: relucertref07.Text. -/
import Derived.Test.YtlpmemelhlnfbaaGreatDoorGA5
import Derived.Test.YtlpmemelhlnfbaaGreatDoorGA6
set_option linter.all false
set_option linter.all false
set_option maxRecDepth 100000
set_option maxHeartbeats 6400000
namespace Go.Proofs.YtlpmemelhlnfbaaGreatDoor
open Go.RowKit

/-! relucertref07.Digits, level 4 -/
noncomputable def fdg_C3 : Code := (loopsOf (bodyOf Tryz.f127)).getD 0 .skip
def fdg_h3 (nat_3 : List Nat) (str_3 : ByteArray) : St :=
  ⟨[(0, natA nat_3), (3, .lit (.string str_3))],
   [], 0⟩
def fdg_o3a (str_3 : ByteArray) : St :=
  ⟨[(3, .lit (.string str_3))],
   [], 0⟩
theorem fdg_r3_1 {n : Nat} {nat_3 : List Nat} {r22 : List Nat} {r23 : List Nat} {r24 : Int} {r25 : Int} {r26 : Bool} {str_3 : ByteArray} {cat5 : ByteArray} (C1 : 0 < (nat_3.length : Int)) (K2 : (oND fun x y => .tup [natA (lmb (val x / val y)), natA (lmb (val x % val y)), .lit (.int .i64 0)]) [natA nat_3, .sl 1 [[.lit (.int .u32 10)]]] = some (.tup [natA r22, natA r23, .lit (.int .i64 r24)])) (K3 : (oN1 u64N fun x => .tup [.lit (.int .u64 (val x : Nat)), .lit (.bool true)]) [natA r23] = some (.tup [.lit (.int .u64 r25), .lit (.bool r26)])) (W4 : IntKind.u64.wrap (48 + r25) = 48 + r25) (W5 : IntKind.u8.wrap (48 + r25) = 48 + r25) (O6 : 0 ≤ 48 + r25 ∧ 48 + r25 < 256) (S7 : ((oneB (48 + r25))).size + str_3.size ≤ 9000000000000000000) (D7 : cat5 = ((oneB (48 + r25))) ++ str_3) :
    Cont 0 (exec Tryz.prog (tab (n + 4)) 0 39 (livesOf 127) big fdg_C3) (livesOf 127 3) (fdg_h3 nat_3 str_3) (fdg_h3 r22 cat5) := by
  have C1_ : 0 < nat_3.length := by omega
  have C1_z : (nat_3.length : Int) ≠ 0 := by omega
  have C1_e : ((nat_3.length : Int) == 0) = false := by simpa using C1_z
  have C1_g : ((nat_3.length : Int) != 0) = true := by simpa using C1_z
  have O6_ := strOf_one O6.1 O6.2
  have S7_r := cat_r S7 D7
  have S7_q := cat_q S7 D7
  unfold Cont
  simp +decide [fdg_h3, loopsOf, Tryz.f127, fdg_C3, C1, C1_, C1_e, C1_g, K2, K3, W4, W5, O6_, ↓S7_r, S7_q]
theorem fdg_r3_2 {n : Nat} {nat_3 : List Nat} {str_3 : ByteArray} {r27 : List Nat} {r28 : List Nat} {r29 : Int} {r30 : Int} {r31 : Bool} {cat6 : ByteArray} (C1 : ¬ 0 < (nat_3.length : Int)) (C2 : str_3 = (⟨#[]⟩ : ByteArray)) (K3 : (oND fun x y => .tup [natA (lmb (val x / val y)), natA (lmb (val x % val y)), .lit (.int .i64 0)]) [natA nat_3, .sl 1 [[.lit (.int .u32 10)]]] = some (.tup [natA r27, natA r28, .lit (.int .i64 r29)])) (K4 : (oN1 u64N fun x => .tup [.lit (.int .u64 (val x : Nat)), .lit (.bool true)]) [natA r28] = some (.tup [.lit (.int .u64 r30), .lit (.bool r31)])) (W5 : IntKind.u64.wrap (48 + r30) = 48 + r30) (W6 : IntKind.u8.wrap (48 + r30) = 48 + r30) (O7 : 0 ≤ 48 + r30 ∧ 48 + r30 < 256) (S8 : ((oneB (48 + r30))).size + str_3.size ≤ 9000000000000000000) (D8 : cat6 = ((oneB (48 + r30))) ++ str_3) :
    Cont 0 (exec Tryz.prog (tab (n + 4)) 0 39 (livesOf 127) big fdg_C3) (livesOf 127 3) (fdg_h3 nat_3 str_3) (fdg_h3 r27 cat6) := by
  have C1_ : ¬ 0 < nat_3.length := by omega
  have C1_z : (nat_3.length : Int) = 0 := by omega
  have C1_e : ((nat_3.length : Int) == 0) = true := by rw [C1_z]; simp
  have C1_g : ((nat_3.length : Int) != 0) = false := by rw [C1_z]; simp
  have C2_ : (str_3.toList == (⟨#[]⟩ : ByteArray).toList) = true := by rw [C2]; simp
  have C2_n : (str_3.toList != (⟨#[]⟩ : ByteArray).toList) = false := by rw [bne, C2_]; rfl
  have C2_i : str_3.toList.isEmpty = true := by rw [C2, ba_toList] <;> rfl
  have O7_ := strOf_one O7.1 O7.2
  have S8_r := cat_r S8 D8
  have S8_q := cat_q S8 D8
  unfold Cont
  simp +decide [fdg_h3, loopsOf, Tryz.f127, fdg_C3, C1, C1_, C1_e, C1_g, C2_, C2_n, C2_i, K3, K4, W5, W6, O7_, ↓S8_r, S8_q]
theorem fdg_x3_1 {n : Nat} {nat_3 : List Nat} {str_3 : ByteArray} (C1 : ¬ 0 < (nat_3.length : Int)) (C2 : ¬ str_3 = (⟨#[]⟩ : ByteArray)) :
    Leave 0 (exec Tryz.prog (tab (n + 4)) 0 39 (livesOf 127) big fdg_C3) (livesOf 127 (outOf 3)) (fdg_h3 nat_3 str_3) (.exit 0) (fdg_o3a str_3) := by
  have C1_ : ¬ 0 < nat_3.length := by omega
  have C1_z : (nat_3.length : Int) = 0 := by omega
  have C1_e : ((nat_3.length : Int) == 0) = true := by rw [C1_z]; simp
  have C1_g : ((nat_3.length : Int) != 0) = false := by rw [C1_z]; simp
  have C2_ : (str_3.toList == (⟨#[]⟩ : ByteArray).toList) = false := by rw [beq_eq_false_iff_ne]; exact fun h => C2 (ba_inj h)
  have C2_n : (str_3.toList != (⟨#[]⟩ : ByteArray).toList) = true := by rw [bne, C2_]; rfl
  have C2_i : str_3.toList.isEmpty = false := by rcases he : str_3.toList.isEmpty with _ | _; rfl; exact absurd (ba_inj (by rw [List.isEmpty_iff.1 he, ba_toList] <;> rfl)) C2
  unfold Leave
  simp +decide [fdg_h3, loopsOf, Tryz.f127, fdg_o3a, fdg_C3, C1, C1_, C1_e, C1_g, C2_, C2_n, C2_i]
theorem fdg_f1 {n : Nat} {a0 : List Nat} {r : List Nat} {str_3 : ByteArray} (K1 : (oN1 (fun _ => true) fun x => natA (lmb (val x))) [natA a0] = some (natA r)) (L2 : loopG Tryz.prog (tab (n + 4)) 0 39 (livesOf 127) 3 fdg_C3 (fdg_h3 r (⟨#[]⟩ : ByteArray)) = some (.exit 0, fdg_o3a str_3)) :
    run (n + 4) 127 [natA a0] = some (.lit (.string str_3)) := by
  unfold run fnP
  simp +decide [Tryz.f127, K1]
  rw [loopX_G (C' := fdg_C3) (e := (fdg_h3 r (⟨#[]⟩ : ByteArray))) ?_ ?_, L2]
  rotate_left
  · kernel_rfl
  · simp +decide [fdg_h3, K1]
  simp +decide [fdg_o3a, K1]
end Go.Proofs.YtlpmemelhlnfbaaGreatDoor
set_option linter.all false
set_option maxRecDepth 100000
set_option maxHeartbeats 6400000
namespace Go.Proofs.YtlpmemelhlnfbaaGreatDoor
open Go.RowKit

/-! relucertref07.absolute, level 5 -/
theorem fab_f1 {n : Nat} {a0 : Rat} {r : ByteArray} {r2 : ByteArray} {cat : ByteArray} {cat2 : ByteArray} (K1 : run (n + 4) 127 [natA (rawQ a0).l1] = some (.lit (.string r))) (C2 : 0 < ((rawQ a0).l2.length : Int)) (K3 : run (n + 4) 127 [natA (rawQ a0).l2] = some (.lit (.string r2))) (S4 : (⟨#[47]⟩ : ByteArray).size + r2.size ≤ 9000000000000000000) (D4 : cat = (⟨#[47]⟩ : ByteArray) ++ r2) (S5 : r.size + cat.size ≤ 9000000000000000000) (D5 : cat2 = r ++ cat) :
    run (n + 5) 125 [ratV a0] = some (.lit (.string cat2)) := by
  have C2_ : 0 < (rawQ a0).l2.length := by omega
  have C2_z : ((rawQ a0).l2.length : Int) ≠ 0 := by omega
  have C2_e : (((rawQ a0).l2.length : Int) == 0) = false := by simpa using C2_z
  have C2_g : (((rawQ a0).l2.length : Int) != 0) = true := by simpa using C2_z
  have S4_r := cat_r S4 D4
  have S4_q := cat_q S4 D4
  have S5_r := cat_r S5 D5
  have S5_q := cat_q S5 D5
  unfold run fnP
  simp +decide [Tryz.f125, K1, C2, C2_, C2_e, C2_g, K3, ↓S4_r, S4_q, ↓S5_r, S5_q]
theorem fab_f2 {n : Nat} {a0 : Rat} {r : ByteArray} (K1 : run (n + 4) 127 [natA (rawQ a0).l1] = some (.lit (.string r))) (C2 : ¬ 0 < ((rawQ a0).l2.length : Int)) :
    run (n + 5) 125 [ratV a0] = some (.lit (.string r)) := by
  have C2_ : ¬ 0 < (rawQ a0).l2.length := by omega
  have C2_z : ((rawQ a0).l2.length : Int) = 0 := by omega
  have C2_e : (((rawQ a0).l2.length : Int) == 0) = true := by rw [C2_z]; simp
  have C2_g : (((rawQ a0).l2.length : Int) != 0) = false := by rw [C2_z]; simp
  unfold run fnP
  simp +decide [Tryz.f125, K1, C2, C2_, C2_e, C2_g]
end Go.Proofs.YtlpmemelhlnfbaaGreatDoor
set_option linter.all false
set_option maxRecDepth 100000
set_option maxHeartbeats 6400000
namespace Go.Proofs.YtlpmemelhlnfbaaGreatDoor
open Go.RowKit

/-! relucertref07.join, level 0 -/
theorem fjn_f1 {n : Nat} {a0 : ByteArray} {a1 : Bool} {a2 : ByteArray} {cat : ByteArray} (C1 : a0 = (⟨#[]⟩ : ByteArray)) (C2 : a1 = true) (S3 : (⟨#[45]⟩ : ByteArray).size + a2.size ≤ 9000000000000000000) (D3 : cat = (⟨#[45]⟩ : ByteArray) ++ a2) :
    run n 126 [.lit (.string a0), .lit (.bool a1), .lit (.string a2)] = some (.lit (.string cat)) := by
  have C1_ : (a0.toList == (⟨#[]⟩ : ByteArray).toList) = true := by rw [C1]; simp
  have C1_n : (a0.toList != (⟨#[]⟩ : ByteArray).toList) = false := by rw [bne, C1_]; rfl
  have C1_i : a0.toList.isEmpty = true := by rw [C1, ba_toList] <;> rfl
  have S3_r := cat_r S3 D3
  have S3_q := cat_q S3 D3
  unfold run fnP
  simp +decide [Tryz.f126, C1_, C1_n, C1_i, C2, ↓S3_r, S3_q]
theorem fjn_f2 {n : Nat} {a0 : ByteArray} {a1 : Bool} {a2 : ByteArray} (C1 : a0 = (⟨#[]⟩ : ByteArray)) (C2 : a1 = false) :
    run n 126 [.lit (.string a0), .lit (.bool a1), .lit (.string a2)] = some (.lit (.string a2)) := by
  have C1_ : (a0.toList == (⟨#[]⟩ : ByteArray).toList) = true := by rw [C1]; simp
  have C1_n : (a0.toList != (⟨#[]⟩ : ByteArray).toList) = false := by rw [bne, C1_]; rfl
  have C1_i : a0.toList.isEmpty = true := by rw [C1, ba_toList] <;> rfl
  unfold run fnP
  simp +decide [Tryz.f126, C1_, C1_n, C1_i, C2]
theorem fjn_f3 {n : Nat} {a0 : ByteArray} {a1 : Bool} {a2 : ByteArray} {cat2 : ByteArray} {cat3 : ByteArray} (C1 : ¬ a0 = (⟨#[]⟩ : ByteArray)) (C2 : a1 = true) (S3 : a0.size + (⟨#[32, 45, 32]⟩ : ByteArray).size ≤ 9000000000000000000) (D3 : cat2 = a0 ++ (⟨#[32, 45, 32]⟩ : ByteArray)) (S4 : cat2.size + a2.size ≤ 9000000000000000000) (D4 : cat3 = cat2 ++ a2) :
    run n 126 [.lit (.string a0), .lit (.bool a1), .lit (.string a2)] = some (.lit (.string cat3)) := by
  obtain ⟨ks0, hks0⟩ : ∃ k : ByteArray, (⟨#[32, 45, 32]⟩ : ByteArray) = k := ⟨_, rfl⟩
  rw [hks0] at S3 D3
  have C1_ : (a0.toList == (⟨#[]⟩ : ByteArray).toList) = false := by rw [beq_eq_false_iff_ne]; exact fun h => C1 (ba_inj h)
  have C1_n : (a0.toList != (⟨#[]⟩ : ByteArray).toList) = true := by rw [bne, C1_]; rfl
  have C1_i : a0.toList.isEmpty = false := by rcases he : a0.toList.isEmpty with _ | _; rfl; exact absurd (ba_inj (by rw [List.isEmpty_iff.1 he, ba_toList] <;> rfl)) C1
  have S3_r := cat_r S3 D3
  have S3_q := cat_q S3 D3
  have S4_r := cat_r S4 D4
  have S4_q := cat_q S4 D4
  unfold run fnP
  simp +decide [Tryz.f126, C1_, C1_n, C1_i, C2, ↓S3_r, S3_q, ↓S4_r, S4_q, hks0]
theorem fjn_f4 {n : Nat} {a0 : ByteArray} {a1 : Bool} {a2 : ByteArray} {cat4 : ByteArray} {cat5 : ByteArray} (C1 : ¬ a0 = (⟨#[]⟩ : ByteArray)) (C2 : a1 = false) (S3 : a0.size + (⟨#[32, 43, 32]⟩ : ByteArray).size ≤ 9000000000000000000) (D3 : cat4 = a0 ++ (⟨#[32, 43, 32]⟩ : ByteArray)) (S4 : cat4.size + a2.size ≤ 9000000000000000000) (D4 : cat5 = cat4 ++ a2) :
    run n 126 [.lit (.string a0), .lit (.bool a1), .lit (.string a2)] = some (.lit (.string cat5)) := by
  obtain ⟨ks0, hks0⟩ : ∃ k : ByteArray, (⟨#[32, 43, 32]⟩ : ByteArray) = k := ⟨_, rfl⟩
  rw [hks0] at S3 D3
  have C1_ : (a0.toList == (⟨#[]⟩ : ByteArray).toList) = false := by rw [beq_eq_false_iff_ne]; exact fun h => C1 (ba_inj h)
  have C1_n : (a0.toList != (⟨#[]⟩ : ByteArray).toList) = true := by rw [bne, C1_]; rfl
  have C1_i : a0.toList.isEmpty = false := by rcases he : a0.toList.isEmpty with _ | _; rfl; exact absurd (ba_inj (by rw [List.isEmpty_iff.1 he, ba_toList] <;> rfl)) C1
  have S3_r := cat_r S3 D3
  have S3_q := cat_q S3 D3
  have S4_r := cat_r S4 D4
  have S4_q := cat_q S4 D4
  unfold run fnP
  simp +decide [Tryz.f126, C1_, C1_n, C1_i, C2, ↓S3_r, S3_q, ↓S4_r, S4_q, hks0]
end Go.Proofs.YtlpmemelhlnfbaaGreatDoor
set_option linter.all false
set_option maxRecDepth 100000
set_option maxHeartbeats 6400000
namespace Go.Proofs.YtlpmemelhlnfbaaGreatDoor
open Go.RowKit

/-! relucertref07.Text, level 6 -/
noncomputable def ftx_C3 : Code := (loopsOf (bodyOf Tryz.f54)).getD 0 .skip
def ftx_h3 (a0 : Form) (str_3 : ByteArray) (i_3 : Nat) : St :=
  ⟨[(1, .ptr 0 0), (3, .lit (.string str_3)), (4, .lit (.int .i64 (i_3 : Int)))],
   [(0, some (.box 29 [.sl 4 (a0.1.map termC), .lit (.bool (rawQ a0.2).s), natA (rawQ a0.2).l1, natA (rawQ a0.2).l2] false))], 1⟩
def ftx_o3a (a0 : Form) (str_3 : ByteArray) : St :=
  ⟨[(1, .ptr 0 0), (3, .lit (.string str_3))],
   [(0, some (.box 29 [.sl 4 (a0.1.map termC), .lit (.bool (rawQ a0.2).s), natA (rawQ a0.2).l1, natA (rawQ a0.2).l2] false))], 1⟩
theorem ftx_r3_1 {n : Nat} {a0 : Form} {i_3 : Nat} {v3 : Int} {q3 : Rat} {r15 : ByteArray} {cat11 : ByteArray} {cat12 : ByteArray} {r16 : List Nat} {r17 : ByteArray} {cat13 : ByteArray} {str_3 : ByteArray} {r18 : ByteArray} (C1 : (i_3 : Int) < (a0.1.length : Int)) (E2 : a0.1[i_3]? = some (v3, q3)) (K3 : run (n + 5) 125 [ratV q3] = some (.lit (.string r15))) (S4 : r15.size + (⟨#[42]⟩ : ByteArray).size ≤ 9000000000000000000) (D4 : cat11 = r15 ++ (⟨#[42]⟩ : ByteArray)) (C5 : cat11 = (⟨#[49, 42]⟩ : ByteArray)) (S6 : (⟨#[]⟩ : ByteArray).size + (⟨#[120]⟩ : ByteArray).size ≤ 9000000000000000000) (D6 : cat12 = (⟨#[]⟩ : ByteArray) ++ (⟨#[120]⟩ : ByteArray)) (W7 : IntKind.u64.wrap (v3) = v3) (K8 : (oU fun k => natA (lmb k)) [.lit (.int .u64 v3)] = some (natA r16)) (K9 : run (n + 5) 127 [natA r16] = some (.lit (.string r17))) (S10 : cat12.size + r17.size ≤ 9000000000000000000) (D10 : cat13 = cat12 ++ r17) (K11 : run (n + 5) 126 [.lit (.string str_3), .lit (.bool (rawQ q3).s), .lit (.string cat13)] = some (.lit (.string r18))) (W12 : InI ((i_3 : Int) + 1)) :
    Cont 0 (exec Tryz.prog (tab (n + 6)) 0 55 (livesOf 54) big ftx_C3) (livesOf 54 3) (ftx_h3 a0 str_3 i_3) (ftx_h3 a0 r18 (i_3 + 1)) := by
  obtain ⟨ks0, hks0⟩ : ∃ k : ByteArray, (⟨#[42]⟩ : ByteArray) = k := ⟨_, rfl⟩
  rw [hks0] at S4 D4
  obtain ⟨ks1, hks1⟩ : ∃ k : ByteArray, (⟨#[120]⟩ : ByteArray) = k := ⟨_, rfl⟩
  rw [hks1] at S6 D6
  have C1_ : i_3 < a0.1.length := by omega
  obtain ⟨EL2, EG2⟩ := List.getElem?_eq_some_iff.1 E2
  simp only [ratV] at K3
  have S4_r := cat_r S4 D4
  have S4_q := cat_q S4 D4
  have C5_ : (cat11.toList == (⟨#[49, 42]⟩ : ByteArray).toList) = true := by rw [C5]; simp
  have C5_n : (cat11.toList != (⟨#[49, 42]⟩ : ByteArray).toList) = false := by rw [bne, C5_]; rfl
  have C5_k : (cat11.toList == ([49, 42] : List UInt8)) = true := by rw [show ([49, 42] : List UInt8) = (⟨#[49, 42]⟩ : ByteArray).toList by rw [ba_toList]]; exact C5_
  have S6_r := cat_r S6 D6
  have S6_q := cat_q S6 D6
  have S10_r := cat_r S10 D10
  have S10_q := cat_q S10 D10
  have W12_ : IntKind.i64.wrap ((i_3 : Int) + 1) = (i_3 : Int) + 1 := wr64 W12.1 W12.2
  unfold Cont
  simp +decide [ftx_h3, loopsOf, Tryz.f54, ftx_C3, C1, C1_, EL2, EG2, E2, K3, ↓S4_r, S4_q, C5_, C5_n, C5_k, ↓S6_r, S6_q, W7, K8, K9, ↓S10_r, S10_q, K11, W12_, hks0, hks1]
theorem ftx_r3_2 {n : Nat} {a0 : Form} {i_3 : Nat} {v3 : Int} {q3 : Rat} {r15 : ByteArray} {cat11 : ByteArray} {cat14 : ByteArray} {r19 : List Nat} {r20 : ByteArray} {cat15 : ByteArray} {str_3 : ByteArray} {r21 : ByteArray} (C1 : (i_3 : Int) < (a0.1.length : Int)) (E2 : a0.1[i_3]? = some (v3, q3)) (K3 : run (n + 5) 125 [ratV q3] = some (.lit (.string r15))) (S4 : r15.size + (⟨#[42]⟩ : ByteArray).size ≤ 9000000000000000000) (D4 : cat11 = r15 ++ (⟨#[42]⟩ : ByteArray)) (C5 : ¬ cat11 = (⟨#[49, 42]⟩ : ByteArray)) (S6 : cat11.size + (⟨#[120]⟩ : ByteArray).size ≤ 9000000000000000000) (D6 : cat14 = cat11 ++ (⟨#[120]⟩ : ByteArray)) (W7 : IntKind.u64.wrap (v3) = v3) (K8 : (oU fun k => natA (lmb k)) [.lit (.int .u64 v3)] = some (natA r19)) (K9 : run (n + 5) 127 [natA r19] = some (.lit (.string r20))) (S10 : cat14.size + r20.size ≤ 9000000000000000000) (D10 : cat15 = cat14 ++ r20) (K11 : run (n + 5) 126 [.lit (.string str_3), .lit (.bool (rawQ q3).s), .lit (.string cat15)] = some (.lit (.string r21))) (W12 : InI ((i_3 : Int) + 1)) :
    Cont 0 (exec Tryz.prog (tab (n + 6)) 0 55 (livesOf 54) big ftx_C3) (livesOf 54 3) (ftx_h3 a0 str_3 i_3) (ftx_h3 a0 r21 (i_3 + 1)) := by
  obtain ⟨ks0, hks0⟩ : ∃ k : ByteArray, (⟨#[42]⟩ : ByteArray) = k := ⟨_, rfl⟩
  rw [hks0] at S4 D4
  obtain ⟨ks1, hks1⟩ : ∃ k : ByteArray, (⟨#[120]⟩ : ByteArray) = k := ⟨_, rfl⟩
  rw [hks1] at S6 D6
  have C1_ : i_3 < a0.1.length := by omega
  obtain ⟨EL2, EG2⟩ := List.getElem?_eq_some_iff.1 E2
  simp only [ratV] at K3
  have S4_r := cat_r S4 D4
  have S4_q := cat_q S4 D4
  have C5_ : (cat11.toList == (⟨#[49, 42]⟩ : ByteArray).toList) = false := by rw [beq_eq_false_iff_ne]; exact fun h => C5 (ba_inj h)
  have C5_n : (cat11.toList != (⟨#[49, 42]⟩ : ByteArray).toList) = true := by rw [bne, C5_]; rfl
  have C5_k : (cat11.toList == ([49, 42] : List UInt8)) = false := by rw [show ([49, 42] : List UInt8) = (⟨#[49, 42]⟩ : ByteArray).toList by rw [ba_toList]]; exact C5_
  have S6_r := cat_r S6 D6
  have S6_q := cat_q S6 D6
  have S10_r := cat_r S10 D10
  have S10_q := cat_q S10 D10
  have W12_ : IntKind.i64.wrap ((i_3 : Int) + 1) = (i_3 : Int) + 1 := wr64 W12.1 W12.2
  unfold Cont
  simp +decide [ftx_h3, loopsOf, Tryz.f54, ftx_C3, C1, C1_, EL2, EG2, E2, K3, ↓S4_r, S4_q, C5_, C5_n, C5_k, ↓S6_r, S6_q, W7, K8, K9, ↓S10_r, S10_q, K11, W12_, hks0, hks1]
theorem ftx_x3_1 {n : Nat} {a0 : Form} {i_3 : Nat} {str_3 : ByteArray} (C1 : ¬ (i_3 : Int) < (a0.1.length : Int)) :
    Leave 0 (exec Tryz.prog (tab (n + 6)) 0 55 (livesOf 54) big ftx_C3) (livesOf 54 (outOf 3)) (ftx_h3 a0 str_3 i_3) (.exit 0) (ftx_o3a a0 str_3) := by
  have C1_ : ¬ i_3 < a0.1.length := by omega
  unfold Leave
  simp +decide [ftx_h3, loopsOf, Tryz.f54, ftx_o3a, ftx_C3, C1, C1_]
theorem ftx_f1 {n : Nat} {a0 : Form} {str_3 : ByteArray} {r22 : ByteArray} {r23 : ByteArray} (L1 : loopG Tryz.prog (tab (n + 6)) 0 55 (livesOf 54) 3 ftx_C3 (ftx_h3 a0 (⟨#[]⟩ : ByteArray) 0) = some (.exit 0, ftx_o3a a0 str_3)) (C2 : str_3 = (⟨#[]⟩ : ByteArray)) (K3 : run (n + 5) 125 [ratV a0.2] = some (.lit (.string r22))) (K4 : run (n + 5) 126 [.lit (.string str_3), .lit (.bool (rawQ a0.2).s), .lit (.string r22)] = some (.lit (.string r23))) :
    run (n + 6) 54 [formV a0] = some (.lit (.string r23)) := by
  have C2_ : (str_3.toList == (⟨#[]⟩ : ByteArray).toList) = true := by rw [C2]; simp
  have C2_n : (str_3.toList != (⟨#[]⟩ : ByteArray).toList) = false := by rw [bne, C2_]; rfl
  have C2_i : str_3.toList.isEmpty = true := by rw [C2, ba_toList] <;> rfl
  simp only [ratV] at K3
  unfold run fnP
  simp +decide [Tryz.f54, C2_, C2_n, C2_i, K3, K4]
  rw [loopX_G (C' := ftx_C3) (e := (ftx_h3 a0 (⟨#[]⟩ : ByteArray) 0)) ?_ ?_, L1]
  rotate_left
  · kernel_rfl
  · simp +decide [ftx_h3, C2_, C2_n, C2_i, K3, K4]
  simp +decide [ftx_o3a, C2_, C2_n, C2_i, K3, K4]
theorem ftx_f2 {n : Nat} {a0 : Form} {str_3 : ByteArray} {r24 : ByteArray} {r25 : ByteArray} (L1 : loopG Tryz.prog (tab (n + 6)) 0 55 (livesOf 54) 3 ftx_C3 (ftx_h3 a0 (⟨#[]⟩ : ByteArray) 0) = some (.exit 0, ftx_o3a a0 str_3)) (C2 : ¬ str_3 = (⟨#[]⟩ : ByteArray)) (B3a : H a0.2 ≤ 17179869184) (C4 : ¬ sgR a0.2 = 0) (K5 : run (n + 5) 125 [ratV a0.2] = some (.lit (.string r24))) (K6 : run (n + 5) 126 [.lit (.string str_3), .lit (.bool (rawQ a0.2).s), .lit (.string r24)] = some (.lit (.string r25))) :
    run (n + 6) 54 [formV a0] = some (.lit (.string r25)) := by
  have C2_ : (str_3.toList == (⟨#[]⟩ : ByteArray).toList) = false := by rw [beq_eq_false_iff_ne]; exact fun h => C2 (ba_inj h)
  have C2_n : (str_3.toList != (⟨#[]⟩ : ByteArray).toList) = true := by rw [bne, C2_]; rfl
  have C2_i : str_3.toList.isEmpty = false := by rcases he : str_3.toList.isEmpty with _ | _; rfl; exact absurd (ba_inj (by rw [List.isEmpty_iff.1 he, ba_toList] <;> rfl)) C2
  have K3 := r_sign (p := a0.2) B3a
  have C4_ : (sgR a0.2 == 0) = false := by simpa using C4
  have C4_n : (sgR a0.2 != 0) = true := by simpa using C4
  simp only [ratV] at K5
  unfold run fnP
  simp +decide [Tryz.f54, C2_, C2_n, C2_i, K3, C4_, C4_n, K5, K6]
  rw [loopX_G (C' := ftx_C3) (e := (ftx_h3 a0 (⟨#[]⟩ : ByteArray) 0)) ?_ ?_, L1]
  rotate_left
  · kernel_rfl
  · simp +decide [ftx_h3, C2_, C2_n, C2_i, K3, C4_, C4_n, K5, K6]
  simp +decide [ftx_o3a, C2_, C2_n, C2_i, K3, C4_, C4_n, K5, K6]
theorem ftx_f3 {n : Nat} {a0 : Form} {str_3 : ByteArray} (L1 : loopG Tryz.prog (tab (n + 6)) 0 55 (livesOf 54) 3 ftx_C3 (ftx_h3 a0 (⟨#[]⟩ : ByteArray) 0) = some (.exit 0, ftx_o3a a0 str_3)) (C2 : ¬ str_3 = (⟨#[]⟩ : ByteArray)) (B3a : H a0.2 ≤ 17179869184) (C4 : sgR a0.2 = 0) :
    run (n + 6) 54 [formV a0] = some (.lit (.string str_3)) := by
  have C2_ : (str_3.toList == (⟨#[]⟩ : ByteArray).toList) = false := by rw [beq_eq_false_iff_ne]; exact fun h => C2 (ba_inj h)
  have C2_n : (str_3.toList != (⟨#[]⟩ : ByteArray).toList) = true := by rw [bne, C2_]; rfl
  have C2_i : str_3.toList.isEmpty = false := by rcases he : str_3.toList.isEmpty with _ | _; rfl; exact absurd (ba_inj (by rw [List.isEmpty_iff.1 he, ba_toList] <;> rfl)) C2
  have K3 := r_sign (p := a0.2) B3a
  have C4_ : (sgR a0.2 == 0) = true := by rw [C4]; simp
  have C4_n : (sgR a0.2 != 0) = false := by rw [C4]; simp
  unfold run fnP
  simp +decide [Tryz.f54, C2_, C2_n, C2_i, K3, C4_, C4_n]
  rw [loopX_G (C' := ftx_C3) (e := (ftx_h3 a0 (⟨#[]⟩ : ByteArray) 0)) ?_ ?_, L1]
  rotate_left
  · kernel_rfl
  · simp +decide [ftx_h3, C2_, C2_n, C2_i, K3, C4_, C4_n]
  simp +decide [ftx_o3a, C2_, C2_n, C2_i, K3, C4_, C4_n]
end Go.Proofs.YtlpmemelhlnfbaaGreatDoor
