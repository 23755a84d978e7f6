import Derived.Test.YtlpmemelhlnfbaaGreatDoorGA10
import Derived.Test.YtlpmemelhlnfbaaGreatDoorGA11
import Derived.Test.YtlpmemelhlnfbaaGreatDoorGA5
set_option linter.all false
set_option maxRecDepth 100000
set_option maxHeartbeats 6400000
namespace Go.Proofs.YtlpmemelhlnfbaaGreatDoor
open Go.RowKit
def ltx_hN (a0 : Form) (i_4 : Nat) (ab : ByteArray) : St :=
  ⟨[(1, .ptr 0 0), (3, .ptr 1 0), (4, .clo 119 [.ptr 1 0]), (11, .sl 4 (a0.1.map termC)), (12, .lit (.int .i64 (a0.1.length : Int))), (13, .lit (.int .i64 (i_4 : Int)))],
   [(0, some (.box 29 [.sl 4 (a0.1.map termC), .lit (.bool (rawQ a0.2).s), natA (rawQ a0.2).l1, natA (rawQ a0.2).l2] false)),
    (1, some (.box 88 [.ptr 1 0, .own 2 ab.size] false)),
    (2, some (.row 5 1 (strEls ab) 0))], 3⟩
def ltx_oN (a0 : Form) (ab : ByteArray) : St :=
  ⟨[(1, .ptr 0 0), (3, .ptr 1 0), (4, .clo 119 [.ptr 1 0])],
   [(0, some (.box 29 [.sl 4 (a0.1.map termC), .lit (.bool (rawQ a0.2).s), natA (rawQ a0.2).l1, natA (rawQ a0.2).l2] false)),
    (1, some (.box 88 [.ptr 1 0, .own 2 ab.size] false)),
    (2, some (.row 5 1 (strEls ab) 0))], 3⟩
theorem ltE1_1 {n : Nat} {rb : ByteArray} {a0 : Form} {i_4 : Nat} {v3 : Int} {q3 : Rat} {r5 : ByteArray} {cat7 : ByteArray} {r6 : ByteArray} {cat8 : ByteArray} {cat9 : ByteArray} (C1 : (i_4 : Int) < (a0.1.length : Int)) (E2 : a0.1[i_4]? = some (v3, q3)) (K3 : (oItoa) [.lit (.int .i64 v3)] = some (.lit (.string r5))) (S4 : (⟨#[120]⟩ : ByteArray).size + r5.size ≤ 9000000000000000000) (D4 : cat7 = (⟨#[120]⟩ : ByteArray) ++ r5) (K5 : run (n + 6) 121 [ratV q3] = some (.lit (.string r6))) (C6 : ¬ r6 = (⟨#[49]⟩ : ByteArray)) (S7 : r6.size + (⟨#[42]⟩ : ByteArray).size ≤ 9000000000000000000) (D7 : cat8 = r6 ++ (⟨#[42]⟩ : ByteArray)) (S8 : cat8.size + cat7.size ≤ 9000000000000000000) (D8 : cat9 = cat8 ++ cat7) (K9 : runL (n + 6) 119 [.lit (.bool (rawQ q3).s), .lit (.string cat9), .ptr 0 0] [.box 88 [(.lit (.pointer none)), .nl 1] false] = some (.tup [], [(0, .box 88 [.ptr 0 0, .own 1 rb.size] false), (1, .row 5 1 (strEls rb) 0)])) (W10 : InI ((i_4 : Int) + 1)) :
    Cont 0 (exec Tryz.prog (tab (n + 7)) 0 55 (livesOf 52) big ltx_C4) (livesOf 52 4) (ltx_h4 a0 i_4) (ltx_hN a0 (i_4 + 1) rb) := by
  obtain ⟨ks0, hks0⟩ : ∃ k : ByteArray, (⟨#[42]⟩ : ByteArray) = k := ⟨_, rfl⟩
  rw [hks0] at S7 D7
  have C1_ : i_4 < a0.1.length := by omega
  obtain ⟨EL2, EG2⟩ := List.getElem?_eq_some_iff.1 E2
  have S4_r := cat_r S4 D4
  have S4_q := cat_q S4 D4
  simp only [ratV] at K5
  have C6_ : (r6.toList == (⟨#[49]⟩ : ByteArray).toList) = false := by rw [beq_eq_false_iff_ne]; exact fun h => C6 (ba_inj h)
  have C6_n : (r6.toList != (⟨#[49]⟩ : ByteArray).toList) = true := by rw [bne, C6_]; rfl
  have C6_k : (r6.toList == ([49] : List UInt8)) = false := by rw [show ([49] : List UInt8) = (⟨#[49]⟩ : ByteArray).toList by rw [ba_toList]]; exact C6_
  have S7_r := cat_r S7 D7
  have S7_q := cat_q S7 D7
  have S8_r := cat_r S8 D8
  have S8_q := cat_q S8 D8
  have W10_ : IntKind.i64.wrap ((i_4 : Int) + 1) = (i_4 : Int) + 1 := wr64 W10.1 W10.2
  unfold Cont
  simp +decide [ltx_h4, ltx_hN, loopsOf, Tryz.f52, ltx_C4, C1, C1_, EL2, EG2, E2, K3, ↓S4_r, S4_q, K5, C6_, C6_n, C6_k, ↓S7_r, S7_q, ↓S8_r, S8_q, K9, W10_, hks0]
theorem ltE2_1 {n : Nat} {rb : ByteArray} {a0 : Form} {i_4 : Nat} {v3 : Int} {q3 : Rat} {r5 : ByteArray} {cat7 : ByteArray} {r6 : ByteArray} {cat8 : ByteArray} {cat9 : ByteArray} (C1 : (i_4 : Int) < (a0.1.length : Int)) (E2 : a0.1[i_4]? = some (v3, q3)) (K3 : (oItoa) [.lit (.int .i64 v3)] = some (.lit (.string r5))) (S4 : (⟨#[120]⟩ : ByteArray).size + r5.size ≤ 9000000000000000000) (D4 : cat7 = (⟨#[120]⟩ : ByteArray) ++ r5) (K5 : run (n + 6) 121 [ratV q3] = some (.lit (.string r6))) (C6 : ¬ r6 = (⟨#[49]⟩ : ByteArray)) (S7 : r6.size + (⟨#[42]⟩ : ByteArray).size ≤ 9000000000000000000) (D7 : cat8 = r6 ++ (⟨#[42]⟩ : ByteArray)) (S8 : cat8.size + cat7.size ≤ 9000000000000000000) (D8 : cat9 = cat8 ++ cat7) (K9 : runL (n + 6) 119 [.lit (.bool (rawQ q3).s), .lit (.string cat9), .ptr 0 0] [.box 88 [(.lit (.pointer none)), .nl 1] false] = some (.tup [], [(0, .box 88 [.ptr 0 0, .own 2 rb.size] false), (2, .row 5 1 (strEls rb) 0)])) (W10 : InI ((i_4 : Int) + 1)) :
    Cont 0 (exec Tryz.prog (tab (n + 7)) 0 55 (livesOf 52) big ltx_C4) (livesOf 52 4) (ltx_h4 a0 i_4) (ltx_hN a0 (i_4 + 1) rb) := by
  obtain ⟨ks0, hks0⟩ : ∃ k : ByteArray, (⟨#[42]⟩ : ByteArray) = k := ⟨_, rfl⟩
  rw [hks0] at S7 D7
  have C1_ : i_4 < a0.1.length := by omega
  obtain ⟨EL2, EG2⟩ := List.getElem?_eq_some_iff.1 E2
  have S4_r := cat_r S4 D4
  have S4_q := cat_q S4 D4
  simp only [ratV] at K5
  have C6_ : (r6.toList == (⟨#[49]⟩ : ByteArray).toList) = false := by rw [beq_eq_false_iff_ne]; exact fun h => C6 (ba_inj h)
  have C6_n : (r6.toList != (⟨#[49]⟩ : ByteArray).toList) = true := by rw [bne, C6_]; rfl
  have C6_k : (r6.toList == ([49] : List UInt8)) = false := by rw [show ([49] : List UInt8) = (⟨#[49]⟩ : ByteArray).toList by rw [ba_toList]]; exact C6_
  have S7_r := cat_r S7 D7
  have S7_q := cat_q S7 D7
  have S8_r := cat_r S8 D8
  have S8_q := cat_q S8 D8
  have W10_ : IntKind.i64.wrap ((i_4 : Int) + 1) = (i_4 : Int) + 1 := wr64 W10.1 W10.2
  unfold Cont
  simp +decide [ltx_h4, ltx_hN, loopsOf, Tryz.f52, ltx_C4, C1, C1_, EL2, EG2, E2, K3, ↓S4_r, S4_q, K5, C6_, C6_n, C6_k, ↓S7_r, S7_q, ↓S8_r, S8_q, K9, W10_, hks0]
theorem ltN_1 {n : Nat} {ab rb : ByteArray} {a0 : Form} {i_4 : Nat} {v3 : Int} {q3 : Rat} {r5 : ByteArray} {cat7 : ByteArray} {r6 : ByteArray} {cat8 : ByteArray} {cat9 : ByteArray} (C1 : (i_4 : Int) < (a0.1.length : Int)) (E2 : a0.1[i_4]? = some (v3, q3)) (K3 : (oItoa) [.lit (.int .i64 v3)] = some (.lit (.string r5))) (S4 : (⟨#[120]⟩ : ByteArray).size + r5.size ≤ 9000000000000000000) (D4 : cat7 = (⟨#[120]⟩ : ByteArray) ++ r5) (K5 : run (n + 6) 121 [ratV q3] = some (.lit (.string r6))) (C6 : ¬ r6 = (⟨#[49]⟩ : ByteArray)) (S7 : r6.size + (⟨#[42]⟩ : ByteArray).size ≤ 9000000000000000000) (D7 : cat8 = r6 ++ (⟨#[42]⟩ : ByteArray)) (S8 : cat8.size + cat7.size ≤ 9000000000000000000) (D8 : cat9 = cat8 ++ cat7) (K9 : runL (n + 6) 119 [.lit (.bool (rawQ q3).s), .lit (.string cat9), .ptr 0 0] [.box 88 [.ptr 0 0, .own 1 ab.size] false, .row 5 1 (strEls ab) 0] = some (.tup [], [(0, .box 88 [.ptr 0 0, .own 3 rb.size] false), (3, .row 5 1 (strEls rb) 0)])) (W10 : InI ((i_4 : Int) + 1)) :
    Cont 0 (exec Tryz.prog (tab (n + 7)) 0 55 (livesOf 52) big ltx_C4) (livesOf 52 4) (ltx_hN a0 i_4 ab) (ltx_hN a0 (i_4 + 1) rb) := by
  obtain ⟨ks0, hks0⟩ : ∃ k : ByteArray, (⟨#[42]⟩ : ByteArray) = k := ⟨_, rfl⟩
  rw [hks0] at S7 D7
  have C1_ : i_4 < a0.1.length := by omega
  obtain ⟨EL2, EG2⟩ := List.getElem?_eq_some_iff.1 E2
  have S4_r := cat_r S4 D4
  have S4_q := cat_q S4 D4
  simp only [ratV] at K5
  have C6_ : (r6.toList == (⟨#[49]⟩ : ByteArray).toList) = false := by rw [beq_eq_false_iff_ne]; exact fun h => C6 (ba_inj h)
  have C6_n : (r6.toList != (⟨#[49]⟩ : ByteArray).toList) = true := by rw [bne, C6_]; rfl
  have C6_k : (r6.toList == ([49] : List UInt8)) = false := by rw [show ([49] : List UInt8) = (⟨#[49]⟩ : ByteArray).toList by rw [ba_toList]]; exact C6_
  have S7_r := cat_r S7 D7
  have S7_q := cat_q S7 D7
  have S8_r := cat_r S8 D8
  have S8_q := cat_q S8 D8
  have W10_ : IntKind.i64.wrap ((i_4 : Int) + 1) = (i_4 : Int) + 1 := wr64 W10.1 W10.2
  unfold Cont
  simp +decide [ltx_hN, loopsOf, Tryz.f52, ltx_C4, C1, C1_, EL2, EG2, E2, K3, ↓S4_r, S4_q, K5, C6_, C6_n, C6_k, ↓S7_r, S7_q, ↓S8_r, S8_q, K9, W10_, hks0]
theorem ltE1_2 {n : Nat} {rb : ByteArray} {a0 : Form} {i_4 : Nat} {v3 : Int} {q3 : Rat} {r5 : ByteArray} {cat7 : ByteArray} {r6 : ByteArray} (C1 : (i_4 : Int) < (a0.1.length : Int)) (E2 : a0.1[i_4]? = some (v3, q3)) (K3 : (oItoa) [.lit (.int .i64 v3)] = some (.lit (.string r5))) (S4 : (⟨#[120]⟩ : ByteArray).size + r5.size ≤ 9000000000000000000) (D4 : cat7 = (⟨#[120]⟩ : ByteArray) ++ r5) (K5 : run (n + 6) 121 [ratV q3] = some (.lit (.string r6))) (C6 : r6 = (⟨#[49]⟩ : ByteArray)) (K7 : runL (n + 6) 119 [.lit (.bool (rawQ q3).s), .lit (.string cat7), .ptr 0 0] [.box 88 [(.lit (.pointer none)), .nl 1] false] = some (.tup [], [(0, .box 88 [.ptr 0 0, .own 1 rb.size] false), (1, .row 5 1 (strEls rb) 0)])) (W8 : InI ((i_4 : Int) + 1)) :
    Cont 0 (exec Tryz.prog (tab (n + 7)) 0 55 (livesOf 52) big ltx_C4) (livesOf 52 4) (ltx_h4 a0 i_4) (ltx_hN a0 (i_4 + 1) rb) := by
  have C1_ : i_4 < a0.1.length := by omega
  obtain ⟨EL2, EG2⟩ := List.getElem?_eq_some_iff.1 E2
  have S4_r := cat_r S4 D4
  have S4_q := cat_q S4 D4
  simp only [ratV] at K5
  have C6_ : (r6.toList == (⟨#[49]⟩ : ByteArray).toList) = true := by rw [C6]; simp
  have C6_n : (r6.toList != (⟨#[49]⟩ : ByteArray).toList) = false := by rw [bne, C6_]; rfl
  have C6_k : (r6.toList == ([49] : List UInt8)) = true := by rw [show ([49] : List UInt8) = (⟨#[49]⟩ : ByteArray).toList by rw [ba_toList]]; exact C6_
  have W8_ : IntKind.i64.wrap ((i_4 : Int) + 1) = (i_4 : Int) + 1 := wr64 W8.1 W8.2
  unfold Cont
  simp +decide [ltx_h4, ltx_hN, loopsOf, Tryz.f52, ltx_C4, C1, C1_, EL2, EG2, E2, K3, ↓S4_r, S4_q, K5, C6_, C6_n, C6_k, K7, W8_]
theorem ltE2_2 {n : Nat} {rb : ByteArray} {a0 : Form} {i_4 : Nat} {v3 : Int} {q3 : Rat} {r5 : ByteArray} {cat7 : ByteArray} {r6 : ByteArray} (C1 : (i_4 : Int) < (a0.1.length : Int)) (E2 : a0.1[i_4]? = some (v3, q3)) (K3 : (oItoa) [.lit (.int .i64 v3)] = some (.lit (.string r5))) (S4 : (⟨#[120]⟩ : ByteArray).size + r5.size ≤ 9000000000000000000) (D4 : cat7 = (⟨#[120]⟩ : ByteArray) ++ r5) (K5 : run (n + 6) 121 [ratV q3] = some (.lit (.string r6))) (C6 : r6 = (⟨#[49]⟩ : ByteArray)) (K7 : runL (n + 6) 119 [.lit (.bool (rawQ q3).s), .lit (.string cat7), .ptr 0 0] [.box 88 [(.lit (.pointer none)), .nl 1] false] = some (.tup [], [(0, .box 88 [.ptr 0 0, .own 2 rb.size] false), (2, .row 5 1 (strEls rb) 0)])) (W8 : InI ((i_4 : Int) + 1)) :
    Cont 0 (exec Tryz.prog (tab (n + 7)) 0 55 (livesOf 52) big ltx_C4) (livesOf 52 4) (ltx_h4 a0 i_4) (ltx_hN a0 (i_4 + 1) rb) := by
  have C1_ : i_4 < a0.1.length := by omega
  obtain ⟨EL2, EG2⟩ := List.getElem?_eq_some_iff.1 E2
  have S4_r := cat_r S4 D4
  have S4_q := cat_q S4 D4
  simp only [ratV] at K5
  have C6_ : (r6.toList == (⟨#[49]⟩ : ByteArray).toList) = true := by rw [C6]; simp
  have C6_n : (r6.toList != (⟨#[49]⟩ : ByteArray).toList) = false := by rw [bne, C6_]; rfl
  have C6_k : (r6.toList == ([49] : List UInt8)) = true := by rw [show ([49] : List UInt8) = (⟨#[49]⟩ : ByteArray).toList by rw [ba_toList]]; exact C6_
  have W8_ : IntKind.i64.wrap ((i_4 : Int) + 1) = (i_4 : Int) + 1 := wr64 W8.1 W8.2
  unfold Cont
  simp +decide [ltx_h4, ltx_hN, loopsOf, Tryz.f52, ltx_C4, C1, C1_, EL2, EG2, E2, K3, ↓S4_r, S4_q, K5, C6_, C6_n, C6_k, K7, W8_]
theorem ltN_2 {n : Nat} {ab rb : ByteArray} {a0 : Form} {i_4 : Nat} {v3 : Int} {q3 : Rat} {r5 : ByteArray} {cat7 : ByteArray} {r6 : ByteArray} (C1 : (i_4 : Int) < (a0.1.length : Int)) (E2 : a0.1[i_4]? = some (v3, q3)) (K3 : (oItoa) [.lit (.int .i64 v3)] = some (.lit (.string r5))) (S4 : (⟨#[120]⟩ : ByteArray).size + r5.size ≤ 9000000000000000000) (D4 : cat7 = (⟨#[120]⟩ : ByteArray) ++ r5) (K5 : run (n + 6) 121 [ratV q3] = some (.lit (.string r6))) (C6 : r6 = (⟨#[49]⟩ : ByteArray)) (K7 : runL (n + 6) 119 [.lit (.bool (rawQ q3).s), .lit (.string cat7), .ptr 0 0] [.box 88 [.ptr 0 0, .own 1 ab.size] false, .row 5 1 (strEls ab) 0] = some (.tup [], [(0, .box 88 [.ptr 0 0, .own 3 rb.size] false), (3, .row 5 1 (strEls rb) 0)])) (W8 : InI ((i_4 : Int) + 1)) :
    Cont 0 (exec Tryz.prog (tab (n + 7)) 0 55 (livesOf 52) big ltx_C4) (livesOf 52 4) (ltx_hN a0 i_4 ab) (ltx_hN a0 (i_4 + 1) rb) := by
  have C1_ : i_4 < a0.1.length := by omega
  obtain ⟨EL2, EG2⟩ := List.getElem?_eq_some_iff.1 E2
  have S4_r := cat_r S4 D4
  have S4_q := cat_q S4 D4
  simp only [ratV] at K5
  have C6_ : (r6.toList == (⟨#[49]⟩ : ByteArray).toList) = true := by rw [C6]; simp
  have C6_n : (r6.toList != (⟨#[49]⟩ : ByteArray).toList) = false := by rw [bne, C6_]; rfl
  have C6_k : (r6.toList == ([49] : List UInt8)) = true := by rw [show ([49] : List UInt8) = (⟨#[49]⟩ : ByteArray).toList by rw [ba_toList]]; exact C6_
  have W8_ : IntKind.i64.wrap ((i_4 : Int) + 1) = (i_4 : Int) + 1 := wr64 W8.1 W8.2
  unfold Cont
  simp +decide [ltx_hN, loopsOf, Tryz.f52, ltx_C4, C1, C1_, EL2, EG2, E2, K3, ↓S4_r, S4_q, K5, C6_, C6_n, C6_k, K7, W8_]
theorem ltN_x {n : Nat} {ab : ByteArray} {a0 : Form} {i_4 : Nat} (C1 : ¬ (i_4 : Int) < (a0.1.length : Int)) :
    Leave 0 (exec Tryz.prog (tab (n + 7)) 0 55 (livesOf 52) big ltx_C4) (livesOf 52 (outOf 4)) (ltx_hN a0 i_4 ab) (.exit 0) (ltx_oN a0 ab) := by
  have C1_ : ¬ i_4 < a0.1.length := by omega
  unfold Leave
  simp +decide [ltx_hN, loopsOf, Tryz.f52, ltx_oN, ltx_C4, C1, C1_]
theorem ltFE1 {n : Nat} {rb : ByteArray} {a0 : Form} {r8 : ByteArray} {r10 : ByteArray} (L1 : loopG Tryz.prog (tab (n + 7)) 0 55 (livesOf 52) 4 ltx_C4 (ltx_h4 a0 0) = some (.exit 0, ltx_o4a a0)) (C2 : 0 < ((rawQ a0.2).l1.length : Int)) (K3 : run (n + 6) 121 [ratV a0.2] = some (.lit (.string r8))) (K4 : runL (n + 6) 119 [.lit (.bool (rawQ a0.2).s), .lit (.string r8), .ptr 0 0] [.box 88 [(.lit (.pointer none)), .nl 1] false] = some (.tup [], [(0, .box 88 [.ptr 0 0, .own 1 rb.size] false), (1, .row 5 1 (strEls rb) 0)])) (K5 : runL (n + 6) 70 [.ptr 0 0] [.box 88 [.ptr 0 0, .own 1 rb.size] false, .row 5 1 (strEls rb) 0] = some (.lit (.string r10), [(0, .box 88 [.ptr 0 0, .own 1 rb.size] false)])) :
    run (n + 7) 52 [formV a0] = some (.lit (.string r10)) := by
  have C2_ : 0 < (rawQ a0.2).l1.length := by omega
  have C2_z : ((rawQ a0.2).l1.length : Int) ≠ 0 := by omega
  have C2_e : (((rawQ a0.2).l1.length : Int) == 0) = false := by simpa using C2_z
  have C2_g : (((rawQ a0.2).l1.length : Int) != 0) = true := by simpa using C2_z
  simp only [ratV] at K3
  unfold run fnP
  simp +decide [Tryz.f52, C2, C2_, C2_e, C2_g, K3, K4, K5]
  rw [loopX_G (C' := ltx_C4) (e := (ltx_h4 a0 0)) ?_ ?_, L1]
  rotate_left
  · kernel_rfl
  · simp +decide [ltx_h4, C2, C2_, C2_e, C2_g, K3, K4, K5]
  simp +decide [ltx_o4a, C2, C2_, C2_e, C2_g, K3, K4, K5]
theorem ltFE2 {n : Nat} {rb : ByteArray} {a0 : Form} {r8 : ByteArray} {r10 : ByteArray} (L1 : loopG Tryz.prog (tab (n + 7)) 0 55 (livesOf 52) 4 ltx_C4 (ltx_h4 a0 0) = some (.exit 0, ltx_o4a a0)) (C2 : 0 < ((rawQ a0.2).l1.length : Int)) (K3 : run (n + 6) 121 [ratV a0.2] = some (.lit (.string r8))) (K4 : runL (n + 6) 119 [.lit (.bool (rawQ a0.2).s), .lit (.string r8), .ptr 0 0] [.box 88 [(.lit (.pointer none)), .nl 1] false] = some (.tup [], [(0, .box 88 [.ptr 0 0, .own 2 rb.size] false), (2, .row 5 1 (strEls rb) 0)])) (K5 : runL (n + 6) 70 [.ptr 0 0] [.box 88 [.ptr 0 0, .own 1 rb.size] false, .row 5 1 (strEls rb) 0] = some (.lit (.string r10), [(0, .box 88 [.ptr 0 0, .own 1 rb.size] false)])) :
    run (n + 7) 52 [formV a0] = some (.lit (.string r10)) := by
  have C2_ : 0 < (rawQ a0.2).l1.length := by omega
  have C2_z : ((rawQ a0.2).l1.length : Int) ≠ 0 := by omega
  have C2_e : (((rawQ a0.2).l1.length : Int) == 0) = false := by simpa using C2_z
  have C2_g : (((rawQ a0.2).l1.length : Int) != 0) = true := by simpa using C2_z
  simp only [ratV] at K3
  unfold run fnP
  simp +decide [Tryz.f52, C2, C2_, C2_e, C2_g, K3, K4, K5]
  rw [loopX_G (C' := ltx_C4) (e := (ltx_h4 a0 0)) ?_ ?_, L1]
  rotate_left
  · kernel_rfl
  · simp +decide [ltx_h4, C2, C2_, C2_e, C2_g, K3, K4, K5]
  simp +decide [ltx_o4a, C2, C2_, C2_e, C2_g, K3, K4, K5]
theorem ltFE3 {n : Nat} {rb : ByteArray} {a0 : Form} {r7 : Int} {r9 : ByteArray} {r11 : ByteArray} (L1 : loopG Tryz.prog (tab (n + 7)) 0 55 (livesOf 52) 4 ltx_C4 (ltx_h4 a0 0) = some (.exit 0, ltx_o4a a0)) (C2 : ¬ 0 < ((rawQ a0.2).l1.length : Int)) (K3 : runL (n + 6) 120 [.ptr 0 0] [.box 88 [(.lit (.pointer none)), .nl 1] false] = some (.lit (.int .i64 r7), [(0, .box 88 [(.lit (.pointer none)), .nl 1] false)])) (C4 : r7 = 0) (K5 : run (n + 6) 121 [ratV a0.2] = some (.lit (.string r9))) (K6 : runL (n + 6) 119 [.lit (.bool (rawQ a0.2).s), .lit (.string r9), .ptr 0 0] [.box 88 [(.lit (.pointer none)), .nl 1] false] = some (.tup [], [(0, .box 88 [.ptr 0 0, .own 1 rb.size] false), (1, .row 5 1 (strEls rb) 0)])) (K7 : runL (n + 6) 70 [.ptr 0 0] [.box 88 [.ptr 0 0, .own 1 rb.size] false, .row 5 1 (strEls rb) 0] = some (.lit (.string r11), [(0, .box 88 [.ptr 0 0, .own 1 rb.size] false)])) :
    run (n + 7) 52 [formV a0] = some (.lit (.string r11)) := by
  have C2_ : ¬ 0 < (rawQ a0.2).l1.length := by omega
  have C2_z : ((rawQ a0.2).l1.length : Int) = 0 := by omega
  have C2_e : (((rawQ a0.2).l1.length : Int) == 0) = true := by rw [C2_z]; simp
  have C2_g : (((rawQ a0.2).l1.length : Int) != 0) = false := by rw [C2_z]; simp
  have C4_ : (r7 == 0) = true := by rw [C4]; simp
  have C4_n : (r7 != 0) = false := by rw [C4]; simp
  simp only [ratV] at K5
  unfold run fnP
  simp +decide [Tryz.f52, C2, C2_, C2_e, C2_g, K3, C4_, C4_n, K5, K6, K7]
  rw [loopX_G (C' := ltx_C4) (e := (ltx_h4 a0 0)) ?_ ?_, L1]
  rotate_left
  · kernel_rfl
  · simp +decide [ltx_h4, C2, C2_, C2_e, C2_g, K3, C4_, C4_n, K5, K6, K7]
  simp +decide [ltx_o4a, C2, C2_, C2_e, C2_g, K3, C4_, C4_n, K5, K6, K7]
theorem ltFN1 {n : Nat} {ab rb : ByteArray} {a0 : Form} {r8 : ByteArray} {r10 : ByteArray} (L1 : loopG Tryz.prog (tab (n + 7)) 0 55 (livesOf 52) 4 ltx_C4 (ltx_h4 a0 0) = some (.exit 0, ltx_oN a0 ab)) (C2 : 0 < ((rawQ a0.2).l1.length : Int)) (K3 : run (n + 6) 121 [ratV a0.2] = some (.lit (.string r8))) (K4 : runL (n + 6) 119 [.lit (.bool (rawQ a0.2).s), .lit (.string r8), .ptr 0 0] [.box 88 [.ptr 0 0, .own 1 ab.size] false, .row 5 1 (strEls ab) 0] = some (.tup [], [(0, .box 88 [.ptr 0 0, .own 3 rb.size] false), (3, .row 5 1 (strEls rb) 0)])) (K5 : runL (n + 6) 70 [.ptr 0 0] [.box 88 [.ptr 0 0, .own 1 rb.size] false, .row 5 1 (strEls rb) 0] = some (.lit (.string r10), [(0, .box 88 [.ptr 0 0, .own 1 rb.size] false)])) :
    run (n + 7) 52 [formV a0] = some (.lit (.string r10)) := by
  have C2_ : 0 < (rawQ a0.2).l1.length := by omega
  have C2_z : ((rawQ a0.2).l1.length : Int) ≠ 0 := by omega
  have C2_e : (((rawQ a0.2).l1.length : Int) == 0) = false := by simpa using C2_z
  have C2_g : (((rawQ a0.2).l1.length : Int) != 0) = true := by simpa using C2_z
  simp only [ratV] at K3
  unfold run fnP
  simp +decide [Tryz.f52, C2, C2_, C2_e, C2_g, K3, K4, K5]
  rw [loopX_G (C' := ltx_C4) (e := (ltx_h4 a0 0)) ?_ ?_, L1]
  rotate_left
  · kernel_rfl
  · simp +decide [ltx_h4, C2, C2_, C2_e, C2_g, K3, K4, K5]
  simp +decide [ltx_oN, C2, C2_, C2_e, C2_g, K3, K4, K5]
theorem ltFN2 {n : Nat} {ab : ByteArray} {a0 : Form} {r7 : Int} {r12 : ByteArray} (L1 : loopG Tryz.prog (tab (n + 7)) 0 55 (livesOf 52) 4 ltx_C4 (ltx_h4 a0 0) = some (.exit 0, ltx_oN a0 ab)) (C2 : ¬ 0 < ((rawQ a0.2).l1.length : Int)) (K3 : runL (n + 6) 120 [.ptr 0 0] [.box 88 [.ptr 0 0, .own 1 ab.size] false, .row 5 1 (strEls ab) 0] = some (.lit (.int .i64 r7), [(0, .box 88 [.ptr 0 0, .own 1 ab.size] false), (1, .row 5 1 (strEls ab) 0)])) (C4 : ¬ r7 = 0) (K5 : runL (n + 6) 70 [.ptr 0 0] [.box 88 [.ptr 0 0, .own 1 ab.size] false, .row 5 1 (strEls ab) 0] = some (.lit (.string r12), [(0, .box 88 [.ptr 0 0, .own 1 ab.size] false)])) :
    run (n + 7) 52 [formV a0] = some (.lit (.string r12)) := by
  have C2_ : ¬ 0 < (rawQ a0.2).l1.length := by omega
  have C2_z : ((rawQ a0.2).l1.length : Int) = 0 := by omega
  have C2_e : (((rawQ a0.2).l1.length : Int) == 0) = true := by rw [C2_z]; simp
  have C2_g : (((rawQ a0.2).l1.length : Int) != 0) = false := by rw [C2_z]; simp
  have C4_ : (r7 == 0) = false := by simpa using C4
  have C4_n : (r7 != 0) = true := by simpa using C4
  unfold run fnP
  simp +decide [Tryz.f52, C2, C2_, C2_e, C2_g, K3, C4_, C4_n, K5]
  rw [loopX_G (C' := ltx_C4) (e := (ltx_h4 a0 0)) ?_ ?_, L1]
  rotate_left
  · kernel_rfl
  · simp +decide [ltx_h4, C2, C2_, C2_e, C2_g, K3, C4_, C4_n, K5]
  simp +decide [ltx_oN, C2, C2_, C2_e, C2_g, K3, C4_, C4_n, K5]
end Go.Proofs.YtlpmemelhlnfbaaGreatDoor
set_option linter.all false
set_option maxRecDepth 100000
set_option maxHeartbeats 6400000
namespace Go.Proofs.YtlpmemelhlnfbaaGreatDoor
open Go.RowKit
theorem blen_0 {n : Nat} : runL n 120 [.ptr 0 0] [.box 88 [.lit (.pointer none), .nl 1] false] = some (.lit (.int .i64 0), [(0, .box 88 [.lit (.pointer none), .nl 1] false)]) := by
  unfold runL fnL
  simp +decide [Tryz.f120]
theorem blen_1 {n : Nat} {k : Nat} {es : List (List AV)} : runL n 120 [.ptr 0 0] [.box 88 [.ptr 0 0, .own 1 k] false, .row 5 1 es 0] = some (.lit (.int .i64 k), [(0, .box 88 [.ptr 0 0, .own 1 k] false), (1, .row 5 1 es 0)]) := by
  unfold runL fnL
  simp +decide [Tryz.f120]
theorem bws_0 {n : Nat} {s : ByteArray} (h : roomy s.size 1 = true) : runL (n + 1) 69 [.ptr 0 0, .lit (.string s)] [.box 88 [.lit (.pointer none), .nl 1] false] = some (.tup [.lit (.int .i64 s.size), .lit .nilIface], [(0, .box 88 [.ptr 0 0, .own 1 s.size] false), (1, .row 5 1 (strEls s) 0)]) := by
  unfold runL fnL
  simp +decide [Tryz.f69, ccG, isSelf, enumB, apS, isNil, h]
theorem bws_1 {n : Nat} {a s : ByteArray} (h : roomy (a.size + s.size) 1 = true) : runL (n + 1) 69 [.ptr 0 0, .lit (.string s)] [.box 88 [.ptr 0 0, .own 1 a.size] false, .row 5 1 (strEls a) 0] = some (.tup [.lit (.int .i64 s.size), .lit .nilIface], [(0, .box 88 [.ptr 0 0, .own 2 (a.size + s.size)] false), (2, .row 5 1 (strEls (a ++ s)) 0)]) := by
  unfold runL fnL
  simp +decide [Tryz.f69, ccG, isSelf, enumB, apS, isNil, h]
theorem bstr_1 {n : Nat} {a : ByteArray} (h0 : 0 < a.size) (h : (a.size : Int) ≤ 9223372036854775807) : runL n 70 [.ptr 0 0] [.box 88 [.ptr 0 0, .own 1 a.size] false, .row 5 1 (strEls a) 0] = some (.lit (.string a), [(0, .box 88 [.ptr 0 0, .own 1 a.size] false)]) := by
  unfold runL fnL
  simp +decide [Tryz.f70, usdT, usT, h0, h]
theorem bpart_0 {n : Nat} {s : ByteArray} (h : roomy s.size 1 = true) : runL (n + 2) 119 [.lit (.bool false), .lit (.string s), .ptr 0 0] [.box 88 [.lit (.pointer none), .nl 1] false] = some (.tup [], [(0, .box 88 [.ptr 0 0, .own 1 s.size] false), (1, .row 5 1 (strEls s) 0)]) := by
  have K := bws_0 (n := n) h
  unfold runL fnL
  simp +decide [Tryz.f119, blen_0, K]
end Go.Proofs.YtlpmemelhlnfbaaGreatDoor
set_option linter.all false
set_option maxRecDepth 100000
set_option maxHeartbeats 6400000
namespace Go.Proofs.YtlpmemelhlnfbaaGreatDoor
open Go.RowKit
theorem bpart_1 {n : Nat} {s : ByteArray} (h0 : roomy 1 1 = true) (h : roomy (1 + s.size) 1 = true) : runL (n + 2) 119 [.lit (.bool true), .lit (.string s), .ptr 0 0] [.box 88 [.lit (.pointer none), .nl 1] false] = some (.tup [], [(0, .box 88 [.ptr 0 0, .own 2 (1 + s.size)] false), (2, .row 5 1 (strEls ((⟨#[45]⟩ : ByteArray) ++ s)) 0)]) := by
  have K1 := bws_0 (n := n) (s := (⟨#[45]⟩ : ByteArray)) h0
  have K2 := bws_1 (n := n) (a := (⟨#[45]⟩ : ByteArray)) (s := s) h
  unfold runL fnL
  simp +decide [Tryz.f119, blen_0, K1, K2]
theorem bpart_2 {n : Nat} {a s : ByteArray} (ha : 0 < a.size) (h0 : roomy (a.size + 3) 1 = true) (h : roomy (a.size + 3 + s.size) 1 = true) : runL (n + 2) 119 [.lit (.bool false), .lit (.string s), .ptr 0 0] [.box 88 [.ptr 0 0, .own 1 a.size] false, .row 5 1 (strEls a) 0] = some (.tup [], [(0, .box 88 [.ptr 0 0, .own 3 (a.size + 3 + s.size)] false), (3, .row 5 1 (strEls (a ++ (⟨#[32, 43, 32]⟩ : ByteArray) ++ s)) 0)]) := by
  have K1 := bws_1 (n := n) (a := a) (s := (⟨#[32, 43, 32]⟩ : ByteArray)) h0
  have K2 := bws_1 (n := n) (a := a ++ (⟨#[32, 43, 32]⟩ : ByteArray)) (s := s) (by rw [ByteArray.size_append]; exact h)
  rw [ByteArray.size_append] at K2
  have e1 : ((a.size : Int) == 0) = false := by rw [beq_eq_false_iff_ne]; omega
  have e2 : ((a.size : Int) != 0) = true := by rw [bne_iff_ne]; omega
  unfold runL fnL
  simp +decide [Tryz.f119, blen_1, K1, K2, e1, e2, ha]
theorem bpart_3 {n : Nat} {a s : ByteArray} (ha : 0 < a.size) (h0 : roomy (a.size + 3) 1 = true) (h : roomy (a.size + 3 + s.size) 1 = true) : runL (n + 2) 119 [.lit (.bool true), .lit (.string s), .ptr 0 0] [.box 88 [.ptr 0 0, .own 1 a.size] false, .row 5 1 (strEls a) 0] = some (.tup [], [(0, .box 88 [.ptr 0 0, .own 3 (a.size + 3 + s.size)] false), (3, .row 5 1 (strEls (a ++ (⟨#[32, 45, 32]⟩ : ByteArray) ++ s)) 0)]) := by
  have K1 := bws_1 (n := n) (a := a) (s := (⟨#[32, 45, 32]⟩ : ByteArray)) h0
  have K2 := bws_1 (n := n) (a := a ++ (⟨#[32, 45, 32]⟩ : ByteArray)) (s := s) (by rw [ByteArray.size_append]; exact h)
  rw [ByteArray.size_append] at K2
  have e1 : ((a.size : Int) == 0) = false := by rw [beq_eq_false_iff_ne]; omega
  have e2 : ((a.size : Int) != 0) = true := by rw [bne_iff_ne]; omega
  unfold runL fnL
  simp +decide [Tryz.f119, blen_1, K1, K2, e1, e2, ha]
end Go.Proofs.YtlpmemelhlnfbaaGreatDoor
set_option linter.all false
set_option maxRecDepth 100000
set_option maxHeartbeats 6400000
namespace Go.Proofs.YtlpmemelhlnfbaaGreatDoor
open Go.RowKit
noncomputable def ftx_C3 : Code := (loopsOf (bodyOf Tryz.f54)).getD 0 .skip
def ftx_h3 (a0 : Form) (str_3 : ByteArray) (i_3 : Nat) : St :=
  ⟨[(1, .ptr 0 0), (3, .lit (.string str_3)), (4, .lit (.int .i64 (i_3 : Int)))],
   [(0, some (.box 29 [.sl 4 (a0.1.map termC), .lit (.bool (rawQ a0.2).s), natA (rawQ a0.2).l1, natA (rawQ a0.2).l2] false))], 1⟩
def ftx_o3a (a0 : Form) (str_3 : ByteArray) : St :=
  ⟨[(1, .ptr 0 0), (3, .lit (.string str_3))],
   [(0, some (.box 29 [.sl 4 (a0.1.map termC), .lit (.bool (rawQ a0.2).s), natA (rawQ a0.2).l1, natA (rawQ a0.2).l2] false))], 1⟩
section
variable {r16 : List Nat} {r18 : ByteArray} {cat12 : ByteArray} {str_3 : ByteArray} {i_3 : Nat} {r15 : ByteArray} {cat11 : ByteArray} {cat13 : ByteArray} {q3 : Rat} {v3 : Int} {a0 : Form} {r17 : ByteArray} {n : Nat} {cat14 : ByteArray} {r21 : ByteArray} {r19 : List Nat} {cat15 : ByteArray} {r20 : ByteArray} {r23 : ByteArray} {r22 : ByteArray} {r25 : ByteArray} {r24 : ByteArray}
theorem ftx_r3_1 (C1 : (i_3 : Int) < (a0.1.length : Int)) (E2 : a0.1[i_3]? = some (v3, q3)) (K3 : run (n + 5) 125 [ratV q3] = some (.lit (.string r15))) (S4 : r15.size + (⟨#[42]⟩ : ByteArray).size ≤ 9000000000000000000) (D4 : cat11 = r15 ++ (⟨#[42]⟩ : ByteArray)) (C5 : cat11 = (⟨#[49, 42]⟩ : ByteArray)) (S6 : (⟨#[]⟩ : ByteArray).size + (⟨#[120]⟩ : ByteArray).size ≤ 9000000000000000000) (D6 : cat12 = (⟨#[]⟩ : ByteArray) ++ (⟨#[120]⟩ : ByteArray)) (W7 : IntKind.u64.wrap (v3) = v3) (K8 : (oU fun k => natA (lmb k)) [.lit (.int .u64 v3)] = some (natA r16)) (K9 : run (n + 5) 127 [natA r16] = some (.lit (.string r17))) (S10 : cat12.size + r17.size ≤ 9000000000000000000) (D10 : cat13 = cat12 ++ r17) (K11 : run (n + 5) 126 [.lit (.string str_3), .lit (.bool (rawQ q3).s), .lit (.string cat13)] = some (.lit (.string r18))) (W12 : InI ((i_3 : Int) + 1)) :
    Cont 0 (exec Tryz.prog (tab (n + 6)) 0 55 (livesOf 54) big ftx_C3) (livesOf 54 3) (ftx_h3 a0 str_3 i_3) (ftx_h3 a0 r18 (i_3 + 1)) := by
  obtain ⟨ks0, hks0⟩ : ∃ k : ByteArray, (⟨#[42]⟩ : ByteArray) = k := ⟨_, rfl⟩
  rw [hks0] at S4 D4
  obtain ⟨ks1, hks1⟩ : ∃ k : ByteArray, (⟨#[120]⟩ : ByteArray) = k := ⟨_, rfl⟩
  rw [hks1] at S6 D6
  have C1_ : i_3 < a0.1.length := by omega
  obtain ⟨EL2, EG2⟩ := List.getElem?_eq_some_iff.1 E2
  simp only [ratV] at K3
  have S4_r := cat_r S4 D4
  have S4_q := cat_q S4 D4
  have C5_ : (cat11.toList == (⟨#[49, 42]⟩ : ByteArray).toList) = true := by rw [C5]; simp
  have C5_n : (cat11.toList != (⟨#[49, 42]⟩ : ByteArray).toList) = false := by rw [bne, C5_]; rfl
  have C5_k : (cat11.toList == ([49, 42] : List UInt8)) = true := by rw [show ([49, 42] : List UInt8) = (⟨#[49, 42]⟩ : ByteArray).toList by rw [ba_toList]]; exact C5_
  have S6_r := cat_r S6 D6
  have S6_q := cat_q S6 D6
  have S10_r := cat_r S10 D10
  have S10_q := cat_q S10 D10
  have W12_ : IntKind.i64.wrap ((i_3 : Int) + 1) = (i_3 : Int) + 1 := wr64 W12.1 W12.2
  unfold Cont
  simp +decide [ftx_h3, loopsOf, Tryz.f54, ftx_C3, C1, C1_, EL2, EG2, E2, K3, ↓S4_r, S4_q, C5_, C5_n, C5_k, ↓S6_r, S6_q, W7, K8, K9, ↓S10_r, S10_q, K11, W12_, hks0, hks1]
theorem ftx_r3_2 (C1 : (i_3 : Int) < (a0.1.length : Int)) (E2 : a0.1[i_3]? = some (v3, q3)) (K3 : run (n + 5) 125 [ratV q3] = some (.lit (.string r15))) (S4 : r15.size + (⟨#[42]⟩ : ByteArray).size ≤ 9000000000000000000) (D4 : cat11 = r15 ++ (⟨#[42]⟩ : ByteArray)) (C5 : ¬ cat11 = (⟨#[49, 42]⟩ : ByteArray)) (S6 : cat11.size + (⟨#[120]⟩ : ByteArray).size ≤ 9000000000000000000) (D6 : cat14 = cat11 ++ (⟨#[120]⟩ : ByteArray)) (W7 : IntKind.u64.wrap (v3) = v3) (K8 : (oU fun k => natA (lmb k)) [.lit (.int .u64 v3)] = some (natA r19)) (K9 : run (n + 5) 127 [natA r19] = some (.lit (.string r20))) (S10 : cat14.size + r20.size ≤ 9000000000000000000) (D10 : cat15 = cat14 ++ r20) (K11 : run (n + 5) 126 [.lit (.string str_3), .lit (.bool (rawQ q3).s), .lit (.string cat15)] = some (.lit (.string r21))) (W12 : InI ((i_3 : Int) + 1)) :
    Cont 0 (exec Tryz.prog (tab (n + 6)) 0 55 (livesOf 54) big ftx_C3) (livesOf 54 3) (ftx_h3 a0 str_3 i_3) (ftx_h3 a0 r21 (i_3 + 1)) := by
  obtain ⟨ks0, hks0⟩ : ∃ k : ByteArray, (⟨#[42]⟩ : ByteArray) = k := ⟨_, rfl⟩
  rw [hks0] at S4 D4
  obtain ⟨ks1, hks1⟩ : ∃ k : ByteArray, (⟨#[120]⟩ : ByteArray) = k := ⟨_, rfl⟩
  rw [hks1] at S6 D6
  have C1_ : i_3 < a0.1.length := by omega
  obtain ⟨EL2, EG2⟩ := List.getElem?_eq_some_iff.1 E2
  simp only [ratV] at K3
  have S4_r := cat_r S4 D4
  have S4_q := cat_q S4 D4
  have C5_ : (cat11.toList == (⟨#[49, 42]⟩ : ByteArray).toList) = false := by rw [beq_eq_false_iff_ne]; exact fun h => C5 (ba_inj h)
  have C5_n : (cat11.toList != (⟨#[49, 42]⟩ : ByteArray).toList) = true := by rw [bne, C5_]; rfl
  have C5_k : (cat11.toList == ([49, 42] : List UInt8)) = false := by rw [show ([49, 42] : List UInt8) = (⟨#[49, 42]⟩ : ByteArray).toList by rw [ba_toList]]; exact C5_
  have S6_r := cat_r S6 D6
  have S6_q := cat_q S6 D6
  have S10_r := cat_r S10 D10
  have S10_q := cat_q S10 D10
  have W12_ : IntKind.i64.wrap ((i_3 : Int) + 1) = (i_3 : Int) + 1 := wr64 W12.1 W12.2
  unfold Cont
  simp +decide [ftx_h3, loopsOf, Tryz.f54, ftx_C3, C1, C1_, EL2, EG2, E2, K3, ↓S4_r, S4_q, C5_, C5_n, C5_k, ↓S6_r, S6_q, W7, K8, K9, ↓S10_r, S10_q, K11, W12_, hks0, hks1]
theorem ftx_x3_1 (C1 : ¬ (i_3 : Int) < (a0.1.length : Int)) :
    Leave 0 (exec Tryz.prog (tab (n + 6)) 0 55 (livesOf 54) big ftx_C3) (livesOf 54 (outOf 3)) (ftx_h3 a0 str_3 i_3) (.exit 0) (ftx_o3a a0 str_3) := by
  have C1_ : ¬ i_3 < a0.1.length := by omega
  unfold Leave
  simp +decide [ftx_h3, loopsOf, Tryz.f54, ftx_o3a, ftx_C3, C1, C1_]
theorem ftx_f1 (L1 : loopG Tryz.prog (tab (n + 6)) 0 55 (livesOf 54) 3 ftx_C3 (ftx_h3 a0 (⟨#[]⟩ : ByteArray) 0) = some (.exit 0, ftx_o3a a0 str_3)) (C2 : str_3 = (⟨#[]⟩ : ByteArray)) (K3 : run (n + 5) 125 [ratV a0.2] = some (.lit (.string r22))) (K4 : run (n + 5) 126 [.lit (.string str_3), .lit (.bool (rawQ a0.2).s), .lit (.string r22)] = some (.lit (.string r23))) :
    run (n + 6) 54 [formV a0] = some (.lit (.string r23)) := by
  have C2_ : (str_3.toList == (⟨#[]⟩ : ByteArray).toList) = true := by rw [C2]; simp
  have C2_n : (str_3.toList != (⟨#[]⟩ : ByteArray).toList) = false := by rw [bne, C2_]; rfl
  have C2_i : str_3.toList.isEmpty = true := by rw [C2, ba_toList] <;> rfl
  simp only [ratV] at K3
  unfold run fnP
  simp +decide [Tryz.f54, C2_, C2_n, C2_i, K3, K4]
  rw [loopX_G (C' := ftx_C3) (e := (ftx_h3 a0 (⟨#[]⟩ : ByteArray) 0)) ?_ ?_, L1]
  rotate_left
  · kernel_rfl
  · simp +decide [ftx_h3, C2_, C2_n, C2_i, K3, K4]
  simp +decide [ftx_o3a, C2_, C2_n, C2_i, K3, K4]
theorem ftx_f2 (L1 : loopG Tryz.prog (tab (n + 6)) 0 55 (livesOf 54) 3 ftx_C3 (ftx_h3 a0 (⟨#[]⟩ : ByteArray) 0) = some (.exit 0, ftx_o3a a0 str_3)) (C2 : ¬ str_3 = (⟨#[]⟩ : ByteArray)) (B3a : H a0.2 ≤ 17179869184) (C4 : ¬ sgR a0.2 = 0) (K5 : run (n + 5) 125 [ratV a0.2] = some (.lit (.string r24))) (K6 : run (n + 5) 126 [.lit (.string str_3), .lit (.bool (rawQ a0.2).s), .lit (.string r24)] = some (.lit (.string r25))) :
    run (n + 6) 54 [formV a0] = some (.lit (.string r25)) := by
  have C2_ : (str_3.toList == (⟨#[]⟩ : ByteArray).toList) = false := by rw [beq_eq_false_iff_ne]; exact fun h => C2 (ba_inj h)
  have C2_n : (str_3.toList != (⟨#[]⟩ : ByteArray).toList) = true := by rw [bne, C2_]; rfl
  have C2_i : str_3.toList.isEmpty = false := by rcases he : str_3.toList.isEmpty with _ | _; rfl; exact absurd (ba_inj (by rw [List.isEmpty_iff.1 he, ba_toList] <;> rfl)) C2
  have K3 := r_sign (p := a0.2) B3a
  have C4_ : (sgR a0.2 == 0) = false := by simpa using C4
  have C4_n : (sgR a0.2 != 0) = true := by simpa using C4
  simp only [ratV] at K5
  unfold run fnP
  simp +decide [Tryz.f54, C2_, C2_n, C2_i, K3, C4_, C4_n, K5, K6]
  rw [loopX_G (C' := ftx_C3) (e := (ftx_h3 a0 (⟨#[]⟩ : ByteArray) 0)) ?_ ?_, L1]
  rotate_left
  · kernel_rfl
  · simp +decide [ftx_h3, C2_, C2_n, C2_i, K3, C4_, C4_n, K5, K6]
  simp +decide [ftx_o3a, C2_, C2_n, C2_i, K3, C4_, C4_n, K5, K6]
theorem ftx_f3 (L1 : loopG Tryz.prog (tab (n + 6)) 0 55 (livesOf 54) 3 ftx_C3 (ftx_h3 a0 (⟨#[]⟩ : ByteArray) 0) = some (.exit 0, ftx_o3a a0 str_3)) (C2 : ¬ str_3 = (⟨#[]⟩ : ByteArray)) (B3a : H a0.2 ≤ 17179869184) (C4 : sgR a0.2 = 0) :
    run (n + 6) 54 [formV a0] = some (.lit (.string str_3)) := by
  have C2_ : (str_3.toList == (⟨#[]⟩ : ByteArray).toList) = false := by rw [beq_eq_false_iff_ne]; exact fun h => C2 (ba_inj h)
  have C2_n : (str_3.toList != (⟨#[]⟩ : ByteArray).toList) = true := by rw [bne, C2_]; rfl
  have C2_i : str_3.toList.isEmpty = false := by rcases he : str_3.toList.isEmpty with _ | _; rfl; exact absurd (ba_inj (by rw [List.isEmpty_iff.1 he, ba_toList] <;> rfl)) C2
  have K3 := r_sign (p := a0.2) B3a
  have C4_ : (sgR a0.2 == 0) = true := by rw [C4]; simp
  have C4_n : (sgR a0.2 != 0) = false := by rw [C4]; simp
  unfold run fnP
  simp +decide [Tryz.f54, C2_, C2_n, C2_i, K3, C4_, C4_n]
  rw [loopX_G (C' := ftx_C3) (e := (ftx_h3 a0 (⟨#[]⟩ : ByteArray) 0)) ?_ ?_, L1]
  rotate_left
  · kernel_rfl
  · simp +decide [ftx_h3, C2_, C2_n, C2_i, K3, C4_, C4_n]
  simp +decide [ftx_o3a, C2_, C2_n, C2_i, K3, C4_, C4_n]
end
end Go.Proofs.YtlpmemelhlnfbaaGreatDoor
set_option linter.all false
set_option maxRecDepth 100000
set_option maxHeartbeats 6400000
namespace Go.Proofs.YtlpmemelhlnfbaaGreatDoor
open Go.RowKit
open Lib (decDigits)
attribute [local irreducible] run runL loopG exec
def prt (t : Int × Rat) : List UInt8 := (if absT t.2 = [49] then [] else absT t.2 ++ [42]) ++ 120 :: decDigits t.1.toNat
def ngT (q : Rat) : Bool := (rawQ q).s
def txS (a : List UInt8) (t : Int × Rat) : List UInt8 := jn a (ngT t.2) (prt t)
def txL (l : List (Int × Rat)) : List UInt8 := l.foldl txS []
def txt (f : Form) : List UInt8 := if f.2 ≠ 0 ∨ txL f.1 = [] then jn (txL f.1) (ngT f.2) (absT f.2) else txL f.1
theorem jn_ne {a p : List UInt8} {neg : Bool} (h : p ≠ []) : jn a neg p ≠ [] := by
  unfold jn
  split
  · split
    · simp
    · exact h
  · intro e
    have e2 := (List.append_eq_nil_iff.1 e).1
    contradiction
theorem prt_ne (t : Int × Rat) : prt t ≠ [] := fun e => by
  have := (List.append_eq_nil_iff.1 e).2
  cases this
theorem absT_ne (q : Rat) : absT q ≠ [] := fun e => dd_ne _ (List.append_eq_nil_iff.1 e).1
theorem txL_snoc (l : List (Int × Rat)) (t : Int × Rat) : txL (l ++ [t]) = txS (txL l) t := by
  unfold txL
  rw [List.foldl_append]
  rfl
structure TxB (f : Form) : Prop where
  l : f.1.length ≤ 100
  t : ∀ t ∈ f.1, H t.2 ≤ 100 ∧ 0 ≤ t.1 ∧ t.1 < 9223372036854775808
  k : H f.2 ≤ 100
theorem dd_small {K m : Nat} (h : (lmb K).length ≤ m) : (decDigits K).length ≤ 32 * m + 1 := by
  have hb : K < 2 ^ (32 * (lmb K).length) := by
    have := val_lt (lim_lmb K)
    rw [val_lmb] at this
    rwa [Nat.pow_mul]
  have := dd_bits _ K hb
  omega
theorem absT_len2 {q : Rat} (h : H q ≤ 100) : (absT q).length ≤ 6500 := by
  have a1 : (lmb q.num.natAbs).length ≤ H q := Nat.le_max_left _ _
  have a2 : (lmb q.den).length ≤ H q := Nat.le_max_right _ _
  have h1 := dd_small (K := q.num.natAbs) (m := 100) (by omega)
  have h2 := dd_small (K := q.den) (m := 100) (by omega)
  unfold absT
  rw [List.length_append]
  split
  · simp; omega
  · simp; omega
theorem prt_len {t : Int × Rat} (h : H t.2 ≤ 100) (h0 : 0 ≤ t.1) (h1 : t.1 < 9223372036854775808) : (prt t).length ≤ 6700 := by
  have a1 := absT_len2 h
  have a2 : (lmb t.1.toNat).length ≤ 2 := lmb_len_le (by omega)
  have a3 := dd_small a2
  unfold prt
  rw [List.length_append, List.length_cons]
  split
  · simp; omega
  · rw [List.length_append]; simp; omega
theorem txS_len {a : List UInt8} {t : Int × Rat} (h : H t.2 ≤ 100 ∧ 0 ≤ t.1 ∧ t.1 < 9223372036854775808) : (txS a t).length ≤ a.length + 6703 := by
  have := jn_len a (ngT t.2) (prt t)
  have := prt_len h.1 h.2.1 h.2.2
  unfold txS
  omega
theorem txL_len : ∀ {l : List (Int × Rat)} {a : List UInt8}, (∀ t ∈ l, H t.2 ≤ 100 ∧ 0 ≤ t.1 ∧ t.1 < 9223372036854775808) → (l.foldl txS a).length ≤ a.length + l.length * 6703
  | [], a, _ => by simp
  | t :: l, a, h => by
    have h1 := txS_len (a := a) (h t (by simp))
    have h2 := txL_len (l := l) (a := txS a t) (fun u hu => h u (by simp [hu]))
    rw [List.foldl_cons, List.length_cons, Nat.add_mul]
    omega
theorem jn_e0 (p : List UInt8) : jn [] false p = p := by simp [jn]
theorem jn_e1 (p : List UInt8) : jn [] true p = 45 :: p := by simp [jn]
theorem jn_n0 {a : List UInt8} (h : a ≠ []) (p : List UInt8) : jn a false p = a ++ [32, 43, 32] ++ p := by simp [jn, h]
theorem jn_n1 {a : List UInt8} (h : a ≠ []) (p : List UInt8) : jn a true p = a ++ [32, 45, 32] ++ p := by simp [jn, h]
section
variable {n : Nat}
theorem partE0 {neg : Bool} {p : List UInt8} (hs : neg = false) (hp : p.length ≤ 90000000) : runL (n + 6) 119 [.lit (.bool neg), .lit (.string (bs p)), .ptr 0 0] [.box 88 [.lit (.pointer none), .nl 1] false] = some (.tup [], [(0, .box 88 [.ptr 0 0, .own 1 (bs (jn [] neg p)).size] false), (1, .row 5 1 (strEls (bs (jn [] neg p))) 0)]) := by
  subst hs
  rw [jn_e0]
  exact bpart_0 (n := n + 4) (roomy_s (by rw [bs_size]; omega) (by omega))
theorem partE1 {neg : Bool} {p : List UInt8} (hs : neg = true) (hp : p.length ≤ 90000000) : runL (n + 6) 119 [.lit (.bool neg), .lit (.string (bs p)), .ptr 0 0] [.box 88 [.lit (.pointer none), .nl 1] false] = some (.tup [], [(0, .box 88 [.ptr 0 0, .own 2 (bs (jn [] neg p)).size] false), (2, .row 5 1 (strEls (bs (jn [] neg p))) 0)]) := by
  subst hs
  have h := bpart_1 (n := n + 4) (s := bs p) (roomy_s (by omega) (by omega)) (roomy_s (by rw [bs_size]; omega) (by omega))
  have h1 : (⟨#[45]⟩ : ByteArray) ++ bs p = bs (45 :: p) := bs_app [45] p
  have h2 : 1 + (bs p).size = (bs (45 :: p)).size := by rw [bs_size, bs_size, List.length_cons]; omega
  rw [h1, h2] at h
  rw [jn_e1]
  exact h
theorem partN {a p : List UInt8} {neg : Bool} (ha : a ≠ []) (hp : a.length + p.length ≤ 90000000) : runL (n + 6) 119 [.lit (.bool neg), .lit (.string (bs p)), .ptr 0 0] [.box 88 [.ptr 0 0, .own 1 (bs a).size] false, .row 5 1 (strEls (bs a)) 0] = some (.tup [], [(0, .box 88 [.ptr 0 0, .own 3 (bs (jn a neg p)).size] false), (3, .row 5 1 (strEls (bs (jn a neg p))) 0)]) := by
  have hs : 0 < (bs a).size := by rw [bs_size]; exact List.length_pos_iff.2 ha
  have c2 : (⟨#[32, 45, 32]⟩ : ByteArray) = bs [32, 45, 32] := rfl
  have c3 : (⟨#[32, 43, 32]⟩ : ByteArray) = bs [32, 43, 32] := rfl
  cases neg with
  | false =>
    have h := bpart_2 (n := n + 4) (a := bs a) (s := bs p) hs (roomy_s (by rw [bs_size]; omega) (by omega)) (roomy_s (by rw [bs_size, bs_size]; omega) (by omega))
    have h2 : (bs a).size + 3 + (bs p).size = (bs (a ++ [32, 43, 32] ++ p)).size := by rw [bs_size, bs_size, bs_size, List.length_append, List.length_append]; rfl
    rw [c3, bs_app, bs_app, h2] at h
    rw [jn_n0 ha]
    exact h
  | true =>
    have h := bpart_3 (n := n + 4) (a := bs a) (s := bs p) hs (roomy_s (by rw [bs_size]; omega) (by omega)) (roomy_s (by rw [bs_size, bs_size]; omega) (by omega))
    have h2 : (bs a).size + 3 + (bs p).size = (bs (a ++ [32, 45, 32] ++ p)).size := by rw [bs_size, bs_size, bs_size, List.length_append, List.length_append]; rfl
    rw [c2, bs_app, bs_app, h2] at h
    rw [jn_n1 ha]
    exact h
theorem bstr_c {a : List UInt8} (ha : a ≠ []) (hl : a.length ≤ 90000000) : runL (n + 6) 70 [.ptr 0 0] [.box 88 [.ptr 0 0, .own 1 (bs a).size] false, .row 5 1 (strEls (bs a)) 0] = some (.lit (.string (bs a)), [(0, .box 88 [.ptr 0 0, .own 1 (bs a).size] false)]) :=
  bstr_1 (n := n + 6) (by rw [bs_size]; exact List.length_pos_iff.2 ha) (by rw [bs_size]; omega)
theorem k_itoa {v : Int} (h0 : 0 ≤ v) (h1 : v < 9223372036854775808) : oItoa [.lit (.int .i64 v)] = some (.lit (.string (bs (decDigits v.toNat)))) := by
  simp only [oItoa]
  rw [if_pos ⟨by omega, by omega⟩]
  have e : Lib.itoa v = decDigits v.toNat := by
    unfold Lib.itoa
    rw [if_neg (by omega)]
  rw [e]
  rfl
theorem prt_bs {t : Int × Rat} : (absT t.2 = [49] → bs (prt t) = (⟨#[120]⟩ : ByteArray) ++ bs (decDigits t.1.toNat)) ∧ (absT t.2 ≠ [49] → bs (prt t) = (bs (absT t.2) ++ (⟨#[42]⟩ : ByteArray)) ++ ((⟨#[120]⟩ : ByteArray) ++ bs (decDigits t.1.toNat))) := by
  have c1 : (⟨#[120]⟩ : ByteArray) = bs [120] := rfl
  have c2 : (⟨#[42]⟩ : ByteArray) = bs [42] := rfl
  unfold prt
  refine ⟨fun h => ?_, fun h => ?_⟩
  · rw [if_pos h, c1, bs_app]; rfl
  · rw [if_neg h, c1, c2, bs_app, bs_app, bs_app]; rfl
theorem ltx_c {f : Form} (hf : TxB f) : run (n + 7) 52 [formV f] = some (.lit (.string (bs (txt f)))) := by
  have hl := hf.l
  have hT : ∀ i, i ≤ f.1.length → (txL (f.1.take i)).length ≤ i * 6703 := fun i hi => by
    have h := txL_len (l := f.1.take i) (a := []) (fun t ht => hf.t t (List.mem_of_mem_take ht))
    rw [List.length_take] at h
    simp only [List.length_nil, Nat.zero_add] at h
    have : min i f.1.length * 6703 = i * 6703 := by rw [Nat.min_eq_left hi]
    unfold txL
    omega
  obtain ⟨b, hL, hI1, hI2⟩ := loopG_R (O := tab (n + 7)) (P := Tryz.prog) (m := 0) (N := 55) (lives := livesOf 52) (r := 4) (C := ltx_C4) (exN := .exit 0) (M := f.1.length)
    (enc := fun i (b : List UInt8) => if b = [] then ltx_h4 f i else ltx_hN f i (bs b)) (out := fun b => if b = [] then ltx_o4a f else ltx_oN f (bs b))
    (fun i b => b = txL (f.1.take i) ∧ i ≤ f.1.length) [] ⟨rfl, Nat.zero_le _⟩ (by omega) (fun h => by cases h)
    (fun i b hi hI => by
      obtain ⟨hb, hle⟩ := hI
      have hx : f.1[i]? = some f.1[i] := List.getElem?_eq_getElem hi
      obtain ⟨t, ht⟩ : ∃ t, f.1[i] = t := ⟨_, rfl⟩
      rw [ht] at hx
      have htk : f.1.take (i + 1) = f.1.take i ++ [t] := by rw [List.take_add_one, hx]; rfl
      obtain ⟨v, q⟩ := t
      obtain ⟨hq, hv0, hv1⟩ := hf.t _ (List.mem_of_getElem? hx)
      dsimp only at hq hv0 hv1
      have hbl := hT i hle
      rw [← hb] at hbl
      have hi6 : i * 6703 ≤ 100 * 6703 := Nat.mul_le_mul_right _ (by omega)
      have hpl := prt_len (t := (v, q)) hq hv0 hv1
      have hal := absT_len2 hq
      have hdl := dd_small (K := v.toNat) (m := 2) (lmb_len_le (by omega))
      have K3 := k_itoa hv0 hv1
      have K5 := lsz_c (n := n) (q := q) (by omega)
      have C1 : (i : Int) < (f.1.length : Int) := by omega
      have W : InI ((i : Int) + 1) := ⟨by omega, by omega⟩
      have e1 : (⟨#[120]⟩ : ByteArray).size = 1 := rfl
      have e2 : (⟨#[42]⟩ : ByteArray).size = 1 := rfl
      have c1 : (⟨#[49]⟩ : ByteArray) = bs [49] := rfl
      have S4 : (⟨#[120]⟩ : ByteArray).size + (bs (decDigits v.toNat)).size ≤ 9000000000000000000 := by rw [e1, bs_size]; omega
      have S7 : (bs (absT q)).size + (⟨#[42]⟩ : ByteArray).size ≤ 9000000000000000000 := by rw [e2, bs_size]; omega
      have c4 : (⟨#[120]⟩ : ByteArray) ++ bs (decDigits v.toNat) = bs (120 :: decDigits v.toNat) := bs_app [120] _
      have c5 : bs (absT q) ++ (⟨#[42]⟩ : ByteArray) = bs (absT q ++ [42]) := bs_app _ [42]
      have S8 : (bs (absT q) ++ (⟨#[42]⟩ : ByteArray)).size + ((⟨#[120]⟩ : ByteArray) ++ bs (decDigits v.toNat)).size ≤ 9000000000000000000 := by
        rw [c4, c5, bs_size, bs_size, List.length_append, List.length_cons]; simp; omega
      have hne : jn b (rawQ q).s (prt (v, q)) ≠ [] := jn_ne (prt_ne _)
      refine ⟨jn b (rawQ q).s (prt (v, q)), ?_, by rw [htk, txL_snoc, ← hb]; rfl, hi⟩
      rw [if_neg hne]
      by_cases h0 : b = []
      · subst h0
        rw [if_pos rfl]
        rcases (Bool.eq_false_or_eq_true (rawQ q).s).symm with hs | hs
        · have P0 := partE0 (n := n) (p := prt (v, q)) hs (by omega)
          by_cases h1 : absT q = [49]
          · have e := prt_bs (t := (v, q)).1 h1
            exact ltE1_2 C1 hx K3 S4 e K5 (by rw [h1]; rfl) P0 W
          · have e := prt_bs (t := (v, q)).2 h1
            exact ltE1_1 C1 hx K3 S4 rfl K5 (fun h => h1 (bs_inj (h.trans c1))) S7 rfl S8 e P0 W
        · have P0 := partE1 (n := n) (p := prt (v, q)) hs (by omega)
          by_cases h1 : absT q = [49]
          · have e := prt_bs (t := (v, q)).1 h1
            exact ltE2_2 C1 hx K3 S4 e K5 (by rw [h1]; rfl) P0 W
          · have e := prt_bs (t := (v, q)).2 h1
            exact ltE2_1 C1 hx K3 S4 rfl K5 (fun h => h1 (bs_inj (h.trans c1))) S7 rfl S8 e P0 W
      · rw [if_neg h0]
        have P0 := partN (n := n) (a := b) (p := prt (v, q)) (neg := (rawQ q).s) h0 (by omega)
        by_cases h1 : absT q = [49]
        · have e := prt_bs (t := (v, q)).1 h1
          exact ltN_2 C1 hx K3 S4 e K5 (by rw [h1]; rfl) P0 W
        · have e := prt_bs (t := (v, q)).2 h1
          exact ltN_1 C1 hx K3 S4 rfl K5 (fun h => h1 (bs_inj (h.trans c1))) S7 rfl S8 e P0 W)
    (fun b hI => by
      by_cases h0 : b = []
      · rw [if_pos h0, if_pos h0]; exact ltx_x4_1 (by omega)
      · rw [if_neg h0, if_neg h0]; exact ltN_x (by omega))
  rw [List.take_length] at hI1
  rw [if_pos rfl] at hL
  have hbl := hT f.1.length (Nat.le_refl _)
  rw [List.take_length, ← hI1] at hbl
  have hi6 : f.1.length * 6703 ≤ 100 * 6703 := Nat.mul_le_mul_right _ hl
  have hkl := absT_len2 hf.k
  have K3 := lsz_c (n := n) (q := f.2) (by have := hf.k; omega)
  have hn0 : (0 < ((rawQ f.2).l1.length : Int)) ↔ f.2 ≠ 0 := by
    have h9 : (rawQ f.2).l1 = lmb f.2.num.natAbs := rfl
    rw [h9]
    constructor
    · intro h e
      rw [e] at h
      simp [lmb_zero] at h
    · intro h
      have : 0 < f.2.num.natAbs := by
        rcases Nat.eq_zero_or_pos f.2.num.natAbs with h1 | h1
        · exact absurd (Rat.num_eq_zero.1 (Int.natAbs_eq_zero.1 h1)) h
        · exact h1
      rw [lmb_pos this]
      simp
  unfold txt ngT
  rw [← hI1]
  have hne : jn b (rawQ f.2).s (absT f.2) ≠ [] := jn_ne (absT_ne _)
  have hjl := jn_len b (rawQ f.2).s (absT f.2)
  have Z := bstr_c (n := n) hne (by omega)
  by_cases h0 : b = []
  · rw [if_pos (.inr h0)]
    subst h0
    rw [if_pos rfl] at hL
    by_cases h2 : f.2 = 0
    · have hs : (rawQ f.2).s = false := by rw [h2]; decide +kernel
      have P0 := partE0 (n := n) (p := absT f.2) hs (by omega)
      exact ltFE3 hL (fun h => hn0.1 h h2) (blen_0 (n := n + 6)) rfl K3 P0 Z
    · rcases (Bool.eq_false_or_eq_true (rawQ f.2).s).symm with hs | hs
      · have P0 := partE0 (n := n) (p := absT f.2) hs (by omega)
        exact ltFE1 hL (hn0.2 h2) K3 P0 Z
      · have P0 := partE1 (n := n) (p := absT f.2) hs (by omega)
        exact ltFE2 hL (hn0.2 h2) K3 P0 Z
  · rw [if_neg h0] at hL
    by_cases h2 : f.2 = 0
    · rw [if_neg (fun h => h.elim (fun h => h h2) h0)]
      have L0 := blen_1 (n := n + 6) (k := (bs b).size) (es := strEls (bs b))
      exact ltFN2 hL (fun h => hn0.1 h h2) L0 (by rw [bs_size]; have := List.length_pos_iff.2 h0; omega) (bstr_c (n := n) h0 (by omega))
    · rw [if_pos (.inl h2)]
      exact ltFN1 hL (hn0.2 h2) K3 (partN (n := n) h0 (by omega)) Z
theorem ftx_c {f : Form} (hf : TxB f) : run (n + 6) 54 [formV f] = some (.lit (.string (bs (txt f)))) := by
  have hl := hf.l
  have hT : ∀ i, i ≤ f.1.length → (txL (f.1.take i)).length ≤ i * 6703 := fun i hi => by
    have h := txL_len (l := f.1.take i) (a := []) (fun t ht => hf.t t (List.mem_of_mem_take ht))
    rw [List.length_take] at h
    simp only [List.length_nil, Nat.zero_add] at h
    have : min i f.1.length * 6703 = i * 6703 := by rw [Nat.min_eq_left hi]
    unfold txL
    omega
  obtain ⟨b, hL, hI1, hI2⟩ := loopG_R (O := tab (n + 6)) (P := Tryz.prog) (m := 0) (N := 55) (lives := livesOf 54) (r := 3) (C := ftx_C3) (exN := .exit 0) (M := f.1.length)
    (enc := fun i (b : List UInt8) => ftx_h3 f (bs b) i) (out := fun b => ftx_o3a f (bs b))
    (fun i b => b = txL (f.1.take i) ∧ i ≤ f.1.length) [] ⟨rfl, Nat.zero_le _⟩ (by omega) (fun h => by cases h)
    (fun i b hi hI => by
      obtain ⟨hb, hle⟩ := hI
      have hx : f.1[i]? = some f.1[i] := List.getElem?_eq_getElem hi
      obtain ⟨t, ht⟩ : ∃ t, f.1[i] = t := ⟨_, rfl⟩
      rw [ht] at hx
      have htk : f.1.take (i + 1) = f.1.take i ++ [t] := by rw [List.take_add_one, hx]; rfl
      obtain ⟨v, q⟩ := t
      obtain ⟨hq, hv0, hv1⟩ := hf.t _ (List.mem_of_getElem? hx)
      dsimp only at hq hv0 hv1
      have hbl := hT i hle
      rw [← hb] at hbl
      have hi6 : i * 6703 ≤ 100 * 6703 := Nat.mul_le_mul_right _ (by omega)
      have hpl := prt_len (t := (v, q)) hq hv0 hv1
      have hal := absT_len2 hq
      have hv2 : (lmb v.toNat).length ≤ 2 := lmb_len_le (by omega)
      have hdl := dd_small (K := v.toNat) (m := 2) hv2
      have K3 := fab_c (n := n) (q := q) (by omega)
      have K8 := k_ofu (z := v) hv0 (by omega)
      have K9 := fdg_c (n := n + 1) (K := v.toNat) (by omega)
      have C1 : (i : Int) < (f.1.length : Int) := by omega
      have W : InI ((i : Int) + 1) := ⟨by omega, by omega⟩
      have w7 : IntKind.u64.wrap v = v := by rw [wrapU64]; omega
      have e1 : (⟨#[120]⟩ : ByteArray).size = 1 := rfl
      have e2 : (⟨#[42]⟩ : ByteArray).size = 1 := rfl
      have c1 : (⟨#[49, 42]⟩ : ByteArray) = bs [49, 42] := rfl
      have S4 : (bs (absT q)).size + (⟨#[42]⟩ : ByteArray).size ≤ 9000000000000000000 := by rw [e2, bs_size]; omega
      have c5 : bs (absT q) ++ (⟨#[42]⟩ : ByteArray) = bs (absT q ++ [42]) := bs_app _ [42]
      have c6 : (⟨#[]⟩ : ByteArray) ++ (⟨#[120]⟩ : ByteArray) = bs [120] := bs_app [] [120]
      have c7 : bs (absT q ++ [42]) ++ (⟨#[120]⟩ : ByteArray) = bs (absT q ++ [42] ++ [120]) := bs_app _ [120]
      have J := fjn_c (n := n + 5) (a := b) (p := prt (v, q)) (neg := (rawQ q).s) (by omega)
      refine ⟨jn b (rawQ q).s (prt (v, q)), ?_, by rw [htk, txL_snoc, ← hb]; rfl, hi⟩
      by_cases h1 : absT q = [49]
      · have e : bs (prt (v, q)) = bs [120] ++ bs (decDigits v.toNat) := by
          rw [bs_app]; unfold prt; rw [if_pos h1]; rfl
        exact ftx_r3_1 C1 hx K3 S4 rfl (by rw [h1]; rfl) (by decide) c6.symm w7 K8 K9 (by rw [bs_size, bs_size, List.length_singleton]; omega) e J W
      · have e : bs (prt (v, q)) = bs (absT q ++ [42] ++ [120]) ++ bs (decDigits v.toNat) := by
          rw [bs_app]; unfold prt; rw [if_neg h1]; simp
        refine ftx_r3_2 C1 hx K3 S4 c5.symm (fun h => h1 ?_) (by rw [bs_size, e1, List.length_append]; simp; omega) c7.symm w7 K8 K9 (by rw [bs_size, bs_size, List.length_append, List.length_append]; simp; omega) e J W
        have h9 := bs_inj (h.trans c1)
        have h8 : absT q ++ [42] = [49] ++ [42] := h9
        exact List.append_cancel_right h8)
    (fun b hI => ftx_x3_1 (by omega))
  rw [List.take_length] at hI1
  have hbl := hT f.1.length (Nat.le_refl _)
  rw [List.take_length, ← hI1] at hbl
  have hi6 : f.1.length * 6703 ≤ 100 * 6703 := Nat.mul_le_mul_right _ hl
  have hkl := absT_len2 hf.k
  have hk := hf.k
  have K3 := fab_c (n := n) (q := f.2) (by omega)
  have J := fjn_c (n := n + 5) (a := b) (p := absT f.2) (neg := (rawQ f.2).s) (by omega)
  unfold txt ngT
  rw [← hI1]
  by_cases h0 : b = []
  · rw [if_pos (.inr h0)]
    exact ftx_f1 hL (by rw [h0]; rfl) K3 J
  · by_cases h2 : f.2 = 0
    · rw [if_neg (fun h => h.elim (fun h => h h2) h0)]
      exact ftx_f3 hL (bs_ne h0) (by omega) (sgR_eq_zero.2 h2)
    · rw [if_pos (.inl h2)]
      exact ftx_f2 hL (bs_ne h0) (by omega) (fun h => h2 (sgR_eq_zero.1 h)) K3 J
end
end Go.Proofs.YtlpmemelhlnfbaaGreatDoor
