/- Walks of strings.Builder. Walks of strings.Builder and of linear.Text: by hand, two states of the builder: new; with bytes. Walks of linear.Text: the builder is new, or holds bytes. -/
import Derived.Test.YtlpmemelhlnfbaaGreatDoorGA5
import Derived.Test.YtlpmemelhlnfbaaGreatDoorGA6
import Derived.Test.YtlpmemelhlnfbaaGreatDoorGA9
set_option linter.all false
set_option linter.all false
set_option maxRecDepth 100000
set_option maxHeartbeats 6400000
namespace Go.Proofs.YtlpmemelhlnfbaaGreatDoor
open Go.RowKit
theorem blen_0 {n : Nat} : runL n 120 [.ptr 0 0] [.box 88 [.lit (.pointer none), .nl 1] false] = some (.lit (.int .i64 0), [(0, .box 88 [.lit (.pointer none), .nl 1] false)]) := by
  unfold runL fnL
  simp +decide [Tryz.f120]
theorem blen_1 {n : Nat} {k : Nat} {es : List (List AV)} : runL n 120 [.ptr 0 0] [.box 88 [.ptr 0 0, .own 1 k] false, .row 5 1 es 0] = some (.lit (.int .i64 k), [(0, .box 88 [.ptr 0 0, .own 1 k] false), (1, .row 5 1 es 0)]) := by
  unfold runL fnL
  simp +decide [Tryz.f120]
theorem bws_0 {n : Nat} {s : ByteArray} (h : roomy s.size 1 = true) : runL (n + 1) 69 [.ptr 0 0, .lit (.string s)] [.box 88 [.lit (.pointer none), .nl 1] false] = some (.tup [.lit (.int .i64 s.size), .lit .nilIface], [(0, .box 88 [.ptr 0 0, .own 1 s.size] false), (1, .row 5 1 (strEls s) 0)]) := by
  unfold runL fnL
  simp +decide [Tryz.f69, ccG, isSelf, enumB, apS, isNil, h]
theorem bws_1 {n : Nat} {a s : ByteArray} (h : roomy (a.size + s.size) 1 = true) : runL (n + 1) 69 [.ptr 0 0, .lit (.string s)] [.box 88 [.ptr 0 0, .own 1 a.size] false, .row 5 1 (strEls a) 0] = some (.tup [.lit (.int .i64 s.size), .lit .nilIface], [(0, .box 88 [.ptr 0 0, .own 2 (a.size + s.size)] false), (2, .row 5 1 (strEls (a ++ s)) 0)]) := by
  unfold runL fnL
  simp +decide [Tryz.f69, ccG, isSelf, enumB, apS, isNil, h]
theorem bstr_1 {n : Nat} {a : ByteArray} (h0 : 0 < a.size) (h : (a.size : Int) ≤ 9223372036854775807) : runL n 70 [.ptr 0 0] [.box 88 [.ptr 0 0, .own 1 a.size] false, .row 5 1 (strEls a) 0] = some (.lit (.string a), [(0, .box 88 [.ptr 0 0, .own 1 a.size] false)]) := by
  unfold runL fnL
  simp +decide [Tryz.f70, usdT, usT, h0, h]
theorem bpart_0 {n : Nat} {s : ByteArray} (h : roomy s.size 1 = true) : runL (n + 2) 119 [.lit (.bool false), .lit (.string s), .ptr 0 0] [.box 88 [.lit (.pointer none), .nl 1] false] = some (.tup [], [(0, .box 88 [.ptr 0 0, .own 1 s.size] false), (1, .row 5 1 (strEls s) 0)]) := by
  have K := bws_0 (n := n) h
  unfold runL fnL
  simp +decide [Tryz.f119, blen_0, K]
end Go.Proofs.YtlpmemelhlnfbaaGreatDoor
set_option linter.all false
set_option maxRecDepth 100000
set_option maxHeartbeats 6400000
namespace Go.Proofs.YtlpmemelhlnfbaaGreatDoor
open Go.RowKit
theorem bpart_1 {n : Nat} {s : ByteArray} (h0 : roomy 1 1 = true) (h : roomy (1 + s.size) 1 = true) : runL (n + 2) 119 [.lit (.bool true), .lit (.string s), .ptr 0 0] [.box 88 [.lit (.pointer none), .nl 1] false] = some (.tup [], [(0, .box 88 [.ptr 0 0, .own 2 (1 + s.size)] false), (2, .row 5 1 (strEls ((⟨#[45]⟩ : ByteArray) ++ s)) 0)]) := by
  have K1 := bws_0 (n := n) (s := (⟨#[45]⟩ : ByteArray)) h0
  have K2 := bws_1 (n := n) (a := (⟨#[45]⟩ : ByteArray)) (s := s) h
  unfold runL fnL
  simp +decide [Tryz.f119, blen_0, K1, K2]
theorem bpart_2 {n : Nat} {a s : ByteArray} (ha : 0 < a.size) (h0 : roomy (a.size + 3) 1 = true) (h : roomy (a.size + 3 + s.size) 1 = true) : runL (n + 2) 119 [.lit (.bool false), .lit (.string s), .ptr 0 0] [.box 88 [.ptr 0 0, .own 1 a.size] false, .row 5 1 (strEls a) 0] = some (.tup [], [(0, .box 88 [.ptr 0 0, .own 3 (a.size + 3 + s.size)] false), (3, .row 5 1 (strEls (a ++ (⟨#[32, 43, 32]⟩ : ByteArray) ++ s)) 0)]) := by
  have K1 := bws_1 (n := n) (a := a) (s := (⟨#[32, 43, 32]⟩ : ByteArray)) h0
  have K2 := bws_1 (n := n) (a := a ++ (⟨#[32, 43, 32]⟩ : ByteArray)) (s := s) (by rw [ByteArray.size_append]; exact h)
  rw [ByteArray.size_append] at K2
  have e1 : ((a.size : Int) == 0) = false := by rw [beq_eq_false_iff_ne]; omega
  have e2 : ((a.size : Int) != 0) = true := by rw [bne_iff_ne]; omega
  unfold runL fnL
  simp +decide [Tryz.f119, blen_1, K1, K2, e1, e2, ha]
theorem bpart_3 {n : Nat} {a s : ByteArray} (ha : 0 < a.size) (h0 : roomy (a.size + 3) 1 = true) (h : roomy (a.size + 3 + s.size) 1 = true) : runL (n + 2) 119 [.lit (.bool true), .lit (.string s), .ptr 0 0] [.box 88 [.ptr 0 0, .own 1 a.size] false, .row 5 1 (strEls a) 0] = some (.tup [], [(0, .box 88 [.ptr 0 0, .own 3 (a.size + 3 + s.size)] false), (3, .row 5 1 (strEls (a ++ (⟨#[32, 45, 32]⟩ : ByteArray) ++ s)) 0)]) := by
  have K1 := bws_1 (n := n) (a := a) (s := (⟨#[32, 45, 32]⟩ : ByteArray)) h0
  have K2 := bws_1 (n := n) (a := a ++ (⟨#[32, 45, 32]⟩ : ByteArray)) (s := s) (by rw [ByteArray.size_append]; exact h)
  rw [ByteArray.size_append] at K2
  have e1 : ((a.size : Int) == 0) = false := by rw [beq_eq_false_iff_ne]; omega
  have e2 : ((a.size : Int) != 0) = true := by rw [bne_iff_ne]; omega
  unfold runL fnL
  simp +decide [Tryz.f119, blen_1, K1, K2, e1, e2, ha]
end Go.Proofs.YtlpmemelhlnfbaaGreatDoor
set_option linter.all false
set_option maxRecDepth 100000
set_option maxHeartbeats 6400000
namespace Go.Proofs.YtlpmemelhlnfbaaGreatDoor
open Go.RowKit

def ltx_hN (a0 : Form) (i_4 : Nat) (ab : ByteArray) : St :=
  ⟨[(1, .ptr 0 0), (3, .ptr 1 0), (4, .clo 119 [.ptr 1 0]), (11, .sl 4 (a0.1.map termC)), (12, .lit (.int .i64 (a0.1.length : Int))), (13, .lit (.int .i64 (i_4 : Int)))],
   [(0, some (.box 29 [.sl 4 (a0.1.map termC), .lit (.bool (rawQ a0.2).s), natA (rawQ a0.2).l1, natA (rawQ a0.2).l2] false)),
    (1, some (.box 88 [.ptr 1 0, .own 2 ab.size] false)),
    (2, some (.row 5 1 (strEls ab) 0))], 3⟩

def ltx_oN (a0 : Form) (ab : ByteArray) : St :=
  ⟨[(1, .ptr 0 0), (3, .ptr 1 0), (4, .clo 119 [.ptr 1 0])],
   [(0, some (.box 29 [.sl 4 (a0.1.map termC), .lit (.bool (rawQ a0.2).s), natA (rawQ a0.2).l1, natA (rawQ a0.2).l2] false)),
    (1, some (.box 88 [.ptr 1 0, .own 2 ab.size] false)),
    (2, some (.row 5 1 (strEls ab) 0))], 3⟩

theorem ltE1_1 {n : Nat} {rb : ByteArray} {a0 : Form} {i_4 : Nat} {v3 : Int} {q3 : Rat} {r5 : ByteArray} {cat7 : ByteArray} {r6 : ByteArray} {cat8 : ByteArray} {cat9 : ByteArray} (C1 : (i_4 : Int) < (a0.1.length : Int)) (E2 : a0.1[i_4]? = some (v3, q3)) (K3 : (oItoa) [.lit (.int .i64 v3)] = some (.lit (.string r5))) (S4 : (⟨#[120]⟩ : ByteArray).size + r5.size ≤ 9000000000000000000) (D4 : cat7 = (⟨#[120]⟩ : ByteArray) ++ r5) (K5 : run (n + 6) 121 [ratV q3] = some (.lit (.string r6))) (C6 : ¬ r6 = (⟨#[49]⟩ : ByteArray)) (S7 : r6.size + (⟨#[42]⟩ : ByteArray).size ≤ 9000000000000000000) (D7 : cat8 = r6 ++ (⟨#[42]⟩ : ByteArray)) (S8 : cat8.size + cat7.size ≤ 9000000000000000000) (D8 : cat9 = cat8 ++ cat7) (K9 : runL (n + 6) 119 [.lit (.bool (rawQ q3).s), .lit (.string cat9), .ptr 0 0] [.box 88 [(.lit (.pointer none)), .nl 1] false] = some (.tup [], [(0, .box 88 [.ptr 0 0, .own 1 rb.size] false), (1, .row 5 1 (strEls rb) 0)])) (W10 : InI ((i_4 : Int) + 1)) :
    Cont 0 (exec Tryz.prog (tab (n + 7)) 0 55 (livesOf 52) big ltx_C4) (livesOf 52 4) (ltx_h4 a0 i_4) (ltx_hN a0 (i_4 + 1) rb) := by
  obtain ⟨ks0, hks0⟩ : ∃ k : ByteArray, (⟨#[42]⟩ : ByteArray) = k := ⟨_, rfl⟩
  rw [hks0] at S7 D7
  have C1_ : i_4 < a0.1.length := by omega
  obtain ⟨EL2, EG2⟩ := List.getElem?_eq_some_iff.1 E2
  have S4_r := cat_r S4 D4
  have S4_q := cat_q S4 D4
  simp only [ratV] at K5
  have C6_ : (r6.toList == (⟨#[49]⟩ : ByteArray).toList) = false := by rw [beq_eq_false_iff_ne]; exact fun h => C6 (ba_inj h)
  have C6_n : (r6.toList != (⟨#[49]⟩ : ByteArray).toList) = true := by rw [bne, C6_]; rfl
  have C6_k : (r6.toList == ([49] : List UInt8)) = false := by rw [show ([49] : List UInt8) = (⟨#[49]⟩ : ByteArray).toList by rw [ba_toList]]; exact C6_
  have S7_r := cat_r S7 D7
  have S7_q := cat_q S7 D7
  have S8_r := cat_r S8 D8
  have S8_q := cat_q S8 D8
  have W10_ : IntKind.i64.wrap ((i_4 : Int) + 1) = (i_4 : Int) + 1 := wr64 W10.1 W10.2
  unfold Cont
  simp +decide [ltx_h4, ltx_hN, loopsOf, Tryz.f52, ltx_C4, C1, C1_, EL2, EG2, E2, K3, ↓S4_r, S4_q, K5, C6_, C6_n, C6_k, ↓S7_r, S7_q, ↓S8_r, S8_q, K9, W10_, hks0]

theorem ltE2_1 {n : Nat} {rb : ByteArray} {a0 : Form} {i_4 : Nat} {v3 : Int} {q3 : Rat} {r5 : ByteArray} {cat7 : ByteArray} {r6 : ByteArray} {cat8 : ByteArray} {cat9 : ByteArray} (C1 : (i_4 : Int) < (a0.1.length : Int)) (E2 : a0.1[i_4]? = some (v3, q3)) (K3 : (oItoa) [.lit (.int .i64 v3)] = some (.lit (.string r5))) (S4 : (⟨#[120]⟩ : ByteArray).size + r5.size ≤ 9000000000000000000) (D4 : cat7 = (⟨#[120]⟩ : ByteArray) ++ r5) (K5 : run (n + 6) 121 [ratV q3] = some (.lit (.string r6))) (C6 : ¬ r6 = (⟨#[49]⟩ : ByteArray)) (S7 : r6.size + (⟨#[42]⟩ : ByteArray).size ≤ 9000000000000000000) (D7 : cat8 = r6 ++ (⟨#[42]⟩ : ByteArray)) (S8 : cat8.size + cat7.size ≤ 9000000000000000000) (D8 : cat9 = cat8 ++ cat7) (K9 : runL (n + 6) 119 [.lit (.bool (rawQ q3).s), .lit (.string cat9), .ptr 0 0] [.box 88 [(.lit (.pointer none)), .nl 1] false] = some (.tup [], [(0, .box 88 [.ptr 0 0, .own 2 rb.size] false), (2, .row 5 1 (strEls rb) 0)])) (W10 : InI ((i_4 : Int) + 1)) :
    Cont 0 (exec Tryz.prog (tab (n + 7)) 0 55 (livesOf 52) big ltx_C4) (livesOf 52 4) (ltx_h4 a0 i_4) (ltx_hN a0 (i_4 + 1) rb) := by
  obtain ⟨ks0, hks0⟩ : ∃ k : ByteArray, (⟨#[42]⟩ : ByteArray) = k := ⟨_, rfl⟩
  rw [hks0] at S7 D7
  have C1_ : i_4 < a0.1.length := by omega
  obtain ⟨EL2, EG2⟩ := List.getElem?_eq_some_iff.1 E2
  have S4_r := cat_r S4 D4
  have S4_q := cat_q S4 D4
  simp only [ratV] at K5
  have C6_ : (r6.toList == (⟨#[49]⟩ : ByteArray).toList) = false := by rw [beq_eq_false_iff_ne]; exact fun h => C6 (ba_inj h)
  have C6_n : (r6.toList != (⟨#[49]⟩ : ByteArray).toList) = true := by rw [bne, C6_]; rfl
  have C6_k : (r6.toList == ([49] : List UInt8)) = false := by rw [show ([49] : List UInt8) = (⟨#[49]⟩ : ByteArray).toList by rw [ba_toList]]; exact C6_
  have S7_r := cat_r S7 D7
  have S7_q := cat_q S7 D7
  have S8_r := cat_r S8 D8
  have S8_q := cat_q S8 D8
  have W10_ : IntKind.i64.wrap ((i_4 : Int) + 1) = (i_4 : Int) + 1 := wr64 W10.1 W10.2
  unfold Cont
  simp +decide [ltx_h4, ltx_hN, loopsOf, Tryz.f52, ltx_C4, C1, C1_, EL2, EG2, E2, K3, ↓S4_r, S4_q, K5, C6_, C6_n, C6_k, ↓S7_r, S7_q, ↓S8_r, S8_q, K9, W10_, hks0]

theorem ltN_1 {n : Nat} {ab rb : ByteArray} {a0 : Form} {i_4 : Nat} {v3 : Int} {q3 : Rat} {r5 : ByteArray} {cat7 : ByteArray} {r6 : ByteArray} {cat8 : ByteArray} {cat9 : ByteArray} (C1 : (i_4 : Int) < (a0.1.length : Int)) (E2 : a0.1[i_4]? = some (v3, q3)) (K3 : (oItoa) [.lit (.int .i64 v3)] = some (.lit (.string r5))) (S4 : (⟨#[120]⟩ : ByteArray).size + r5.size ≤ 9000000000000000000) (D4 : cat7 = (⟨#[120]⟩ : ByteArray) ++ r5) (K5 : run (n + 6) 121 [ratV q3] = some (.lit (.string r6))) (C6 : ¬ r6 = (⟨#[49]⟩ : ByteArray)) (S7 : r6.size + (⟨#[42]⟩ : ByteArray).size ≤ 9000000000000000000) (D7 : cat8 = r6 ++ (⟨#[42]⟩ : ByteArray)) (S8 : cat8.size + cat7.size ≤ 9000000000000000000) (D8 : cat9 = cat8 ++ cat7) (K9 : runL (n + 6) 119 [.lit (.bool (rawQ q3).s), .lit (.string cat9), .ptr 0 0] [.box 88 [.ptr 0 0, .own 1 ab.size] false, .row 5 1 (strEls ab) 0] = some (.tup [], [(0, .box 88 [.ptr 0 0, .own 3 rb.size] false), (3, .row 5 1 (strEls rb) 0)])) (W10 : InI ((i_4 : Int) + 1)) :
    Cont 0 (exec Tryz.prog (tab (n + 7)) 0 55 (livesOf 52) big ltx_C4) (livesOf 52 4) (ltx_hN a0 i_4 ab) (ltx_hN a0 (i_4 + 1) rb) := by
  obtain ⟨ks0, hks0⟩ : ∃ k : ByteArray, (⟨#[42]⟩ : ByteArray) = k := ⟨_, rfl⟩
  rw [hks0] at S7 D7
  have C1_ : i_4 < a0.1.length := by omega
  obtain ⟨EL2, EG2⟩ := List.getElem?_eq_some_iff.1 E2
  have S4_r := cat_r S4 D4
  have S4_q := cat_q S4 D4
  simp only [ratV] at K5
  have C6_ : (r6.toList == (⟨#[49]⟩ : ByteArray).toList) = false := by rw [beq_eq_false_iff_ne]; exact fun h => C6 (ba_inj h)
  have C6_n : (r6.toList != (⟨#[49]⟩ : ByteArray).toList) = true := by rw [bne, C6_]; rfl
  have C6_k : (r6.toList == ([49] : List UInt8)) = false := by rw [show ([49] : List UInt8) = (⟨#[49]⟩ : ByteArray).toList by rw [ba_toList]]; exact C6_
  have S7_r := cat_r S7 D7
  have S7_q := cat_q S7 D7
  have S8_r := cat_r S8 D8
  have S8_q := cat_q S8 D8
  have W10_ : IntKind.i64.wrap ((i_4 : Int) + 1) = (i_4 : Int) + 1 := wr64 W10.1 W10.2
  unfold Cont
  simp +decide [ltx_hN, loopsOf, Tryz.f52, ltx_C4, C1, C1_, EL2, EG2, E2, K3, ↓S4_r, S4_q, K5, C6_, C6_n, C6_k, ↓S7_r, S7_q, ↓S8_r, S8_q, K9, W10_, hks0]

theorem ltE1_2 {n : Nat} {rb : ByteArray} {a0 : Form} {i_4 : Nat} {v3 : Int} {q3 : Rat} {r5 : ByteArray} {cat7 : ByteArray} {r6 : ByteArray} (C1 : (i_4 : Int) < (a0.1.length : Int)) (E2 : a0.1[i_4]? = some (v3, q3)) (K3 : (oItoa) [.lit (.int .i64 v3)] = some (.lit (.string r5))) (S4 : (⟨#[120]⟩ : ByteArray).size + r5.size ≤ 9000000000000000000) (D4 : cat7 = (⟨#[120]⟩ : ByteArray) ++ r5) (K5 : run (n + 6) 121 [ratV q3] = some (.lit (.string r6))) (C6 : r6 = (⟨#[49]⟩ : ByteArray)) (K7 : runL (n + 6) 119 [.lit (.bool (rawQ q3).s), .lit (.string cat7), .ptr 0 0] [.box 88 [(.lit (.pointer none)), .nl 1] false] = some (.tup [], [(0, .box 88 [.ptr 0 0, .own 1 rb.size] false), (1, .row 5 1 (strEls rb) 0)])) (W8 : InI ((i_4 : Int) + 1)) :
    Cont 0 (exec Tryz.prog (tab (n + 7)) 0 55 (livesOf 52) big ltx_C4) (livesOf 52 4) (ltx_h4 a0 i_4) (ltx_hN a0 (i_4 + 1) rb) := by
  have C1_ : i_4 < a0.1.length := by omega
  obtain ⟨EL2, EG2⟩ := List.getElem?_eq_some_iff.1 E2
  have S4_r := cat_r S4 D4
  have S4_q := cat_q S4 D4
  simp only [ratV] at K5
  have C6_ : (r6.toList == (⟨#[49]⟩ : ByteArray).toList) = true := by rw [C6]; simp
  have C6_n : (r6.toList != (⟨#[49]⟩ : ByteArray).toList) = false := by rw [bne, C6_]; rfl
  have C6_k : (r6.toList == ([49] : List UInt8)) = true := by rw [show ([49] : List UInt8) = (⟨#[49]⟩ : ByteArray).toList by rw [ba_toList]]; exact C6_
  have W8_ : IntKind.i64.wrap ((i_4 : Int) + 1) = (i_4 : Int) + 1 := wr64 W8.1 W8.2
  unfold Cont
  simp +decide [ltx_h4, ltx_hN, loopsOf, Tryz.f52, ltx_C4, C1, C1_, EL2, EG2, E2, K3, ↓S4_r, S4_q, K5, C6_, C6_n, C6_k, K7, W8_]

theorem ltE2_2 {n : Nat} {rb : ByteArray} {a0 : Form} {i_4 : Nat} {v3 : Int} {q3 : Rat} {r5 : ByteArray} {cat7 : ByteArray} {r6 : ByteArray} (C1 : (i_4 : Int) < (a0.1.length : Int)) (E2 : a0.1[i_4]? = some (v3, q3)) (K3 : (oItoa) [.lit (.int .i64 v3)] = some (.lit (.string r5))) (S4 : (⟨#[120]⟩ : ByteArray).size + r5.size ≤ 9000000000000000000) (D4 : cat7 = (⟨#[120]⟩ : ByteArray) ++ r5) (K5 : run (n + 6) 121 [ratV q3] = some (.lit (.string r6))) (C6 : r6 = (⟨#[49]⟩ : ByteArray)) (K7 : runL (n + 6) 119 [.lit (.bool (rawQ q3).s), .lit (.string cat7), .ptr 0 0] [.box 88 [(.lit (.pointer none)), .nl 1] false] = some (.tup [], [(0, .box 88 [.ptr 0 0, .own 2 rb.size] false), (2, .row 5 1 (strEls rb) 0)])) (W8 : InI ((i_4 : Int) + 1)) :
    Cont 0 (exec Tryz.prog (tab (n + 7)) 0 55 (livesOf 52) big ltx_C4) (livesOf 52 4) (ltx_h4 a0 i_4) (ltx_hN a0 (i_4 + 1) rb) := by
  have C1_ : i_4 < a0.1.length := by omega
  obtain ⟨EL2, EG2⟩ := List.getElem?_eq_some_iff.1 E2
  have S4_r := cat_r S4 D4
  have S4_q := cat_q S4 D4
  simp only [ratV] at K5
  have C6_ : (r6.toList == (⟨#[49]⟩ : ByteArray).toList) = true := by rw [C6]; simp
  have C6_n : (r6.toList != (⟨#[49]⟩ : ByteArray).toList) = false := by rw [bne, C6_]; rfl
  have C6_k : (r6.toList == ([49] : List UInt8)) = true := by rw [show ([49] : List UInt8) = (⟨#[49]⟩ : ByteArray).toList by rw [ba_toList]]; exact C6_
  have W8_ : IntKind.i64.wrap ((i_4 : Int) + 1) = (i_4 : Int) + 1 := wr64 W8.1 W8.2
  unfold Cont
  simp +decide [ltx_h4, ltx_hN, loopsOf, Tryz.f52, ltx_C4, C1, C1_, EL2, EG2, E2, K3, ↓S4_r, S4_q, K5, C6_, C6_n, C6_k, K7, W8_]

theorem ltN_2 {n : Nat} {ab rb : ByteArray} {a0 : Form} {i_4 : Nat} {v3 : Int} {q3 : Rat} {r5 : ByteArray} {cat7 : ByteArray} {r6 : ByteArray} (C1 : (i_4 : Int) < (a0.1.length : Int)) (E2 : a0.1[i_4]? = some (v3, q3)) (K3 : (oItoa) [.lit (.int .i64 v3)] = some (.lit (.string r5))) (S4 : (⟨#[120]⟩ : ByteArray).size + r5.size ≤ 9000000000000000000) (D4 : cat7 = (⟨#[120]⟩ : ByteArray) ++ r5) (K5 : run (n + 6) 121 [ratV q3] = some (.lit (.string r6))) (C6 : r6 = (⟨#[49]⟩ : ByteArray)) (K7 : runL (n + 6) 119 [.lit (.bool (rawQ q3).s), .lit (.string cat7), .ptr 0 0] [.box 88 [.ptr 0 0, .own 1 ab.size] false, .row 5 1 (strEls ab) 0] = some (.tup [], [(0, .box 88 [.ptr 0 0, .own 3 rb.size] false), (3, .row 5 1 (strEls rb) 0)])) (W8 : InI ((i_4 : Int) + 1)) :
    Cont 0 (exec Tryz.prog (tab (n + 7)) 0 55 (livesOf 52) big ltx_C4) (livesOf 52 4) (ltx_hN a0 i_4 ab) (ltx_hN a0 (i_4 + 1) rb) := by
  have C1_ : i_4 < a0.1.length := by omega
  obtain ⟨EL2, EG2⟩ := List.getElem?_eq_some_iff.1 E2
  have S4_r := cat_r S4 D4
  have S4_q := cat_q S4 D4
  simp only [ratV] at K5
  have C6_ : (r6.toList == (⟨#[49]⟩ : ByteArray).toList) = true := by rw [C6]; simp
  have C6_n : (r6.toList != (⟨#[49]⟩ : ByteArray).toList) = false := by rw [bne, C6_]; rfl
  have C6_k : (r6.toList == ([49] : List UInt8)) = true := by rw [show ([49] : List UInt8) = (⟨#[49]⟩ : ByteArray).toList by rw [ba_toList]]; exact C6_
  have W8_ : IntKind.i64.wrap ((i_4 : Int) + 1) = (i_4 : Int) + 1 := wr64 W8.1 W8.2
  unfold Cont
  simp +decide [ltx_hN, loopsOf, Tryz.f52, ltx_C4, C1, C1_, EL2, EG2, E2, K3, ↓S4_r, S4_q, K5, C6_, C6_n, C6_k, K7, W8_]

theorem ltN_x {n : Nat} {ab : ByteArray} {a0 : Form} {i_4 : Nat} (C1 : ¬ (i_4 : Int) < (a0.1.length : Int)) :
    Leave 0 (exec Tryz.prog (tab (n + 7)) 0 55 (livesOf 52) big ltx_C4) (livesOf 52 (outOf 4)) (ltx_hN a0 i_4 ab) (.exit 0) (ltx_oN a0 ab) := by
  have C1_ : ¬ i_4 < a0.1.length := by omega
  unfold Leave
  simp +decide [ltx_hN, loopsOf, Tryz.f52, ltx_oN, ltx_C4, C1, C1_]

theorem ltFE1 {n : Nat} {rb : ByteArray} {a0 : Form} {r8 : ByteArray} {r10 : ByteArray} (L1 : loopG Tryz.prog (tab (n + 7)) 0 55 (livesOf 52) 4 ltx_C4 (ltx_h4 a0 0) = some (.exit 0, ltx_o4a a0)) (C2 : 0 < ((rawQ a0.2).l1.length : Int)) (K3 : run (n + 6) 121 [ratV a0.2] = some (.lit (.string r8))) (K4 : runL (n + 6) 119 [.lit (.bool (rawQ a0.2).s), .lit (.string r8), .ptr 0 0] [.box 88 [(.lit (.pointer none)), .nl 1] false] = some (.tup [], [(0, .box 88 [.ptr 0 0, .own 1 rb.size] false), (1, .row 5 1 (strEls rb) 0)])) (K5 : runL (n + 6) 70 [.ptr 0 0] [.box 88 [.ptr 0 0, .own 1 rb.size] false, .row 5 1 (strEls rb) 0] = some (.lit (.string r10), [(0, .box 88 [.ptr 0 0, .own 1 rb.size] false)])) :
    run (n + 7) 52 [formV a0] = some (.lit (.string r10)) := by
  have C2_ : 0 < (rawQ a0.2).l1.length := by omega
  have C2_z : ((rawQ a0.2).l1.length : Int) ≠ 0 := by omega
  have C2_e : (((rawQ a0.2).l1.length : Int) == 0) = false := by simpa using C2_z
  have C2_g : (((rawQ a0.2).l1.length : Int) != 0) = true := by simpa using C2_z
  simp only [ratV] at K3
  unfold run fnP
  simp +decide [Tryz.f52, C2, C2_, C2_e, C2_g, K3, K4, K5]
  rw [loopX_G (C' := ltx_C4) (e := (ltx_h4 a0 0)) ?_ ?_, L1]
  rotate_left
  · kernel_rfl
  · simp +decide [ltx_h4, C2, C2_, C2_e, C2_g, K3, K4, K5]
  simp +decide [ltx_o4a, C2, C2_, C2_e, C2_g, K3, K4, K5]

theorem ltFE2 {n : Nat} {rb : ByteArray} {a0 : Form} {r8 : ByteArray} {r10 : ByteArray} (L1 : loopG Tryz.prog (tab (n + 7)) 0 55 (livesOf 52) 4 ltx_C4 (ltx_h4 a0 0) = some (.exit 0, ltx_o4a a0)) (C2 : 0 < ((rawQ a0.2).l1.length : Int)) (K3 : run (n + 6) 121 [ratV a0.2] = some (.lit (.string r8))) (K4 : runL (n + 6) 119 [.lit (.bool (rawQ a0.2).s), .lit (.string r8), .ptr 0 0] [.box 88 [(.lit (.pointer none)), .nl 1] false] = some (.tup [], [(0, .box 88 [.ptr 0 0, .own 2 rb.size] false), (2, .row 5 1 (strEls rb) 0)])) (K5 : runL (n + 6) 70 [.ptr 0 0] [.box 88 [.ptr 0 0, .own 1 rb.size] false, .row 5 1 (strEls rb) 0] = some (.lit (.string r10), [(0, .box 88 [.ptr 0 0, .own 1 rb.size] false)])) :
    run (n + 7) 52 [formV a0] = some (.lit (.string r10)) := by
  have C2_ : 0 < (rawQ a0.2).l1.length := by omega
  have C2_z : ((rawQ a0.2).l1.length : Int) ≠ 0 := by omega
  have C2_e : (((rawQ a0.2).l1.length : Int) == 0) = false := by simpa using C2_z
  have C2_g : (((rawQ a0.2).l1.length : Int) != 0) = true := by simpa using C2_z
  simp only [ratV] at K3
  unfold run fnP
  simp +decide [Tryz.f52, C2, C2_, C2_e, C2_g, K3, K4, K5]
  rw [loopX_G (C' := ltx_C4) (e := (ltx_h4 a0 0)) ?_ ?_, L1]
  rotate_left
  · kernel_rfl
  · simp +decide [ltx_h4, C2, C2_, C2_e, C2_g, K3, K4, K5]
  simp +decide [ltx_o4a, C2, C2_, C2_e, C2_g, K3, K4, K5]

theorem ltFE3 {n : Nat} {rb : ByteArray} {a0 : Form} {r7 : Int} {r9 : ByteArray} {r11 : ByteArray} (L1 : loopG Tryz.prog (tab (n + 7)) 0 55 (livesOf 52) 4 ltx_C4 (ltx_h4 a0 0) = some (.exit 0, ltx_o4a a0)) (C2 : ¬ 0 < ((rawQ a0.2).l1.length : Int)) (K3 : runL (n + 6) 120 [.ptr 0 0] [.box 88 [(.lit (.pointer none)), .nl 1] false] = some (.lit (.int .i64 r7), [(0, .box 88 [(.lit (.pointer none)), .nl 1] false)])) (C4 : r7 = 0) (K5 : run (n + 6) 121 [ratV a0.2] = some (.lit (.string r9))) (K6 : runL (n + 6) 119 [.lit (.bool (rawQ a0.2).s), .lit (.string r9), .ptr 0 0] [.box 88 [(.lit (.pointer none)), .nl 1] false] = some (.tup [], [(0, .box 88 [.ptr 0 0, .own 1 rb.size] false), (1, .row 5 1 (strEls rb) 0)])) (K7 : runL (n + 6) 70 [.ptr 0 0] [.box 88 [.ptr 0 0, .own 1 rb.size] false, .row 5 1 (strEls rb) 0] = some (.lit (.string r11), [(0, .box 88 [.ptr 0 0, .own 1 rb.size] false)])) :
    run (n + 7) 52 [formV a0] = some (.lit (.string r11)) := by
  have C2_ : ¬ 0 < (rawQ a0.2).l1.length := by omega
  have C2_z : ((rawQ a0.2).l1.length : Int) = 0 := by omega
  have C2_e : (((rawQ a0.2).l1.length : Int) == 0) = true := by rw [C2_z]; simp
  have C2_g : (((rawQ a0.2).l1.length : Int) != 0) = false := by rw [C2_z]; simp
  have C4_ : (r7 == 0) = true := by rw [C4]; simp
  have C4_n : (r7 != 0) = false := by rw [C4]; simp
  simp only [ratV] at K5
  unfold run fnP
  simp +decide [Tryz.f52, C2, C2_, C2_e, C2_g, K3, C4_, C4_n, K5, K6, K7]
  rw [loopX_G (C' := ltx_C4) (e := (ltx_h4 a0 0)) ?_ ?_, L1]
  rotate_left
  · kernel_rfl
  · simp +decide [ltx_h4, C2, C2_, C2_e, C2_g, K3, C4_, C4_n, K5, K6, K7]
  simp +decide [ltx_o4a, C2, C2_, C2_e, C2_g, K3, C4_, C4_n, K5, K6, K7]

theorem ltFN1 {n : Nat} {ab rb : ByteArray} {a0 : Form} {r8 : ByteArray} {r10 : ByteArray} (L1 : loopG Tryz.prog (tab (n + 7)) 0 55 (livesOf 52) 4 ltx_C4 (ltx_h4 a0 0) = some (.exit 0, ltx_oN a0 ab)) (C2 : 0 < ((rawQ a0.2).l1.length : Int)) (K3 : run (n + 6) 121 [ratV a0.2] = some (.lit (.string r8))) (K4 : runL (n + 6) 119 [.lit (.bool (rawQ a0.2).s), .lit (.string r8), .ptr 0 0] [.box 88 [.ptr 0 0, .own 1 ab.size] false, .row 5 1 (strEls ab) 0] = some (.tup [], [(0, .box 88 [.ptr 0 0, .own 3 rb.size] false), (3, .row 5 1 (strEls rb) 0)])) (K5 : runL (n + 6) 70 [.ptr 0 0] [.box 88 [.ptr 0 0, .own 1 rb.size] false, .row 5 1 (strEls rb) 0] = some (.lit (.string r10), [(0, .box 88 [.ptr 0 0, .own 1 rb.size] false)])) :
    run (n + 7) 52 [formV a0] = some (.lit (.string r10)) := by
  have C2_ : 0 < (rawQ a0.2).l1.length := by omega
  have C2_z : ((rawQ a0.2).l1.length : Int) ≠ 0 := by omega
  have C2_e : (((rawQ a0.2).l1.length : Int) == 0) = false := by simpa using C2_z
  have C2_g : (((rawQ a0.2).l1.length : Int) != 0) = true := by simpa using C2_z
  simp only [ratV] at K3
  unfold run fnP
  simp +decide [Tryz.f52, C2, C2_, C2_e, C2_g, K3, K4, K5]
  rw [loopX_G (C' := ltx_C4) (e := (ltx_h4 a0 0)) ?_ ?_, L1]
  rotate_left
  · kernel_rfl
  · simp +decide [ltx_h4, C2, C2_, C2_e, C2_g, K3, K4, K5]
  simp +decide [ltx_oN, C2, C2_, C2_e, C2_g, K3, K4, K5]

theorem ltFN2 {n : Nat} {ab : ByteArray} {a0 : Form} {r7 : Int} {r12 : ByteArray} (L1 : loopG Tryz.prog (tab (n + 7)) 0 55 (livesOf 52) 4 ltx_C4 (ltx_h4 a0 0) = some (.exit 0, ltx_oN a0 ab)) (C2 : ¬ 0 < ((rawQ a0.2).l1.length : Int)) (K3 : runL (n + 6) 120 [.ptr 0 0] [.box 88 [.ptr 0 0, .own 1 ab.size] false, .row 5 1 (strEls ab) 0] = some (.lit (.int .i64 r7), [(0, .box 88 [.ptr 0 0, .own 1 ab.size] false), (1, .row 5 1 (strEls ab) 0)])) (C4 : ¬ r7 = 0) (K5 : runL (n + 6) 70 [.ptr 0 0] [.box 88 [.ptr 0 0, .own 1 ab.size] false, .row 5 1 (strEls ab) 0] = some (.lit (.string r12), [(0, .box 88 [.ptr 0 0, .own 1 ab.size] false)])) :
    run (n + 7) 52 [formV a0] = some (.lit (.string r12)) := by
  have C2_ : ¬ 0 < (rawQ a0.2).l1.length := by omega
  have C2_z : ((rawQ a0.2).l1.length : Int) = 0 := by omega
  have C2_e : (((rawQ a0.2).l1.length : Int) == 0) = true := by rw [C2_z]; simp
  have C2_g : (((rawQ a0.2).l1.length : Int) != 0) = false := by rw [C2_z]; simp
  have C4_ : (r7 == 0) = false := by simpa using C4
  have C4_n : (r7 != 0) = true := by simpa using C4
  unfold run fnP
  simp +decide [Tryz.f52, C2, C2_, C2_e, C2_g, K3, C4_, C4_n, K5]
  rw [loopX_G (C' := ltx_C4) (e := (ltx_h4 a0 0)) ?_ ?_, L1]
  rotate_left
  · kernel_rfl
  · simp +decide [ltx_h4, C2, C2_, C2_e, C2_g, K3, C4_, C4_n, K5]
  simp +decide [ltx_oN, C2, C2_, C2_e, C2_g, K3, C4_, C4_n, K5]

end Go.Proofs.YtlpmemelhlnfbaaGreatDoor
