import Derived.Test.YtlpmemelhlnfbaaGreatDoorGA14
import Derived.Test.YtlpmemelhlnfbaaGreatDoorGA15
import Derived.Test.YtlpmemelhlnfbaaGreatDoorGA13
import Derived.Test.YtlpmemelhlnfbaaGreatDoorGA5
import Derived.Test.YtlpmemelhlnfbaaGreatDoorGA10
set_option linter.all false
set_option maxRecDepth 100000
set_option maxHeartbeats 6400000
namespace Go.Proofs.YtlpmemelhlnfbaaGreatDoor
open Go.RowKit
attribute [local irreducible] run runL loopG exec
end Go.Proofs.YtlpmemelhlnfbaaGreatDoor
set_option linter.all false
set_option maxRecDepth 100000
set_option maxHeartbeats 6400000
namespace Go.Proofs.YtlpmemelhlnfbaaGreatDoor
open Go.RowKit
attribute [local irreducible] run runL loopG exec
theorem SmF.srt {N : Nat} {f : Form} (h : SmF N f) : Srt f.1 := (h.ok (vars := N) (Int.le_refl _)).srt.1
theorem SmF.inr {N : Nat} {f : Form} (h : SmF N f) : InR N f.1 := (h.ok (vars := N) (Int.le_refl _)).srt.2
end Go.Proofs.YtlpmemelhlnfbaaGreatDoor
set_option linter.all false
set_option maxRecDepth 100000
namespace Go.Proofs.YtlpmemelhlnfbaaGreatDoor
open Go.RowKit
open Lib (decDigits)
def nl (A : List (List UInt8)) : List UInt8 := A.flatMap fun a => a ++ [10]
theorem nl_snoc (A : List (List UInt8)) (a : List UInt8) : nl (A ++ [a]) = nl A ++ (a ++ [10]) := by simp [nl]
theorem nl_cons (a : List UInt8) (A : List (List UInt8)) : nl (a :: A) = a ++ 10 :: nl A := by simp [nl]
def midU : List UInt8 := [32, 61, 32, 109, 97, 120, 40, 48, 44, 32]
def lnU (I : Int) (j : Nat) (f : Form) : List UInt8 := 120 :: (decDigits (I + (j : Int)).toNat ++ (midU ++ (txt f ++ [41])))
def lnO (j : Nat) (f : Form) : List UInt8 := 121 :: (decDigits j ++ ([32, 61, 32] ++ txt f))
def lnUs (I : Int) : Nat → List Form → List (List UInt8)
  | _, [] => []
  | j, f :: U => lnU I j f :: lnUs I (j + 1) U
def lnOs : Nat → List Form → List (List UInt8)
  | _, [] => []
  | j, f :: U => lnO j f :: lnOs (j + 1) U
def lnH (I : Int) : List UInt8 := [105, 110, 112, 117, 116, 115, 32] ++ decDigits I.toNat
def gtxt (g : TGraph) : List UInt8 := nl ((lnH g.Inputs :: lnUs g.Inputs 0 g.Units) ++ lnOs 0 g.Outputs)
theorem lnUs_snoc (I : Int) (f : Form) : ∀ (U : List Form) (j : Nat), lnUs I j (U ++ [f]) = lnUs I j U ++ [lnU I (j + U.length) f]
  | [], j => rfl
  | u :: U, j => by rw [List.cons_append, lnUs, lnUs, lnUs_snoc I f U (j + 1), List.length_cons, show j + 1 + U.length = j + (U.length + 1) from by omega]; rfl
theorem lnOs_snoc (f : Form) : ∀ (U : List Form) (j : Nat), lnOs j (U ++ [f]) = lnOs j U ++ [lnO (j + U.length) f]
  | [], j => rfl
  | u :: U, j => by rw [List.cons_append, lnOs, lnOs, lnOs_snoc f U (j + 1), List.length_cons, show j + 1 + U.length = j + (U.length + 1) from by omega]; rfl
structure TxN (f : Form) : Prop where
  s : Srt f.1
  t : ∀ t ∈ f.1, TmN t
  c : NB f.2
theorem nb_of {q : Rat} (h : H q ≤ 2) : NB q := by
  have a1 : (lmb q.num.natAbs).length ≤ H q := Nat.le_max_left _ _
  have a2 : (lmb q.den).length ≤ H q := Nat.le_max_right _ _
  have h1 := dd_small (K := q.num.natAbs) (m := 2) (by omega)
  have h2 := dd_small (K := q.den) (m := 2) (by omega)
  exact ⟨by omega, by omega⟩
theorem SmF.tx {N : Nat} {f : Form} (h : SmF N f) (hN : N ≤ 7) : TxN f ∧ TxB f := by
  have h1 := h.l.each
  refine ⟨⟨h.srt, fun t ht => ⟨nb_of (h1 t ht).2.2.2, (h1 t ht).1, ?_⟩, nb_of h.k⟩, ⟨by have := h.l.len; omega, fun t ht => ?_, by have := h.k; omega⟩⟩
  · have := h1 t ht
    rw [dd_lt (by omega)]; simp
  · have := h1 t ht
    exact ⟨by omega, by omega, by omega⟩
end Go.Proofs.YtlpmemelhlnfbaaGreatDoor
set_option linter.all false
set_option maxRecDepth 100000
set_option maxHeartbeats 6400000
namespace Go.Proofs.YtlpmemelhlnfbaaGreatDoor
open Go.RowKit
noncomputable def gtx_C6 : Code := (loopsOf (bodyOf Tryz.f28)).getD 0 .skip
noncomputable def gtx_C11 : Code := (loopsOf (bodyOf Tryz.f28)).getD 1 .skip
def gtx_h6 (a0 : TGraph) (i_6 : Nat) (ab : ByteArray) : St :=
  ⟨[(1, .ptr 0 0), (3, .ptr 1 0), (18, .sl 4 (a0.Units.map formC)), (19, .lit (.int .i64 (a0.Units.length : Int))), (20, .lit (.int .i64 (i_6 : Int)))],
   [(0, some (.box 38 [.lit (.int .i64 (a0.Inputs)), .sl 4 (a0.Units.map formC), .sl 4 (a0.Outputs.map formC)] false)),
    (1, some (.box 88 [.ptr 1 0, .own 2 ab.size] false)),
    (2, some (.row 5 1 (strEls ab) 0))], 3⟩
def gtx_h11 (a0 : TGraph) (i_11 : Nat) (ab : ByteArray) : St :=
  ⟨[(3, .ptr 0 0), (39, .sl 4 (a0.Outputs.map formC)), (40, .lit (.int .i64 (a0.Outputs.length : Int))), (41, .lit (.int .i64 (i_11 : Int)))],
   [(0, some (.box 88 [.ptr 0 0, .own 1 ab.size] false)),
    (1, some (.row 5 1 (strEls ab) 0))], 2⟩
def gtx_o6a (a0 : TGraph) (ab : ByteArray) : St :=
  ⟨[(1, .ptr 0 0), (3, .ptr 1 0)],
   [(0, some (.box 38 [.lit (.int .i64 (a0.Inputs)), .sl 4 (a0.Units.map formC), .sl 4 (a0.Outputs.map formC)] false)),
    (1, some (.box 88 [.ptr 1 0, .own 2 ab.size] false)),
    (2, some (.row 5 1 (strEls ab) 0))], 3⟩
def gtx_o11a (ab : ByteArray) : St :=
  ⟨[(3, .ptr 0 0)],
   [(0, some (.box 88 [.ptr 0 0, .own 1 ab.size] false)),
    (1, some (.row 5 1 (strEls ab) 0))], 2⟩
section
variable {n : Nat} {ab : ByteArray} {i_6 : Nat} {a0 : TGraph} {i_11 : Nat}
theorem gtx_r6_1 {ab rb1 : ByteArray} {a0 : TGraph} {i_6 : Nat} {F3 : List (Int × Rat)} {q3 : Rat} {r13 : ByteArray} {cat11 : ByteArray} {cat12 : ByteArray} {r14 : ByteArray} {cat13 : ByteArray} {cat14 : ByteArray} {r15 : Int} {r16 : Int} (C1 : (i_6 : Int) < (a0.Units.length : Int)) (E2 : a0.Units[i_6]? = some (F3, q3)) (W3 : InI (a0.Inputs + (i_6 : Int))) (K4 : (oItoa) [.lit (.int .i64 (a0.Inputs + (i_6 : Int)))] = some (.lit (.string r13))) (S5 : (⟨#[120]⟩ : ByteArray).size + r13.size ≤ 9000000000000000000) (D5 : cat11 = (⟨#[120]⟩ : ByteArray) ++ r13) (S6 : cat11.size + (⟨#[32, 61, 32, 109, 97, 120, 40, 48, 44, 32]⟩ : ByteArray).size ≤ 9000000000000000000) (D6 : cat12 = cat11 ++ (⟨#[32, 61, 32, 109, 97, 120, 40, 48, 44, 32]⟩ : ByteArray)) (K7 : run (n + 7) 52 [formV (F3, q3)] = some (.lit (.string r14))) (S8 : cat12.size + r14.size ≤ 9000000000000000000) (D8 : cat13 = cat12 ++ r14) (S9 : cat13.size + (⟨#[41, 10]⟩ : ByteArray).size ≤ 9000000000000000000) (D9 : cat14 = cat13 ++ (⟨#[41, 10]⟩ : ByteArray)) (K10 : runL (n + 7) 69 [.ptr 0 0, .lit (.string cat14)] [.box 88 [.ptr 0 0, .own 1 ab.size] false, .row 5 1 (strEls ab) 0] = some (.tup [.lit (.int .i64 r15), .lit .nilIface], [(0, .box 88 [.ptr 0 0, .own 2 rb1.size] false), (2, .row 5 1 (strEls rb1) 0)])) (W11 : InI ((i_6 : Int) + 1)) :
    Cont 0 (exec Tryz.prog (tab (n + 8)) 0 57 (livesOf 28) big gtx_C6) (livesOf 28 6) (gtx_h6 a0 i_6 ab) (gtx_h6 a0 (i_6 + 1) rb1) := by
  obtain ⟨ks0, hks0⟩ : ∃ k : ByteArray, (⟨#[32, 61, 32, 109, 97, 120, 40, 48, 44, 32]⟩ : ByteArray) = k := ⟨_, rfl⟩
  rw [hks0] at S6 D6
  obtain ⟨ks1, hks1⟩ : ∃ k : ByteArray, (⟨#[41, 10]⟩ : ByteArray) = k := ⟨_, rfl⟩
  rw [hks1] at S9 D9
  have C1_ : i_6 < a0.Units.length := by omega
  obtain ⟨EL2, EG2⟩ := List.getElem?_eq_some_iff.1 E2
  have W3_ : IntKind.i64.wrap (a0.Inputs + (i_6 : Int)) = a0.Inputs + (i_6 : Int) := wr64 W3.1 W3.2
  have S5_r := cat_r S5 D5
  have S5_q := cat_q S5 D5
  have S6_r := cat_r S6 D6
  have S6_q := cat_q S6 D6
  simp only [formV] at K7
  have S8_r := cat_r S8 D8
  have S8_q := cat_q S8 D8
  have S9_r := cat_r S9 D9
  have S9_q := cat_q S9 D9
  have W11_ : IntKind.i64.wrap ((i_6 : Int) + 1) = (i_6 : Int) + 1 := wr64 W11.1 W11.2
  unfold Cont
  simp +decide [gtx_h6, loopsOf, Tryz.f28, gtx_C6, C1, C1_, EL2, EG2, E2, W3_, K4, ↓S5_r, S5_q, ↓S6_r, S6_q, K7, ↓S8_r, S8_q, ↓S9_r, S9_q, K10, W11_, hks0, hks1]
theorem gtx_x6_1 (C1 : ¬ (i_6 : Int) < (a0.Units.length : Int)) :
    Leave 0 (exec Tryz.prog (tab (n + 8)) 0 57 (livesOf 28) big gtx_C6) (livesOf 28 (outOf 6)) (gtx_h6 a0 i_6 ab) (.exit 0) (gtx_o6a a0 ab) := by
  have C1_ : ¬ i_6 < a0.Units.length := by omega
  unfold Leave
  simp +decide [gtx_h6, loopsOf, Tryz.f28, gtx_o6a, gtx_C6, C1, C1_]
theorem gtx_r11_1 {ab rb1 : ByteArray} {a0 : TGraph} {i_11 : Nat} {F6 : List (Int × Rat)} {q6 : Rat} {r25 : ByteArray} {cat23 : ByteArray} {cat24 : ByteArray} {r26 : ByteArray} {cat25 : ByteArray} {cat26 : ByteArray} {r27 : Int} {r28 : Int} (C1 : (i_11 : Int) < (a0.Outputs.length : Int)) (E2 : a0.Outputs[i_11]? = some (F6, q6)) (K3 : (oItoa) [.lit (.int .i64 (i_11 : Int))] = some (.lit (.string r25))) (S4 : (⟨#[121]⟩ : ByteArray).size + r25.size ≤ 9000000000000000000) (D4 : cat23 = (⟨#[121]⟩ : ByteArray) ++ r25) (S5 : cat23.size + (⟨#[32, 61, 32]⟩ : ByteArray).size ≤ 9000000000000000000) (D5 : cat24 = cat23 ++ (⟨#[32, 61, 32]⟩ : ByteArray)) (K6 : run (n + 7) 52 [formV (F6, q6)] = some (.lit (.string r26))) (S7 : cat24.size + r26.size ≤ 9000000000000000000) (D7 : cat25 = cat24 ++ r26) (S8 : cat25.size + (⟨#[10]⟩ : ByteArray).size ≤ 9000000000000000000) (D8 : cat26 = cat25 ++ (⟨#[10]⟩ : ByteArray)) (K9 : runL (n + 7) 69 [.ptr 0 0, .lit (.string cat26)] [.box 88 [.ptr 0 0, .own 1 ab.size] false, .row 5 1 (strEls ab) 0] = some (.tup [.lit (.int .i64 r27), .lit .nilIface], [(0, .box 88 [.ptr 0 0, .own 2 rb1.size] false), (2, .row 5 1 (strEls rb1) 0)])) (W10 : InI ((i_11 : Int) + 1)) :
    Cont 0 (exec Tryz.prog (tab (n + 8)) 0 57 (livesOf 28) big gtx_C11) (livesOf 28 11) (gtx_h11 a0 i_11 ab) (gtx_h11 a0 (i_11 + 1) rb1) := by
  obtain ⟨ks0, hks0⟩ : ∃ k : ByteArray, (⟨#[32, 61, 32]⟩ : ByteArray) = k := ⟨_, rfl⟩
  rw [hks0] at S5 D5
  obtain ⟨ks1, hks1⟩ : ∃ k : ByteArray, (⟨#[10]⟩ : ByteArray) = k := ⟨_, rfl⟩
  rw [hks1] at S8 D8
  have C1_ : i_11 < a0.Outputs.length := by omega
  obtain ⟨EL2, EG2⟩ := List.getElem?_eq_some_iff.1 E2
  have S4_r := cat_r S4 D4
  have S4_q := cat_q S4 D4
  have S5_r := cat_r S5 D5
  have S5_q := cat_q S5 D5
  simp only [formV] at K6
  have S7_r := cat_r S7 D7
  have S7_q := cat_q S7 D7
  have S8_r := cat_r S8 D8
  have S8_q := cat_q S8 D8
  have W10_ : IntKind.i64.wrap ((i_11 : Int) + 1) = (i_11 : Int) + 1 := wr64 W10.1 W10.2
  unfold Cont
  simp +decide [gtx_h11, loopsOf, Tryz.f28, gtx_C11, C1, C1_, EL2, EG2, E2, K3, ↓S4_r, S4_q, ↓S5_r, S5_q, K6, ↓S7_r, S7_q, ↓S8_r, S8_q, K9, W10_, hks0, hks1]
theorem gtx_x11_1 (C1 : ¬ (i_11 : Int) < (a0.Outputs.length : Int)) :
    Leave 0 (exec Tryz.prog (tab (n + 8)) 0 57 (livesOf 28) big gtx_C11) (livesOf 28 (outOf 11)) (gtx_h11 a0 i_11 ab) (.exit 2) (gtx_o11a ab) := by
  have C1_ : ¬ i_11 < a0.Outputs.length := by omega
  unfold Leave
  simp +decide [gtx_h11, loopsOf, Tryz.f28, gtx_o11a, gtx_C11, C1, C1_]
theorem gtx_f2 {rb1 ab2 ab3 : ByteArray} {a0 : TGraph} {r : Bool} {r2 : ByteArray} {cat : ByteArray} {cat2 : ByteArray} {r3 : Int} {r4 : Int} {r29 : ByteArray} (K1 : run (n + 7) 41 [graphV a0] = some (.lit (.bool r))) (C2 : r = true) (K3 : (oItoa) [.lit (.int .i64 (a0.Inputs))] = some (.lit (.string r2))) (S4 : (⟨#[105, 110, 112, 117, 116, 115, 32]⟩ : ByteArray).size + r2.size ≤ 9000000000000000000) (D4 : cat = (⟨#[105, 110, 112, 117, 116, 115, 32]⟩ : ByteArray) ++ r2) (S5 : cat.size + (⟨#[10]⟩ : ByteArray).size ≤ 9000000000000000000) (D5 : cat2 = cat ++ (⟨#[10]⟩ : ByteArray)) (K6 : runL (n + 7) 69 [.ptr 0 0, .lit (.string cat2)] [.box 88 [(.lit (.pointer none)), .nl 1] false] = some (.tup [.lit (.int .i64 r3), .lit .nilIface], [(0, .box 88 [.ptr 0 0, .own 1 rb1.size] false), (1, .row 5 1 (strEls rb1) 0)])) (L7 : loopG Tryz.prog (tab (n + 8)) 0 57 (livesOf 28) 6 gtx_C6 (gtx_h6 a0 0 rb1) = some (.exit 0, gtx_o6a a0 ab2)) (L8 : loopG Tryz.prog (tab (n + 8)) 0 57 (livesOf 28) 11 gtx_C11 (gtx_h11 a0 0 ab2) = some (.exit 2, gtx_o11a ab3)) (K9 : runL (n + 7) 70 [.ptr 0 0] [.box 88 [.ptr 0 0, .own 1 ab3.size] false, .row 5 1 (strEls ab3) 0] = some (.lit (.string r29), [(0, .box 88 [.ptr 0 0, .own 1 ab3.size] false)])) :
    run (n + 8) 28 [graphV a0] = some (.lit (.string r29)) := by
  obtain ⟨ks0, hks0⟩ : ∃ k : ByteArray, (⟨#[10]⟩ : ByteArray) = k := ⟨_, rfl⟩
  rw [hks0] at S5 D5
  simp only [graphV] at K1
  have S4_r := cat_r S4 D4
  have S4_q := cat_q S4 D4
  have S5_r := cat_r S5 D5
  have S5_q := cat_q S5 D5
  unfold run fnP
  simp +decide [Tryz.f28, K1, C2, K3, ↓S4_r, S4_q, ↓S5_r, S5_q, K6, K9, hks0]
  subst hks0
  rw [loopX_G (C' := gtx_C6) (e := (gtx_h6 a0 0 rb1)) ?_ ?_, L7]
  rotate_left
  · kernel_rfl
  · simp +decide [gtx_h6, K1, C2, K3, K6, K9]
  simp +decide [gtx_o6a, K1, C2, K3, K6, K9]
  rw [loopX_G (C' := gtx_C11) (e := (gtx_h11 a0 0 ab2)) ?_ ?_, L8]
  rotate_left
  · kernel_rfl
  · simp +decide [gtx_h11, K1, C2, K3, K6, K9]
  simp +decide [gtx_o11a, K1, C2, K3, K6, K9]
end
end Go.Proofs.YtlpmemelhlnfbaaGreatDoor
set_option linter.all false
set_option maxRecDepth 100000
set_option maxHeartbeats 6400000
namespace Go.Proofs.YtlpmemelhlnfbaaGreatDoor
open Go.RowKit
noncomputable def gtf_C5 : Code := (loopsOf (bodyOf Tryz.f29)).getD 0 .skip
noncomputable def gtf_C9 : Code := (loopsOf (bodyOf Tryz.f29)).getD 1 .skip
def gtf_h5 (a0 : TGraph) (str_5 : ByteArray) (i_5 : Nat) : St :=
  ⟨[(1, .ptr 0 0), (3, .lit (.string str_5)), (4, .lit (.int .i64 (i_5 : Int)))],
   [(0, some (.box 38 [.lit (.int .i64 (a0.Inputs)), .sl 4 (a0.Units.map formC), .sl 4 (a0.Outputs.map formC)] false))], 1⟩
def gtf_h9 (a0 : TGraph) (str_9 : ByteArray) (i_9 : Nat) : St :=
  ⟨[(1, .ptr 0 0), (3, .lit (.string str_9)), (5, .lit (.int .i64 (i_9 : Int)))],
   [(0, some (.box 38 [.lit (.int .i64 (a0.Inputs)), .sl 4 (a0.Units.map formC), .sl 4 (a0.Outputs.map formC)] false))], 1⟩
def gtf_o5a (a0 : TGraph) (str_5 : ByteArray) : St :=
  ⟨[(1, .ptr 0 0), (3, .lit (.string str_5))],
   [(0, some (.box 38 [.lit (.int .i64 (a0.Inputs)), .sl 4 (a0.Units.map formC), .sl 4 (a0.Outputs.map formC)] false))], 1⟩
def gtf_o9a (str_9 : ByteArray) : St :=
  ⟨[(3, .lit (.string str_9))],
   [], 0⟩
section
variable {i_5 : Nat} {F3 : List (Int × Rat)} {str_5 : ByteArray} {cat16 : ByteArray} {r8 : ByteArray} {cat13 : ByteArray} {cat15 : ByteArray} {q3 : Rat} {cat14 : ByteArray} {a0 : TGraph} {cat17 : ByteArray} {n : Nat} {r7 : ByteArray} {cat28 : ByteArray} {cat32 : ByteArray} {r13 : ByteArray} {cat30 : ByteArray} {str_9 : ByteArray} {r14 : ByteArray} {F6 : List (Int × Rat)} {cat31 : ByteArray} {cat29 : ByteArray} {q6 : Rat} {i_9 : Nat} {cat2 : ByteArray} {cat : ByteArray} {r2 : ByteArray} {r : Bool}
theorem gtf_r5_1 (C1 : (i_5 : Int) < (a0.Units.length : Int)) (W2 : InI (a0.Inputs + (i_5 : Int))) (K3 : run (n + 6) 94 [.lit (.int .i64 (a0.Inputs + (i_5 : Int)))] = some (.lit (.string r7))) (S4 : (⟨#[120]⟩ : ByteArray).size + r7.size ≤ 9000000000000000000) (D4 : cat13 = (⟨#[120]⟩ : ByteArray) ++ r7) (S5 : cat13.size + (⟨#[32, 61, 32, 109, 97, 120, 40, 48, 44, 32]⟩ : ByteArray).size ≤ 9000000000000000000) (D5 : cat14 = cat13 ++ (⟨#[32, 61, 32, 109, 97, 120, 40, 48, 44, 32]⟩ : ByteArray)) (E6 : a0.Units[i_5]? = some (F3, q3)) (K7 : run (n + 6) 54 [formV (F3, q3)] = some (.lit (.string r8))) (S8 : cat14.size + r8.size ≤ 9000000000000000000) (D8 : cat15 = cat14 ++ r8) (S9 : cat15.size + (⟨#[41, 10]⟩ : ByteArray).size ≤ 9000000000000000000) (D9 : cat16 = cat15 ++ (⟨#[41, 10]⟩ : ByteArray)) (S10 : str_5.size + cat16.size ≤ 9000000000000000000) (D10 : cat17 = str_5 ++ cat16) (W11 : InI ((i_5 : Int) + 1)) :
    Cont 0 (exec Tryz.prog (tab (n + 7)) 0 60 (livesOf 29) big gtf_C5) (livesOf 29 5) (gtf_h5 a0 str_5 i_5) (gtf_h5 a0 cat17 (i_5 + 1)) := by
  obtain ⟨ks0, hks0⟩ : ∃ k : ByteArray, (⟨#[32, 61, 32, 109, 97, 120, 40, 48, 44, 32]⟩ : ByteArray) = k := ⟨_, rfl⟩
  rw [hks0] at S5 D5
  obtain ⟨ks1, hks1⟩ : ∃ k : ByteArray, (⟨#[41, 10]⟩ : ByteArray) = k := ⟨_, rfl⟩
  rw [hks1] at S9 D9
  have C1_ : i_5 < a0.Units.length := by omega
  have W2_ : IntKind.i64.wrap (a0.Inputs + (i_5 : Int)) = a0.Inputs + (i_5 : Int) := wr64 W2.1 W2.2
  have S4_r := cat_r S4 D4
  have S4_q := cat_q S4 D4
  have S5_r := cat_r S5 D5
  have S5_q := cat_q S5 D5
  obtain ⟨EL6, EG6⟩ := List.getElem?_eq_some_iff.1 E6
  simp only [formV] at K7
  have S8_r := cat_r S8 D8
  have S8_q := cat_q S8 D8
  have S9_r := cat_r S9 D9
  have S9_q := cat_q S9 D9
  have S10_r := cat_r S10 D10
  have S10_q := cat_q S10 D10
  have W11_ : IntKind.i64.wrap ((i_5 : Int) + 1) = (i_5 : Int) + 1 := wr64 W11.1 W11.2
  unfold Cont
  simp +decide [gtf_h5, loopsOf, Tryz.f29, gtf_C5, C1, C1_, W2_, K3, ↓S4_r, S4_q, ↓S5_r, S5_q, EL6, EG6, E6, K7, ↓S8_r, S8_q, ↓S9_r, S9_q, ↓S10_r, S10_q, W11_, hks0, hks1]
theorem gtf_x5_1 (C1 : ¬ (i_5 : Int) < (a0.Units.length : Int)) :
    Leave 0 (exec Tryz.prog (tab (n + 7)) 0 60 (livesOf 29) big gtf_C5) (livesOf 29 (outOf 5)) (gtf_h5 a0 str_5 i_5) (.exit 0) (gtf_o5a a0 str_5) := by
  have C1_ : ¬ i_5 < a0.Units.length := by omega
  unfold Leave
  simp +decide [gtf_h5, loopsOf, Tryz.f29, gtf_o5a, gtf_C5, C1, C1_]
theorem gtf_r9_1 (C1 : (i_9 : Int) < (a0.Outputs.length : Int)) (K2 : run (n + 6) 94 [.lit (.int .i64 (i_9 : Int))] = some (.lit (.string r13))) (S3 : (⟨#[121]⟩ : ByteArray).size + r13.size ≤ 9000000000000000000) (D3 : cat28 = (⟨#[121]⟩ : ByteArray) ++ r13) (S4 : cat28.size + (⟨#[32, 61, 32]⟩ : ByteArray).size ≤ 9000000000000000000) (D4 : cat29 = cat28 ++ (⟨#[32, 61, 32]⟩ : ByteArray)) (E5 : a0.Outputs[i_9]? = some (F6, q6)) (K6 : run (n + 6) 54 [formV (F6, q6)] = some (.lit (.string r14))) (S7 : cat29.size + r14.size ≤ 9000000000000000000) (D7 : cat30 = cat29 ++ r14) (S8 : cat30.size + (⟨#[10]⟩ : ByteArray).size ≤ 9000000000000000000) (D8 : cat31 = cat30 ++ (⟨#[10]⟩ : ByteArray)) (S9 : str_9.size + cat31.size ≤ 9000000000000000000) (D9 : cat32 = str_9 ++ cat31) (W10 : InI ((i_9 : Int) + 1)) :
    Cont 0 (exec Tryz.prog (tab (n + 7)) 0 60 (livesOf 29) big gtf_C9) (livesOf 29 9) (gtf_h9 a0 str_9 i_9) (gtf_h9 a0 cat32 (i_9 + 1)) := by
  have tR1 : tab (n + 7) 94 = some (.pure (run (n + 6) 94)) := tb_94 _
  have tR2 : tab (n + 7) 54 = some (.pure (run (n + 6) 54)) := tb_54 _
  obtain ⟨R1, hR1⟩ : ∃ R, run (n + 6) 94 = R := ⟨_, rfl⟩
  obtain ⟨R2, hR2⟩ : ∃ R, run (n + 6) 54 = R := ⟨_, rfl⟩
  obtain ⟨O, hO⟩ : ∃ O, tab (n + 7) = O := ⟨_, rfl⟩
  rw [hR1] at K2 tR1
  rw [hR2] at K6 tR2
  rw [hO] at tR1 tR2 ⊢
  clear hR1 hR2 hO
  obtain ⟨ks0, hks0⟩ : ∃ k : ByteArray, (⟨#[121]⟩ : ByteArray) = k := ⟨_, rfl⟩
  rw [hks0] at S3 D3
  obtain ⟨ks1, hks1⟩ : ∃ k : ByteArray, (⟨#[32, 61, 32]⟩ : ByteArray) = k := ⟨_, rfl⟩
  rw [hks1] at S4 D4
  obtain ⟨ks2, hks2⟩ : ∃ k : ByteArray, (⟨#[10]⟩ : ByteArray) = k := ⟨_, rfl⟩
  rw [hks2] at S8 D8
  have C1_ : i_9 < a0.Outputs.length := by omega
  have S3_r := cat_r S3 D3
  have S3_q := cat_q S3 D3
  have S4_r := cat_r S4 D4
  have S4_q := cat_q S4 D4
  obtain ⟨EL5, EG5⟩ := List.getElem?_eq_some_iff.1 E5
  simp only [formV] at K6
  have S7_r := cat_r S7 D7
  have S7_q := cat_q S7 D7
  have S8_r := cat_r S8 D8
  have S8_q := cat_q S8 D8
  have S9_r := cat_r S9 D9
  have S9_q := cat_q S9 D9
  have W10_ : IntKind.i64.wrap ((i_9 : Int) + 1) = (i_9 : Int) + 1 := wr64 W10.1 W10.2
  unfold Cont
  simp +decide [tR1, tR2, gtf_h9, loopsOf, Tryz.f29, gtf_C9, C1, C1_, K2, ↓S3_r, S3_q, ↓S4_r, S4_q, EL5, EG5, E5, K6, ↓S7_r, S7_q, ↓S8_r, S8_q, ↓S9_r, S9_q, W10_, hks0, hks1, hks2]
theorem gtf_x9_1 (C1 : ¬ (i_9 : Int) < (a0.Outputs.length : Int)) :
    Leave 0 (exec Tryz.prog (tab (n + 7)) 0 60 (livesOf 29) big gtf_C9) (livesOf 29 (outOf 9)) (gtf_h9 a0 str_9 i_9) (.exit 2) (gtf_o9a str_9) := by
  have C1_ : ¬ i_9 < a0.Outputs.length := by omega
  unfold Leave
  simp +decide [gtf_h9, loopsOf, Tryz.f29, gtf_o9a, gtf_C9, C1, C1_]
theorem gtf_f2 (K1 : run (n + 6) 25 [graphV a0] = some (.lit (.bool r))) (C2 : r = true) (K3 : run (n + 6) 94 [.lit (.int .i64 (a0.Inputs))] = some (.lit (.string r2))) (S4 : (⟨#[105, 110, 112, 117, 116, 115, 32]⟩ : ByteArray).size + r2.size ≤ 9000000000000000000) (D4 : cat = (⟨#[105, 110, 112, 117, 116, 115, 32]⟩ : ByteArray) ++ r2) (S5 : cat.size + (⟨#[10]⟩ : ByteArray).size ≤ 9000000000000000000) (D5 : cat2 = cat ++ (⟨#[10]⟩ : ByteArray)) (L6 : loopG Tryz.prog (tab (n + 7)) 0 60 (livesOf 29) 5 gtf_C5 (gtf_h5 a0 cat2 0) = some (.exit 0, gtf_o5a a0 str_5)) (L7 : loopG Tryz.prog (tab (n + 7)) 0 60 (livesOf 29) 9 gtf_C9 (gtf_h9 a0 str_5 0) = some (.exit 2, gtf_o9a str_9)) :
    run (n + 7) 29 [graphV a0] = some (.lit (.string str_9)) := by
  obtain ⟨ks0, hks0⟩ : ∃ k : ByteArray, (⟨#[105, 110, 112, 117, 116, 115, 32]⟩ : ByteArray) = k := ⟨_, rfl⟩
  rw [hks0] at S4 D4
  obtain ⟨ks1, hks1⟩ : ∃ k : ByteArray, (⟨#[10]⟩ : ByteArray) = k := ⟨_, rfl⟩
  rw [hks1] at S5 D5
  simp only [graphV] at K1
  have S4_r := cat_r S4 D4
  have S4_q := cat_q S4 D4
  have S5_r := cat_r S5 D5
  have S5_q := cat_q S5 D5
  unfold run fnP
  simp +decide [Tryz.f29, K1, C2, K3, ↓S4_r, S4_q, ↓S5_r, S5_q, hks0, hks1]
  subst hks0
  subst hks1
  rw [loopX_G (C' := gtf_C5) (e := (gtf_h5 a0 cat2 0)) ?_ ?_, L6]
  rotate_left
  · kernel_rfl
  · simp +decide [gtf_h5, K1, C2, K3]
  simp +decide [gtf_o5a, K1, C2, K3]
  rw [loopX_G (C' := gtf_C9) (e := (gtf_h9 a0 str_5 0)) ?_ ?_, L7]
  rotate_left
  · kernel_rfl
  · simp +decide [gtf_h9, K1, C2, K3]
  simp +decide [gtf_o9a, K1, C2, K3]
end
end Go.Proofs.YtlpmemelhlnfbaaGreatDoor
set_option linter.all false
set_option maxRecDepth 100000
set_option maxHeartbeats 6400000
namespace Go.Proofs.YtlpmemelhlnfbaaGreatDoor
open Go.RowKit
theorem num15_f1 {n : Nat} {a0 : Int} {r : List Nat} {r2 : ByteArray} (W1 : IntKind.u64.wrap (a0) = a0) (K2 : (oU fun k => natA (lmb k)) [.lit (.int .u64 a0)] = some (natA r)) (K3 : run (n + 4) 127 [natA r] = some (.lit (.string r2))) :
    run (n + 5) 94 [.lit (.int .i64 a0)] = some (.lit (.string r2)) := by
  unfold run fnP
  simp +decide [Tryz.f94, W1, K2, K3]
end Go.Proofs.YtlpmemelhlnfbaaGreatDoor
set_option linter.all false
set_option maxRecDepth 100000
namespace Go.Proofs.YtlpmemelhlnfbaaGreatDoor
open Go.RowKit
theorem awake15_c {n : Nat} : run 16 18 [] = some (.lit (.bool true)) := by kernel_rfl
end Go.Proofs.YtlpmemelhlnfbaaGreatDoor
set_option linter.all false
namespace Go.Proofs.YtlpmemelhlnfbaaGreatDoor
open Go.RowKit
def awG (args : List AV) : Option AV := match args with | [] => some (.lit (.bool true)) | _ => none
theorem con_awake : ∀ args r, awG args = some r → Con Tryz.prog 18 args r := fun args r hr => by
  unfold awG at hr
  split at hr
  · cases hr
    exact ((tab_ok 17).pure _ _ (tb_18 16)).2 _ _ (awake15_c (n := 0))
  · cases hr
end Go.Proofs.YtlpmemelhlnfbaaGreatDoor
