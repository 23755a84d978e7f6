import Derived.Test.YtjpoanaoaeaneaaGreatDoorGA5
import Derived.Test.YtjpoanaoaeaneaaGreatDoorGA6
import Derived.Test.YtjpoanaoaeaneaaGreatDoorGA9
import Derived.Lib.IndexAny
import Derived.Lib.IndexBytes
set_option linter.all false
set_option maxRecDepth 100000
set_option maxHeartbeats 6400000
namespace Go.Proofs.YtjpoanaoaeaneaaGreatDoor
open Go.RowKit
noncomputable def lnb_C7 : Code := (loopsOf (bodyOf Tryz.f140)).getD 0 .skip
def lnb_h7 (a0 : Tparser) (a1 : Int) (i_7 : Int) : St :=
  ⟨[(0, .ptr 0 0), (1, .lit (.int .i64 a1)), (8, .lit (.int .i64 (a0.at_)))],
   [(0, some (.box 98 [.lit (.string a0.s), .lit (.int .i64 i_7)] false))], 1⟩
def lnb_o7a (a0 : Tparser) (z6 : Int) : St :=
  ⟨[(0, .ptr 0 0), (8, .lit (.int .i64 (a0.at_)))],
   [(0, some (.box 98 [.lit (.string a0.s), .lit (.int .i64 z6)] false))], 1⟩
section
variable {r6 : Bool} {a1 : Int} {a0 : Tparser} {i_7 : Int} {n : Nat} {z6 : Int} {a2 : Bool} {r : Bool} {z : Int} {z2 : Int} {r2 : Bool} {r3 : Bool} {z3 : Int} {sub : ByteArray} {z7 : Int} {r7 : Bool} {sub2 : ByteArray}
theorem lnb_r7_1 (K1 : runL (n + 3) 70 [.ptr 0 0, .lit (.string (⟨#[48, 49, 50, 51, 52, 53, 54, 55, 56, 57]⟩ : ByteArray))] [.box 98 [.lit (.string a0.s), .lit (.int .i64 i_7)] false] = some (.lit (.bool r6), [(0, .box 98 [.lit (.string a0.s), .lit (.int .i64 z6)] false)])) (C2 : r6 = true) (W3 : InI (z6 - a0.at_)) (C4 : z6 - a0.at_ < a1) (W5 : InI (z6 + 1)) :
    Cont 1 (exec Tryz.prog (tab (n + 4)) 1 62 (livesOf 140) big lnb_C7) (livesOf 140 7) (lnb_h7 a0 a1 i_7) (lnb_h7 a0 a1 (z6 + 1)) := by
  have W3_ : IntKind.i64.wrap (z6 - a0.at_) = z6 - a0.at_ := wr64 W3.1 W3.2
  have W5_ : IntKind.i64.wrap (z6 + 1) = z6 + 1 := wr64 W5.1 W5.2
  rw [C2] at K1
  unfold Cont
  simp +decide [lnb_h7, loopsOf, Tryz.f140, lnb_C7, K1, C2, W3_, C4, W5_]
theorem lnb_x7_1 (K1 : runL (n + 3) 70 [.ptr 0 0, .lit (.string (⟨#[48, 49, 50, 51, 52, 53, 54, 55, 56, 57]⟩ : ByteArray))] [.box 98 [.lit (.string a0.s), .lit (.int .i64 i_7)] false] = some (.lit (.bool r6), [(0, .box 98 [.lit (.string a0.s), .lit (.int .i64 z6)] false)])) (C2 : r6 = true) (W3 : InI (z6 - a0.at_)) (C4 : ¬ z6 - a0.at_ < a1) :
    Leave 1 (exec Tryz.prog (tab (n + 4)) 1 62 (livesOf 140) big lnb_C7) (livesOf 140 (outOf 7)) (lnb_h7 a0 a1 i_7) (.exit 0) (lnb_o7a a0 z6) := by
  have W3_ : IntKind.i64.wrap (z6 - a0.at_) = z6 - a0.at_ := wr64 W3.1 W3.2
  rw [C2] at K1
  unfold Leave
  simp +decide [lnb_h7, loopsOf, Tryz.f140, lnb_o7a, lnb_C7, K1, C2, W3_, C4]
theorem lnb_x7_2 (K1 : runL (n + 3) 70 [.ptr 0 0, .lit (.string (⟨#[48, 49, 50, 51, 52, 53, 54, 55, 56, 57]⟩ : ByteArray))] [.box 98 [.lit (.string a0.s), .lit (.int .i64 i_7)] false] = some (.lit (.bool r6), [(0, .box 98 [.lit (.string a0.s), .lit (.int .i64 z6)] false)])) (C2 : r6 = false) :
    Leave 1 (exec Tryz.prog (tab (n + 4)) 1 62 (livesOf 140) big lnb_C7) (livesOf 140 (outOf 7)) (lnb_h7 a0 a1 i_7) (.exit 0) (lnb_o7a a0 z6) := by
  rw [C2] at K1
  unfold Leave
  simp +decide [lnb_h7, loopsOf, Tryz.f140, lnb_o7a, lnb_C7, K1, C2]
theorem lnb_f1 (K1 : runL (n + 3) 70 [.ptr 0 0, .lit (.string (⟨#[48, 49, 50, 51, 52, 53, 54, 55, 56, 57]⟩ : ByteArray))] [.box 98 [.lit (.string a0.s), .lit (.int .i64 (a0.at_))] false] = some (.lit (.bool r), [(0, .box 98 [.lit (.string a0.s), .lit (.int .i64 z)] false)])) (C2 : r = false) :
    runL (n + 4) 140 [.ptr 0 0, .lit (.int .i64 a1), .lit (.bool a2)] [.box 98 [.lit (.string a0.s), .lit (.int .i64 (a0.at_))] false] = some (.tup [.lit (.string (⟨#[]⟩ : ByteArray)), .lit (.bool false)], [(0, .box 98 [.lit (.string a0.s), .lit (.int .i64 z)] false)]) := by
  rw [C2] at K1
  unfold runL fnL
  simp +decide [Tryz.f140, K1, C2]
theorem lnb_f2 (K1 : runL (n + 3) 70 [.ptr 0 0, .lit (.string (⟨#[48, 49, 50, 51, 52, 53, 54, 55, 56, 57]⟩ : ByteArray))] [.box 98 [.lit (.string a0.s), .lit (.int .i64 (a0.at_))] false] = some (.lit (.bool r), [(0, .box 98 [.lit (.string a0.s), .lit (.int .i64 z)] false)])) (C2 : r = true) (C3 : a2 = false) (K4 : runL (n + 3) 70 [.ptr 0 0, .lit (.string (⟨#[48]⟩ : ByteArray))] [.box 98 [.lit (.string a0.s), .lit (.int .i64 z)] false] = some (.lit (.bool r2), [(0, .box 98 [.lit (.string a0.s), .lit (.int .i64 z2)] false)])) (C5 : r2 = true) :
    runL (n + 4) 140 [.ptr 0 0, .lit (.int .i64 a1), .lit (.bool a2)] [.box 98 [.lit (.string a0.s), .lit (.int .i64 (a0.at_))] false] = some (.tup [.lit (.string (⟨#[]⟩ : ByteArray)), .lit (.bool false)], [(0, .box 98 [.lit (.string a0.s), .lit (.int .i64 z2)] false)]) := by
  rw [C2] at K1
  rw [C5] at K4
  unfold runL fnL
  simp +decide [Tryz.f140, K1, C2, C3, K4, C5]
theorem lnb_f4 (K1 : runL (n + 3) 70 [.ptr 0 0, .lit (.string (⟨#[48, 49, 50, 51, 52, 53, 54, 55, 56, 57]⟩ : ByteArray))] [.box 98 [.lit (.string a0.s), .lit (.int .i64 (a0.at_))] false] = some (.lit (.bool r), [(0, .box 98 [.lit (.string a0.s), .lit (.int .i64 z)] false)])) (C2 : r = true) (C3 : a2 = false) (K4 : runL (n + 3) 70 [.ptr 0 0, .lit (.string (⟨#[48]⟩ : ByteArray))] [.box 98 [.lit (.string a0.s), .lit (.int .i64 z)] false] = some (.lit (.bool r2), [(0, .box 98 [.lit (.string a0.s), .lit (.int .i64 z2)] false)])) (C5 : r2 = false) (K6 : runL (n + 3) 70 [.ptr 0 0, .lit (.string (⟨#[48]⟩ : ByteArray))] [.box 98 [.lit (.string a0.s), .lit (.int .i64 z2)] false] = some (.lit (.bool r3), [(0, .box 98 [.lit (.string a0.s), .lit (.int .i64 z3)] false)])) (C7 : r3 = false) (L8 : loopG Tryz.prog (tab (n + 4)) 1 62 (livesOf 140) 7 lnb_C7 (lnb_h7 a0 a1 z3) = some (.exit 0, lnb_o7a a0 z6)) (U9 : 0 ≤ a0.at_ ∧ a0.at_ ≤ z6 ∧ z6 ≤ (a0.s.size : Int)) (D9 : sub = a0.s.extract a0.at_.toNat z6.toNat) :
    runL (n + 4) 140 [.ptr 0 0, .lit (.int .i64 a1), .lit (.bool a2)] [.box 98 [.lit (.string a0.s), .lit (.int .i64 (a0.at_))] false] = some (.tup [.lit (.string sub), .lit (.bool true)], [(0, .box 98 [.lit (.string a0.s), .lit (.int .i64 z6)] false)]) := by
  have D9_ := D9.symm
  rw [C2] at K1
  rw [C5] at K4
  rw [C7] at K6
  unfold runL fnL
  simp +decide [Tryz.f140, K1, C2, C3, K4, C5, K6, C7, U9, D9_]
  rw [loopX_G (C' := lnb_C7) (e := (lnb_h7 a0 a1 z3)) ?_ ?_, L8]
  rotate_left
  · kernel_rfl
  · simp +decide [lnb_h7, K1, C2, C3, K4, C5, K6, C7, U9, D9_]
  simp +decide [lnb_o7a, K1, C2, C3, K4, C5, K6, C7, U9, D9_]
theorem lnb_f5 (K1 : runL (n + 3) 70 [.ptr 0 0, .lit (.string (⟨#[48, 49, 50, 51, 52, 53, 54, 55, 56, 57]⟩ : ByteArray))] [.box 98 [.lit (.string a0.s), .lit (.int .i64 (a0.at_))] false] = some (.lit (.bool r), [(0, .box 98 [.lit (.string a0.s), .lit (.int .i64 z)] false)])) (C2 : r = true) (C3 : a2 = true) (K4 : runL (n + 3) 70 [.ptr 0 0, .lit (.string (⟨#[48]⟩ : ByteArray))] [.box 98 [.lit (.string a0.s), .lit (.int .i64 z)] false] = some (.lit (.bool r7), [(0, .box 98 [.lit (.string a0.s), .lit (.int .i64 z7)] false)])) (C5 : r7 = true) (W6 : InI (z7 + 1)) :
    runL (n + 4) 140 [.ptr 0 0, .lit (.int .i64 a1), .lit (.bool a2)] [.box 98 [.lit (.string a0.s), .lit (.int .i64 (a0.at_))] false] = some (.tup [.lit (.string (⟨#[48]⟩ : ByteArray)), .lit (.bool true)], [(0, .box 98 [.lit (.string a0.s), .lit (.int .i64 (z7 + 1))] false)]) := by
  have W6_ : IntKind.i64.wrap (z7 + 1) = z7 + 1 := wr64 W6.1 W6.2
  rw [C2] at K1
  rw [C5] at K4
  unfold runL fnL
  simp +decide [Tryz.f140, K1, C2, C3, K4, C5, W6_]
theorem lnb_f6 (K1 : runL (n + 3) 70 [.ptr 0 0, .lit (.string (⟨#[48, 49, 50, 51, 52, 53, 54, 55, 56, 57]⟩ : ByteArray))] [.box 98 [.lit (.string a0.s), .lit (.int .i64 (a0.at_))] false] = some (.lit (.bool r), [(0, .box 98 [.lit (.string a0.s), .lit (.int .i64 z)] false)])) (C2 : r = true) (C3 : a2 = true) (K4 : runL (n + 3) 70 [.ptr 0 0, .lit (.string (⟨#[48]⟩ : ByteArray))] [.box 98 [.lit (.string a0.s), .lit (.int .i64 z)] false] = some (.lit (.bool r7), [(0, .box 98 [.lit (.string a0.s), .lit (.int .i64 z7)] false)])) (C5 : r7 = false) (L6 : loopG Tryz.prog (tab (n + 4)) 1 62 (livesOf 140) 7 lnb_C7 (lnb_h7 a0 a1 z7) = some (.exit 0, lnb_o7a a0 z6)) (U7 : 0 ≤ a0.at_ ∧ a0.at_ ≤ z6 ∧ z6 ≤ (a0.s.size : Int)) (D7 : sub2 = a0.s.extract a0.at_.toNat z6.toNat) :
    runL (n + 4) 140 [.ptr 0 0, .lit (.int .i64 a1), .lit (.bool a2)] [.box 98 [.lit (.string a0.s), .lit (.int .i64 (a0.at_))] false] = some (.tup [.lit (.string sub2), .lit (.bool true)], [(0, .box 98 [.lit (.string a0.s), .lit (.int .i64 z6)] false)]) := by
  have D7_ := D7.symm
  rw [C2] at K1
  rw [C5] at K4
  unfold runL fnL
  simp +decide [Tryz.f140, K1, C2, C3, K4, C5, U7, D7_]
  rw [loopX_G (C' := lnb_C7) (e := (lnb_h7 a0 a1 z7)) ?_ ?_, L6]
  rotate_left
  · kernel_rfl
  · simp +decide [lnb_h7, K1, C2, C3, K4, C5, U7, D7_]
  simp +decide [lnb_o7a, K1, C2, C3, K4, C5, U7, D7_]
end
end Go.Proofs.YtjpoanaoaeaneaaGreatDoor
set_option linter.all false
set_option maxRecDepth 100000
set_option maxHeartbeats 6400000
namespace Go.Proofs.YtjpoanaoaeaneaaGreatDoor
open Go.RowKit
noncomputable def lno_C4 : Code := (loopsOf (bodyOf Tryz.f141)).getD 0 .skip
def lno_h4 (a0 : ByteArray) (nat_4 : List Nat) (r : List Nat) (i_4 : Nat) : St :=
  ⟨[(3, natA nat_4), (4, natA r), (9, .sl 1 ((byL a0).map intU8C)), (10, .lit (.int .i64 (((byL a0).length : Int)))), (11, .lit (.int .i64 (i_4 : Int)))],
   [], 0⟩
def lno_o4a (nat_4 : List Nat) : St :=
  ⟨[(3, natA nat_4)],
   [], 0⟩
section
variable {r9 : List Nat} {i_4 : Nat} {r : List Nat} {r10 : List Nat} {r8 : List Nat} {a0 : ByteArray} {nat_4 : List Nat} {x : Int} {x3 : Int} {n : Nat}
theorem lno_r4_1 (C1 : (i_4 : Int) < ((byL a0).length : Int)) (E2 : (byL a0)[i_4]? = some x3) (K3 : (oN2 fun x y => natA (lmb (val x * val y))) [natA nat_4, natA r] = some (natA r8)) (W4 : IntKind.u8.wrap (x3 - 48) = x3 - 48) (W5 : IntKind.u64.wrap (x3 - 48) = x3 - 48) (K6 : (oU fun k => natA (lmb k)) [.lit (.int .u64 (x3 - 48))] = some (natA r9)) (K7 : (oN2 fun x y => natA (lmb (val x + val y))) [natA r8, natA r9] = some (natA r10)) (W8 : InI ((i_4 : Int) + 1)) :
    Cont 0 (exec Tryz.prog (tab (n + 2)) 0 25 (livesOf 141) big lno_C4) (livesOf 141 4) (lno_h4 a0 nat_4 r i_4) (lno_h4 a0 r10 r (i_4 + 1)) := by
  have C1_ : i_4 < (byL a0).length := by omega
  obtain ⟨EL2, EG2⟩ := List.getElem?_eq_some_iff.1 E2
  have W8_ : IntKind.i64.wrap ((i_4 : Int) + 1) = (i_4 : Int) + 1 := wr64 W8.1 W8.2
  unfold Cont
  simp +decide [lno_h4, loopsOf, Tryz.f141, lno_C4, C1, C1_, EL2, EG2, E2, K3, W4, W5, K6, K7, W8_]
theorem lno_x4_1 (C1 : ¬ (i_4 : Int) < ((byL a0).length : Int)) :
    Leave 0 (exec Tryz.prog (tab (n + 2)) 0 25 (livesOf 141) big lno_C4) (livesOf 141 (outOf 4)) (lno_h4 a0 nat_4 r i_4) (.exit 0) (lno_o4a nat_4) := by
  have C1_ : ¬ i_4 < (byL a0).length := by omega
  unfold Leave
  simp +decide [lno_h4, loopsOf, Tryz.f141, lno_o4a, lno_C4, C1, C1_]
theorem lno_f1 (K1 : (oU fun k => natA (lmb k)) [.lit (.int .u64 10)] = some (natA r)) (L3 : loopG Tryz.prog (tab (n + 2)) 0 25 (livesOf 141) 4 lno_C4 (lno_h4 a0 [] r 0) = some (.exit 0, lno_o4a nat_4)) :
    run (n + 2) 141 [.lit (.string a0)] = some (natA nat_4) := by
  unfold run fnP
  simp +decide [Tryz.f141, K1, strEls_by]
  rw [loopX_G (C' := lno_C4) (e := (lno_h4 a0 [] r 0)) ?_ ?_, L3]
  rotate_left
  · kernel_rfl
  · simp +decide [lno_h4, K1, strEls_by] <;> rfl
  simp +decide [lno_o4a, K1, strEls_by]
end
end Go.Proofs.YtjpoanaoaeaneaaGreatDoor
set_option linter.all false
set_option maxRecDepth 100000
namespace Go.Proofs.YtjpoanaoaeaneaaGreatDoor
open Go.RowKit
open Lib (decDigits)
attribute [local irreducible] run runL loopG exec
theorem ba_get (L : List UInt8) (i : Nat) : (bs L)[i]? = L[i]? := by
  have hs := bs_size L
  by_cases h : i < L.length
  · rw [getElem?_pos (bs L) i (by omega), List.getElem?_eq_getElem h]; rfl
  · rw [getElem?_neg (bs L) i (by omega), List.getElem?_eq_none (by omega)]
def po (L l : List UInt8) : Int := ((L.length - l.length : Nat) : Int)
theorem po_get {L l : List UInt8} (h : l <:+ L) : (bs L)[(po L l).toNat]? = l.head? := by
  obtain ⟨p, rfl⟩ := h
  unfold po
  rw [Int.toNat_natCast, ba_get, List.length_append, show p.length + l.length - l.length = p.length from by omega, List.getElem?_append_right (Nat.le_refl _), Nat.sub_self]
  cases l <;> rfl
theorem po_nil (L : List UInt8) : po L [] = L.length := by unfold po; simp
theorem po_self (L : List UInt8) : po L L = 0 := by unfold po; simp
theorem po_rg (L l : List UInt8) : 0 ≤ po L l ∧ po L l ≤ L.length := by unfold po; omega
theorem po_lt {L l : List UInt8} {c : UInt8} (h : c :: l <:+ L) : po L (c :: l) < L.length ∧ po L (c :: l) + 1 = po L l := by
  have := h.length_le
  unfold po
  simp only [List.length_cons] at this ⊢
  omega
theorem suf_tl {L l : List UInt8} {c : UInt8} (h : c :: l <:+ L) : l <:+ L := (List.suffix_cons c l).trans h
theorem u8n {c d : UInt8} : c = d ↔ c.toNat = d.toNat := UInt8.toNat_inj.symm
theorem skL_suf : ∀ l : List UInt8, skL l <:+ l
  | [] => List.suffix_refl _
  | c :: l => by
    rw [skL]
    split
    · exact (skL_suf l).trans (List.suffix_cons c l)
    · exact List.suffix_refl _
def isIn (set : List UInt8) : List UInt8 → Bool
  | [] => false
  | c :: _ => set.contains c
def D10 : List UInt8 := [48, 49, 50, 51, 52, 53, 54, 55, 56, 57]
theorem d10 (c : UInt8) : D10.contains c = isD c := by
  rw [Bool.eq_iff_iff]
  unfold D10 isD
  simp only [List.contains_eq_mem, List.mem_cons, List.not_mem_nil, or_false, decide_eq_true_eq, u8n]
  have e : ∀ k : Nat, k < 256 → (UInt8.ofNat k).toNat = k := fun k hk => by rw [UInt8.toNat_ofNat']; omega
  have e0 : (48 : UInt8).toNat = 48 ∧ (49 : UInt8).toNat = 49 ∧ (50 : UInt8).toNat = 50 ∧ (51 : UInt8).toNat = 51 ∧ (52 : UInt8).toNat = 52 ∧ (53 : UInt8).toNat = 53 ∧ (54 : UInt8).toNat = 54 ∧ (55 : UInt8).toNat = 55 ∧ (56 : UInt8).toNat = 56 ∧ (57 : UInt8).toNat = 57 := ⟨rfl, rfl, rfl, rfl, rfl, rfl, rfl, rfl, rfl, rfl⟩
  omega
def dgP : Nat → List UInt8 → List UInt8 × List UInt8
  | 0, l => ([], l)
  | _ + 1, [] => ([], [])
  | k + 1, c :: l => if isD c = true then (c :: (dgP k l).1, (dgP k l).2) else ([], c :: l)
theorem dgP_app : ∀ (k : Nat) (l : List UInt8), l = (dgP k l).1 ++ (dgP k l).2
  | 0, l => rfl
  | _ + 1, [] => rfl
  | k + 1, c :: l => by
    rw [dgP]
    split
    · show c :: l = c :: ((dgP k l).1 ++ (dgP k l).2)
      rw [← dgP_app k l]
    · rfl
theorem dgP_d : ∀ (k : Nat) (l : List UInt8), (∀ c ∈ (dgP k l).1, isD c = true) ∧ (dgP k l).1.length ≤ k
  | 0, l => ⟨fun c hc => (by cases hc), by simp [dgP]⟩
  | _ + 1, [] => ⟨fun c hc => (by cases hc), by simp [dgP]⟩
  | k + 1, c :: l => by
    obtain ⟨a, b⟩ := dgP_d k l
    rw [dgP]
    split
    · rename_i h
      refine ⟨fun x hx => ?_, by show (c :: (dgP k l).1).length ≤ k + 1; simp; exact b⟩
      rcases List.mem_cons.1 hx with rfl | hx
      · exact h
      · exact a x hx
    · exact ⟨fun c hc => (by cases hc), by simp⟩
theorem dgP_L : ∀ (k : Nat) (l : List UInt8) (n : Nat), dgL k l n = (dgV (dgP k l).1 n, (dgP k l).2)
  | 0, l, n => by rw [dgL, dgP]; rfl
  | _ + 1, [], n => rfl
  | k + 1, c :: l, n => by
    rw [dgL, dgP]
    by_cases h : isD c = true
    · rw [if_pos h, if_pos h, dgP_L k l]; rfl
    · rw [if_neg h, if_neg h]; rfl
def nmP (zero : Bool) (most : Nat) : List UInt8 → Option (List UInt8 × List UInt8)
  | [] => none
  | c :: l => if isD c = true then (if c = 48 then (if zero = true then some ([48], l) else none) else some (dgP most (c :: l))) else none
theorem nm_P (zero : Bool) (most : Nat) (l : List UInt8) : nmL zero most l = (nmP zero most l).map fun p => (dgV p.1 0, p.2) := by
  cases l with
  | nil => rfl
  | cons c l =>
    rw [nmL, nmP]
    by_cases h : isD c = true
    · rw [if_pos h, if_pos h]
      by_cases h2 : c = 48
      · rw [if_pos h2, if_pos h2]
        cases zero <;> rfl
      · rw [if_neg h2, if_neg h2, dgP_L]; rfl
    · rw [if_neg h, if_neg h]; rfl
theorem nmP_ok {zero : Bool} {most : Nat} {l d r : List UInt8} (h : nmP zero most l = some (d, r)) (hm : 0 < most) : l = d ++ r ∧ (∀ c ∈ d, isD c = true) ∧ d.length ≤ most ∧ d ≠ [] := by
  cases l with
  | nil => cases h
  | cons c l =>
    rw [nmP] at h
    split at h
    · rename_i hd
      split at h
      · rename_i h2
        split at h
        · cases h
          refine ⟨by rw [h2]; rfl, fun x hx => by rw [List.mem_singleton.1 hx]; decide, by simp; omega, by simp⟩
        · cases h
      · have e := Option.some.inj h
        have a := dgP_app most (c :: l)
        have b := dgP_d most (c :: l)
        rw [e] at a b
        refine ⟨a, b.1, b.2, fun e2 => ?_⟩
        obtain ⟨m, rfl⟩ : ∃ m, most = m + 1 := ⟨most - 1, by omega⟩
        rw [dgP, if_pos hd] at e
        rw [e2] at e
        cases e
    · cases h
theorem dgV_lt : ∀ (d : List UInt8) (n k : Nat), (∀ c ∈ d, isD c = true) → n < 10 ^ k → dgV d n < 10 ^ (k + d.length)
  | [], n, k, _, h => h
  | c :: d, n, k, hd, h => by
    have hc : c.toNat ≤ 57 := by
      have := hd c (by simp)
      unfold isD at this
      exact (of_decide_eq_true this).2
    have e : 10 ^ (k + 1) = 10 ^ k * 10 := Nat.pow_succ 10 _
    have := dgV_lt d (n * 10 + (c.toNat - 48)) (k + 1) (fun x hx => hd x (by simp [hx])) (by omega)
    rw [List.length_cons, show k + (d.length + 1) = k + 1 + d.length from by omega]
    exact this
theorem ext_suf {L l d r : List UInt8} (h : l <:+ L) (e : l = d ++ r) : bs d = (bs L).extract (po L l).toNat (po L r).toNat := by
  apply ba_ext
  rw [Lib.extract_data, bs_data, bs_data]
  obtain ⟨p, rfl⟩ := h
  subst e
  unfold po
  rw [Int.toNat_natCast, Int.toNat_natCast]
  simp only [List.length_append]
  rw [show p.length + (d.length + r.length) - (d.length + r.length) = p.length from by omega, show p.length + (d.length + r.length) - r.length - p.length = d.length from by omega, List.drop_left, List.take_left]
def pB (L l : List UInt8) : AB := .box 98 [.lit (.string (bs L)), .lit (.int .i64 (po L l))] false
section
variable {n : Nat} {L l : List UInt8}
theorem blank_c (hL : L.length ≤ 1000) (h : l <:+ L) : runL n 69 [.ptr 0 0] [pB L l] = some (.tup [], [(0, pB L (skL l))]) := by
  have hs := bs_size L
  obtain ⟨ex, t, h1, h2⟩ := loopG_Q (β := List UInt8) (P := Tryz.prog) (O := tab n) (m := 1) (N := 31) (lives := livesOf 69) (r := 0) (C := lbk_C0) (M := l.length) (enc := fun _ b => lbk_h0 ⟨bs L, po L l⟩ (po L b))
    (fun k b => b <:+ L ∧ skL b = skL l ∧ k + b.length = l.length) (fun ex t => ex = .exit 0 ∧ t = lbk_o0a ⟨bs L, po L l⟩ (po L (skL l))) l ⟨h, rfl, by omega⟩ (by have := h.length_le; omega)
    (fun k b hk hI => by
      obtain ⟨i1, i2, i3⟩ := hI
      cases b with
      | nil => simp at i3; omega
      | cons c b =>
        obtain ⟨p1, p2⟩ := po_lt i1
        have p3 := po_rg L (c :: b)
        by_cases hc : c = 32
        · have R := lbk_r0_1 (n := n) (a0 := ⟨bs L, po L l⟩) (i_0 := po L (c :: b)) (b3 := c) (by show _ < ((bs L).size : Int); omega) (po_get i1) (by omega) (by rw [hc]; rfl) ⟨by omega, by omega⟩
          rw [p2] at R
          refine .inl ⟨b, R, suf_tl i1, ?_, by simp at i3; omega⟩
          rw [← i2, hc, skL_b]
        · refine .inr ⟨_, _, by simp, lbk_x0_1 (n := n) (a0 := ⟨bs L, po L l⟩) (i_0 := po L (c :: b)) (b3 := c) (by show _ < ((bs L).size : Int); omega) (po_get i1) (by omega) (fun e => hc (u8n.2 (by have e2 : (32 : UInt8).toNat = 32 := rfl; omega))), rfl, ?_⟩
          rw [← i2, skL_ne hc])
    (fun b hI => by
      obtain ⟨i1, i2, i3⟩ := hI
      have : b = [] := List.eq_nil_of_length_eq_zero (by omega)
      subst this
      refine ⟨_, _, by simp, lbk_x0_2 (n := n) (a0 := ⟨bs L, po L l⟩) (i_0 := po L []) (by show ¬ po L [] < ((bs L).size : Int); rw [po_nil]; omega), rfl, ?_⟩
      rw [← i2]; rfl)
  obtain ⟨rfl, rfl⟩ := h2
  exact lbk_f1 (a0 := ⟨bs L, po L l⟩) h1
theorem is_c (hL : L.length ≤ 1000) (h : l <:+ L) (set : List UInt8) : runL (n + 3) 70 [.ptr 0 0, .lit (.string (bs set))] [pB L l] = some (.lit (.bool (isIn set l)), [(0, pB L l)]) := by
  have hs := bs_size L
  cases l with
  | nil => exact lis_f2 (a0 := ⟨bs L, po L []⟩) (by show ¬ po L [] < ((bs L).size : Int); rw [po_nil]; omega)
  | cons c r =>
    obtain ⟨p1, p2⟩ := po_lt h
    have p3 := po_rg L (c :: r)
    have hc := c.toNat_lt
    have K : (oIB) [.lit (.string (bs set)), .lit (.int .u8 (c.toNat : Int))] = some (.lit (.int .i64 (Lib.indexByte set c))) := by
      unfold oIB
      show (if 0 ≤ (c.toNat : Int) ∧ (c.toNat : Int) < 256 then some (AV.lit (.int .i64 (Lib.indexByte (bs set).data.toList (c.toNat : Int).toNat.toUInt8))) else none) = _
      rw [if_pos ⟨by omega, by omega⟩, bs_data, Int.toNat_natCast]
      have e : c.toNat.toUInt8 = c := u8n.2 (by show (UInt8.ofNat c.toNat).toNat = _; rw [UInt8.toNat_ofNat']; omega)
      rw [e]
    have R := lis_f1 (n := n) (a0 := ⟨bs L, po L (c :: r)⟩) (a1 := bs set) (b := c) (by show po L (c :: r) < ((bs L).size : Int); omega) (po_get h) (by show 0 ≤ po L (c :: r); omega) K
    rw [← Lib.contains_iff_indexByte] at R
    exact R
theorem isIn_D (l : List UInt8) : isIn D10 l = true ↔ ∃ c r, l = c :: r ∧ isD c = true := by
  cases l with
  | nil => exact ⟨fun h => (by cases h), fun ⟨c, r, h, _⟩ => (by cases h)⟩
  | cons c r =>
    rw [isIn, d10]
    exact ⟨fun h => ⟨c, r, rfl, h⟩, fun ⟨c', r', e, h⟩ => by cases e; exact h⟩
theorem isIn_1 {c d : UInt8} {r : List UInt8} : isIn [d] (c :: r) = decide (c = d) := by
  rw [isIn, Bool.eq_iff_iff]
  simp
theorem number_l (hL : L.length ≤ 1000) (h : l <:+ L) (most : Nat) (hm : most ≤ 1000) :
    loopG Tryz.prog (tab (n + 4)) 1 62 (livesOf 140) 7 lnb_C7 (lnb_h7 ⟨bs L, po L l⟩ (most : Int) (po L l)) = some (.exit 0, lnb_o7a ⟨bs L, po L l⟩ (po L (dgP most l).2)) := by
  obtain ⟨ex, t, h1, h2⟩ := loopG_Q (β := List UInt8) (P := Tryz.prog) (O := tab (n + 4)) (m := 1) (N := 62) (lives := livesOf 140) (r := 7) (C := lnb_C7) (M := most) (enc := fun _ b => lnb_h7 ⟨bs L, po L l⟩ (most : Int) (po L b))
    (fun k b => b <:+ L ∧ (dgP (most - k) b).2 = (dgP most l).2 ∧ k + b.length = l.length ∧ k ≤ most) (fun ex t => ex = .exit 0 ∧ t = lnb_o7a ⟨bs L, po L l⟩ (po L (dgP most l).2)) l ⟨h, by rw [Nat.sub_zero], by omega, by omega⟩ (by omega)
    (fun k b hk hI => by
      obtain ⟨i1, i2, i3, i4⟩ := hI
      have K := is_c (n := n) hL i1 D10
      have hl := h.length_le
      have hpo : po L b - po L l = k := by have := i1.length_le; unfold po; omega
      have p3 := po_rg L b
      by_cases c : isIn D10 b = true
      · obtain ⟨d, r, rfl, hd⟩ := (isIn_D b).1 c
        rw [c] at K
        obtain ⟨p1, p2⟩ := po_lt i1
        have R := lnb_r7_1 (n := n) (a0 := ⟨bs L, po L l⟩) (a1 := (most : Int)) (i_7 := po L (d :: r)) K rfl ⟨by show _ ≤ po L (d :: r) - po L l; omega, by show po L (d :: r) - po L l ≤ _; omega⟩ (by show po L (d :: r) - po L l < _; omega) ⟨by omega, by omega⟩
        rw [p2] at R
        refine .inl ⟨r, R, suf_tl i1, ?_, by simp at i3; omega, by omega⟩
        rw [← i2, show most - k = (most - (k + 1)) + 1 from by omega, dgP, if_pos hd]
      · rw [Bool.eq_false_iff.2 c] at K
        refine .inr ⟨_, _, by simp, lnb_x7_2 (n := n) (a0 := ⟨bs L, po L l⟩) (a1 := (most : Int)) (i_7 := po L b) K rfl, rfl, ?_⟩
        rw [← i2, show most - k = (most - (k + 1)) + 1 from by omega]
        cases b with
        | nil => rfl
        | cons d r =>
          have hd : ¬ isD d = true := fun e => c ((isIn_D _).2 ⟨d, r, rfl, e⟩)
          rw [dgP, if_neg hd])
    (fun b hI => by
      obtain ⟨i1, i2, i3, i4⟩ := hI
      have K := is_c (n := n) hL i1 D10
      have hl := h.length_le
      have hpo : po L b - po L l = most := by have := i1.length_le; unfold po; omega
      rw [Nat.sub_self] at i2
      have e : b = (dgP most l).2 := i2
      by_cases c : isIn D10 b = true
      · rw [c] at K
        exact ⟨_, _, by simp, lnb_x7_1 (n := n) (a0 := ⟨bs L, po L l⟩) (a1 := (most : Int)) (i_7 := po L b) K rfl ⟨by show _ ≤ po L b - po L l; omega, by show po L b - po L l ≤ _; omega⟩ (by show ¬ po L b - po L l < _; omega), rfl, by rw [← e]⟩
      · rw [Bool.eq_false_iff.2 c] at K
        exact ⟨_, _, by simp, lnb_x7_2 (n := n) (a0 := ⟨bs L, po L l⟩) (a1 := (most : Int)) (i_7 := po L b) K rfl, rfl, by rw [← e]⟩)
  obtain ⟨rfl, rfl⟩ := h2
  exact h1
theorem number_n (hL : L.length ≤ 1000) (h : l <:+ L) {most : Nat} {zero : Bool} (hm : most ≤ 1000) (hn : nmP zero most l = none) :
    runL (n + 4) 140 [.ptr 0 0, .lit (.int .i64 (most : Int)), .lit (.bool zero)] [pB L l] = some (.tup [.lit (.string (bs [])), .lit (.bool false)], [(0, pB L l)]) := by
  have K := is_c (n := n) hL h D10
  by_cases c : isIn D10 l = true
  · obtain ⟨d, r, rfl, hd⟩ := (isIn_D l).1 c
    rw [c] at K
    rw [nmP, if_pos hd] at hn
    by_cases h2 : d = 48
    · rw [if_pos h2] at hn
      cases zero with
      | true => cases hn
      | false =>
        have K2 := is_c (n := n) hL h [48]
        rw [isIn_1, decide_eq_true h2] at K2
        exact lnb_f2 (a0 := ⟨bs L, po L (d :: r)⟩) K rfl rfl K2 rfl
    · rw [if_neg h2] at hn
      cases hn
  · rw [Bool.eq_false_iff.2 c] at K
    exact lnb_f1 (a0 := ⟨bs L, po L l⟩) K rfl
theorem number_s (hL : L.length ≤ 1000) (h : l <:+ L) {most : Nat} {zero : Bool} {d r : List UInt8} (hm : most ≤ 1000) (h0 : 0 < most) (hn : nmP zero most l = some (d, r)) :
    runL (n + 4) 140 [.ptr 0 0, .lit (.int .i64 (most : Int)), .lit (.bool zero)] [pB L l] = some (.tup [.lit (.string (bs d)), .lit (.bool true)], [(0, pB L r)]) := by
  have K := is_c (n := n) hL h D10
  have K2 := is_c (n := n) hL h [48]
  have hs := bs_size L
  obtain ⟨e1, e2, e3, e4⟩ := nmP_ok hn h0
  cases l with
  | nil => cases hn
  | cons c l =>
    rw [nmP] at hn
    have hd : isD c = true := by
      false_or_by_contra
      rename_i hd
      rw [if_neg hd] at hn
      cases hn
    rw [if_pos hd] at hn
    rw [(isIn_D _).2 ⟨c, l, rfl, hd⟩] at K
    obtain ⟨p1, p2⟩ := po_lt h
    have p3 := po_rg L (c :: l)
    have p4 := po_rg L r
    rw [isIn_1] at K2
    by_cases hc : c = 48
    · rw [if_pos hc] at hn
      rw [decide_eq_true hc] at K2
      cases zero with
      | false => cases hn
      | true =>
        obtain ⟨h1, h2⟩ := Prod.mk.inj (Option.some.inj hn)
        rw [← h1, ← h2]
        have R := lnb_f5 (n := n) (a0 := ⟨bs L, po L (c :: l)⟩) (a1 := (most : Int)) (a2 := true) K rfl rfl K2 rfl ⟨by omega, by omega⟩
        rw [p2] at R
        exact R
    · rw [if_neg hc] at hn
      rw [decide_eq_false hc] at K2
      have hn2 := Option.some.inj hn
      have G := number_l (n := n) hL h most hm
      rw [hn2] at G
      have hr : po L (c :: l) ≤ po L r := by
        have := congrArg List.length e1
        rw [List.length_append] at this
        unfold po
        omega
      have X := ext_suf h e1
      cases zero with
      | false => exact lnb_f4 (n := n) (a0 := ⟨bs L, po L (c :: l)⟩) (a1 := (most : Int)) (a2 := false) K rfl rfl K2 rfl K2 rfl G ⟨by show 0 ≤ po L _; omega, hr, by show _ ≤ ((bs L).size : Int); omega⟩ X
      | true => exact lnb_f6 (n := n) (a0 := ⟨bs L, po L (c :: l)⟩) (a1 := (most : Int)) (a2 := true) K rfl rfl K2 rfl G ⟨by show 0 ≤ po L _; omega, hr, by show _ ≤ ((bs L).size : Int); omega⟩ X
theorem oU_k {z : Int} {k : Nat} (hz : z = k) (h : k < 18446744073709551616) : (oU fun k => natA (lmb k)) [.lit (.int .u64 z)] = some (natA (lmb k)) := by
  subst hz
  unfold oU
  show (if 0 ≤ (k : Int) ∧ (k : Int) < 18446744073709551616 then some (natA (lmb (k : Int).toNat)) else none) = _
  rw [if_pos ⟨by omega, by omega⟩, Int.toNat_natCast]
theorem lmb_few {k m : Nat} (h : k < 10 ^ m) (hm : m ≤ 400) : (lmb k).length ≤ 100 := by
  have h2 : k < 4294967296 ^ 100 := Nat.lt_of_lt_of_le h (Nat.le_trans (Nat.pow_le_pow_right (by omega) hm) (by decide +kernel))
  exact lmb_len_le h2
theorem few_l {k : Nat} (h : (lmb k).length ≤ 1000) : fewN (lmb k) = true := Nat.ble_eq_true_of_le (by omega)
theorem k_mul {a b : Nat} (ha : (lmb a).length ≤ 1000) (hb : (lmb b).length ≤ 1000) : (oN2 fun x y => natA (lmb (val x * val y))) [natA (lmb a), natA (lmb b)] = some (natA (lmb (a * b))) := by
  rw [oN2_raw (lim_lmb a) (lim_lmb b) (few_l ha) (few_l hb), val_lmb, val_lmb]
theorem k_add {a b : Nat} (ha : (lmb a).length ≤ 1000) (hb : (lmb b).length ≤ 1000) : (oN2 fun x y => natA (lmb (val x + val y))) [natA (lmb a), natA (lmb b)] = some (natA (lmb (a + b))) := by
  rw [oN2_raw (lim_lmb a) (lim_lmb b) (few_l ha) (few_l hb), val_lmb, val_lmb]
theorem foldI_l {α β : Type} (f : β → α → β) : ∀ (R : List α) (i : Nat) (o : β), foldI (fun _ o x => f o x) i o R = R.foldl f o
  | [], _, _ => rfl
  | x :: R, i, o => by rw [foldI, foldI_l f R]; rfl
theorem isD_n {c : UInt8} (h : isD c = true) : 48 ≤ c.toNat ∧ c.toNat ≤ 57 := of_decide_eq_true h
theorem natOf_c {d : List UInt8} (hd : ∀ c ∈ d, isD c = true) (hl : d.length ≤ 300) : run (n + 2) 141 [.lit (.string (bs d))] = some (natA (lmb (dgV d 0))) := by
  have hb : byL (bs d) = d.map fun c => (c.toNat : Int) := by unfold byL; rw [bs_data]
  have K1 : (oU fun k => natA (lmb k)) [.lit (.int .u64 10)] = some (natA (lmb 10)) := oU_k (by omega) (by omega)
  have h10 : (lmb 10).length ≤ 1000 := by decide +kernel
  have L1 := (loopG_I (O := tab (n + 2)) (P := Tryz.prog) (m := 0) (N := 25) (lives := livesOf 141) (r := 4) (C := lno_C4) (L := d) (f := fun _ (b : Nat) (c : UInt8) => b * 10 + (c.toNat - 48)) (enc := fun i b => lno_h4 (bs d) (lmb b) (lmb 10) i) (exN := .exit 0) (out := fun b => lno_o4a (lmb b)) (Inv := fun i b => b < 10 ^ i) 0 (by simp) (by omega) (by simp)
    (fun i c b hi hI => by
      have hlt := (List.getElem?_eq_some_iff.1 hi).1
      obtain ⟨c0, c1⟩ := isD_n (hd c (List.mem_of_getElem? hi))
      have f1 := lmb_few hI (by omega)
      have e : 10 ^ (i + 1) = 10 ^ i * 10 := Nat.pow_succ 10 _
      have f2 := lmb_few (k := b * 10) (m := i + 1) (by omega) (by omega)
      have f3 := lmb_few (k := c.toNat - 48) (m := 2) (by omega) (by omega)
      have w1 : IntKind.u8.wrap ((c.toNat : Int) - 48) = (c.toNat : Int) - 48 := by simp [IntKind.wrap, IntKind.signed, IntKind.bits]; omega
      have w2 : IntKind.u64.wrap ((c.toNat : Int) - 48) = (c.toNat : Int) - 48 := by rw [wrapU64]; omega
      have K6 : (oU fun k => natA (lmb k)) [.lit (.int .u64 ((c.toNat : Int) - 48))] = some (natA (lmb (c.toNat - 48))) := oU_k (by omega) (by omega)
      exact ⟨lno_r4_1 (n := n) (by rw [hb, List.length_map]; omega) (by rw [hb, List.getElem?_map, hi]; rfl) (k_mul (by omega) h10) w1 w2 K6 (k_add (by omega) (by omega)) ⟨by omega, by omega⟩, by omega⟩)
    (fun b hI => lno_x4_1 (by rw [hb, List.length_map]; omega))).1
  rw [foldI_l (fun (b : Nat) (c : UInt8) => b * 10 + (c.toNat - 48))] at L1
  exact lno_f1 K1 L1
theorem decF : ∀ (d : List UInt8) (a : Nat), (∀ c ∈ d, isD c = true) → Lib.decFrom a d = some (dgV d a)
  | [], _, _ => rfl
  | c :: d, a, h => by
    have hc := isD_n (h c (by simp))
    have e : Lib.digitVal c = some (c.toNat - 48) := if_pos hc
    rw [Lib.decFrom, e]
    exact decF d _ fun x hx => h x (by simp [hx])
theorem atoi_d {d : List UInt8} (h : ∀ c ∈ d, isD c = true) (h0 : d ≠ []) : Lib.atoi d = some (dgV d 0 : Nat) := by
  cases d with
  | nil => exact absurd rfl h0
  | cons c d =>
    have hc := h c (by simp)
    have e1 : (c == 45) = false := by rw [beq_eq_false_iff_ne]; exact isD_ne hc (by decide)
    have e2 : (c == 43) = false := by rw [beq_eq_false_iff_ne]; exact isD_ne hc (by decide)
    rw [Lib.atoi, e1, e2]
    have e3 : Lib.decNat (c :: d) = some (dgV (c :: d) 0) := by
      unfold Lib.decNat
      exact decF (c :: d) 0 h
    simp [e3]
end
end Go.Proofs.YtjpoanaoaeaneaaGreatDoor
set_option linter.all false
set_option maxRecDepth 100000
set_option maxHeartbeats 6400000
namespace Go.Proofs.YtjpoanaoaeaneaaGreatDoor
open Go.RowKit
section
variable {a0 : Treader} {n : Nat} {b : UInt8}
theorem rpk_f1 (C1 : a0.at_ < (a0.s.size : Int)) (E2 : a0.s[a0.at_.toNat]? = some b) (Z2 : 0 ≤ a0.at_) :
    runL n 78 [.ptr 0 0] [.box 108 [.lit (.string a0.s), .lit (.int .i64 (a0.at_)), .lit (.bool a0.bad)] false] = some (.lit (.int .u8 (b.toNat : Int)), [(0, .box 108 [.lit (.string a0.s), .lit (.int .i64 (a0.at_)), .lit (.bool a0.bad)] false)]) := by
  have EG2 : ∀ h, (a0.s)[a0.at_.toNat]'h = b := fun h => Option.some.inj ((getElem?_pos (a0.s) (a0.at_.toNat) h).symm.trans E2)
  unfold runL fnL
  simp +decide [EG2, Tryz.f78, C1, E2, Z2]
theorem rpk_f2 (C1 : ¬ a0.at_ < (a0.s.size : Int)) :
    runL n 78 [.ptr 0 0] [.box 108 [.lit (.string a0.s), .lit (.int .i64 (a0.at_)), .lit (.bool a0.bad)] false] = some (.lit (.int .u8 0), [(0, .box 108 [.lit (.string a0.s), .lit (.int .i64 (a0.at_)), .lit (.bool a0.bad)] false)]) := by
  unfold runL fnL
  simp +decide [Tryz.f78, C1]
end
noncomputable def rbk_C0 : Code := (loopsOf (bodyOf Tryz.f77)).getD 0 .skip
def rbk_h0 (a0 : Treader) (i_0 : Int) (d_0 : Bool) : St :=
  ⟨[(0, .ptr 0 0)],
   [(0, some (.box 108 [.lit (.string a0.s), .lit (.int .i64 i_0), .lit (.bool d_0)] false))], 1⟩
def rbk_o0a (a0 : Treader) (z3 : Int) (d5 : Bool) : St :=
  ⟨[],
   [(0, some (.box 108 [.lit (.string a0.s), .lit (.int .i64 z3), .lit (.bool d5)] false))], 1⟩
section
variable {r3 : Int} {d5 : Bool} {a0 : Treader} {z3 : Int} {d_0 : Bool} {n : Nat} {i_0 : Int}
theorem rbk_r0_1 (K1 : runL n 78 [.ptr 0 0] [.box 108 [.lit (.string a0.s), .lit (.int .i64 i_0), .lit (.bool d_0)] false] = some (.lit (.int .u8 r3), [(0, .box 108 [.lit (.string a0.s), .lit (.int .i64 z3), .lit (.bool d5)] false)])) (C2 : r3 = 32) (W3 : InI (z3 + 1)) :
    Cont 1 (exec Tryz.prog (tab (n + 1)) 1 12 (livesOf 77) big rbk_C0) (livesOf 77 0) (rbk_h0 a0 i_0 d_0) (rbk_h0 a0 (z3 + 1) d5) := by
  have C2_ : (r3 == 32) = true := by rw [C2]; simp
  have C2_n : (r3 != 32) = false := by rw [C2]; simp
  have W3_ : IntKind.i64.wrap (z3 + 1) = z3 + 1 := wr64 W3.1 W3.2
  unfold Cont
  simp +decide [rbk_h0, loopsOf, Tryz.f77, rbk_C0, K1, C2_, C2_n, W3_]
theorem rbk_x0_1 (K1 : runL n 78 [.ptr 0 0] [.box 108 [.lit (.string a0.s), .lit (.int .i64 i_0), .lit (.bool d_0)] false] = some (.lit (.int .u8 r3), [(0, .box 108 [.lit (.string a0.s), .lit (.int .i64 z3), .lit (.bool d5)] false)])) (C2 : ¬ r3 = 32) :
    Leave 1 (exec Tryz.prog (tab (n + 1)) 1 12 (livesOf 77) big rbk_C0) (livesOf 77 (outOf 0)) (rbk_h0 a0 i_0 d_0) (.exit 0) (rbk_o0a a0 z3 d5) := by
  have C2_ : (r3 == 32) = false := by simpa using C2
  have C2_n : (r3 != 32) = true := by simpa using C2
  unfold Leave
  simp +decide [rbk_h0, loopsOf, Tryz.f77, rbk_o0a, rbk_C0, K1, C2_, C2_n]
theorem rbk_f1 (L1 : loopG Tryz.prog (tab (n + 1)) 1 12 (livesOf 77) 0 rbk_C0 (rbk_h0 a0 a0.at_ a0.bad) = some (.exit 0, rbk_o0a a0 z3 d5)) :
    runL (n + 1) 77 [.ptr 0 0] [.box 108 [.lit (.string a0.s), .lit (.int .i64 (a0.at_)), .lit (.bool a0.bad)] false] = some (.tup [], [(0, .box 108 [.lit (.string a0.s), .lit (.int .i64 z3), .lit (.bool d5)] false)]) := by
  unfold runL fnL
  simp +decide [Tryz.f77]
  rw [loopX_G (C' := rbk_C0) (e := (rbk_h0 a0 a0.at_ a0.bad)) ?_ ?_, L1]
  rotate_left
  · kernel_rfl
  · simp +decide [rbk_h0]
  simp +decide [rbk_o0a]
end
end Go.Proofs.YtjpoanaoaeaneaaGreatDoor
