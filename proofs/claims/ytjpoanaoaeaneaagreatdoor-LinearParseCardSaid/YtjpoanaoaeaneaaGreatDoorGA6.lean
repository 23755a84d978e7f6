import Derived.Test.YtjpoanaoaeaneaaGreatDoorGA5
import Derived.Lib.ItoaNum
import Derived.Lib.Repeat
import Derived.Lib.Join
set_option linter.all false
namespace Go.Proofs.YtjpoanaoaeaneaaGreatDoor
open Go.RowKit
theorem ba_ext {a b : ByteArray} (h : a.data.toList = b.data.toList) : a = b := by
  obtain ⟨x⟩ := a
  obtain ⟨y⟩ := b
  congr 1
  exact Array.toList_inj.1 h
def bs (l : List UInt8) : ByteArray := ⟨l.toArray⟩
theorem bs_data (l : List UInt8) : (bs l).data.toList = l := by simp [bs]
theorem bs_size (l : List UInt8) : (bs l).size = l.length := by
  show (bs l).data.size = _
  simp [bs]
theorem bs_self (a : ByteArray) : bs a.data.toList = a := ba_ext (bs_data _)
def byL (s : ByteArray) : List Int := s.data.toList.map fun b => (b.toNat : Int)
theorem strEls_by (s : ByteArray) : strEls s = (byL s).map intU8C := by
  unfold strEls byL
  rw [List.map_map]
  rfl
end Go.Proofs.YtjpoanaoaeaneaaGreatDoor
set_option linter.all false
namespace Go.Proofs.YtjpoanaoaeaneaaGreatDoor
open Go.RowKit
open Lib (decDigits)
end Go.Proofs.YtjpoanaoaeaneaaGreatDoor
set_option linter.all false
set_option maxRecDepth 100000
set_option maxHeartbeats 6400000
namespace Go.Proofs.YtjpoanaoaeaneaaGreatDoor
open Go.RowKit
end Go.Proofs.YtjpoanaoaeaneaaGreatDoor
set_option linter.all false
set_option maxRecDepth 100000
set_option maxHeartbeats 6400000
namespace Go.Proofs.YtjpoanaoaeaneaaGreatDoor
open Go.RowKit
end Go.Proofs.YtjpoanaoaeaneaaGreatDoor
set_option linter.all false
set_option maxRecDepth 100000
set_option maxHeartbeats 6400000
namespace Go.Proofs.YtjpoanaoaeaneaaGreatDoor
open Go.RowKit
end Go.Proofs.YtjpoanaoaeaneaaGreatDoor
set_option linter.all false
set_option maxRecDepth 100000
set_option maxHeartbeats 6400000
namespace Go.Proofs.YtjpoanaoaeaneaaGreatDoor
open Go.RowKit
theorem nz_same {n : Nat} {F : List (Int × Rat)} {v : Int} {q : Rat} (hq : H q ≤ 17179869184) (h0 : q = 0) :
    runL n 173 [.own 0 F.length, .agg [.lit (.int .i64 v), .lit (.bool (rawQ q).s), natA (rawQ q).l1, natA (rawQ q).l2]] [.row 82 4 (F.map termC) 0] = some (.own 0 F.length, [(0, .row 82 4 (F.map termC) 0)]) := by
  unfold runL fnL
  have hs := r_sign (p := q) hq
  have e2 : (sgR q == 0) = true := by rw [sgR_eq_zero.2 h0]; rfl
  simp +decide [Tryz.f173, hs, e2]
theorem nz_new {n : Nat} {F : List (Int × Rat)} {v : Int} {q : Rat} (hq : H q ≤ 17179869184) (h0 : q ≠ 0) (hF : F.length ≤ 10000000) :
    runL n 173 [.own 0 F.length, .agg [.lit (.int .i64 v), .lit (.bool (rawQ q).s), natA (rawQ q).l1, natA (rawQ q).l2]] [.row 82 4 (F.map termC) 0] = some (.own 3 (F ++ [(v, q)]).length, [(3, .row 82 4 ((F ++ [(v, q)]).map termC) 0)]) := by
  unfold runL fnL
  have hs := r_sign (p := q) hq
  have e2 : (sgR q == 0) = false := by simpa using fun h => h0 (sgR_eq_zero.1 h)
  have hr : ∀ b, b ≤ 10000 → roomy (F.length + 1) b = true := fun b hb => roomy_s (by omega) hb
  simp +decide [Tryz.f173, hs, e2, hr]
def plF (v : Int) (c : Rat) (i : Nat) (b : List (Int × Rat) × Bool) (t : Int × Rat) : List (Int × Rat) × Bool :=
  if t.1 = v then (b.1 ++ put1 t.1 (t.2 + c), true) else if b.2 = false ∧ v < t.1 then (b.1 ++ (put1 v c ++ put1 t.1 t.2), true) else (b.1 ++ put1 t.1 t.2, b.2)
theorem plF_fold (v : Int) (c : Rat) : ∀ (R : List (Int × Rat)) (i : Nat) (out : List (Int × Rat)) (d : Bool), foldI (plF v c) i (out, d) R = (out ++ plO d R v c, plD d R v)
  | [], i, out, d => by simp [foldI, plO, plD]
  | t :: R, i, out, d => by
    rw [foldI, plO, plD, plF]
    split
    · rw [plF_fold]; simp [List.append_assoc]
    · split
      · rw [plF_fold]; simp [List.append_assoc]
      · rw [plF_fold]; simp [List.append_assoc]
theorem plF_len (v : Int) (c : Rat) (i : Nat) (b : List (Int × Rat) × Bool) (t : Int × Rat) : (plF v c i b t).1.length ≤ b.1.length + 2 := by
  have h1 := put1_len t.1 (t.2 + c)
  have h2 := put1_len v c
  have h3 := put1_len t.1 t.2
  unfold plF
  split
  · rw [List.length_append]; omega
  · split
    · rw [List.length_append, List.length_append]; omega
    · rw [List.length_append]; omega
end Go.Proofs.YtjpoanaoaeaneaaGreatDoor
