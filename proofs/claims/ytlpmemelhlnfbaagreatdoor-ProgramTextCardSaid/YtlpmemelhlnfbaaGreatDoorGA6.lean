/- Programs with numbers that need not be canonical. Strings in the walks. -/
import Derived.Test.YtlpmemelhlnfbaaGreatDoorGA5
set_option linter.all false
set_option linter.all false
namespace Go.Proofs.YtlpmemelhlnfbaaGreatDoor
open Go.RowKit
structure TProgramR where
  Vars : Int
  Rows : List FormR
  Objective : FormR
@[simp] def programRC (g : TProgramR) : List AV := [.lit (.int .i64 (g.Vars)), .sl 4 (g.Rows.map formRC), .sl 4 (g.Objective.1.map termRC), .lit (.bool g.Objective.2.s), natA g.Objective.2.l1, natA g.Objective.2.l2]
@[simp] def programRV (g : TProgramR) : AV := .agg [.lit (.int .i64 (g.Vars)), .sl 4 (g.Rows.map formRC), .sl 4 (g.Objective.1.map termRC), .lit (.bool g.Objective.2.s), natA g.Objective.2.l1, natA g.Objective.2.l2]
@[simp] theorem okE_programRC (l : List TProgramR) : okEls 6 (l.map programRC) = true := okEls_map (fun x => by simp) l
end Go.Proofs.YtlpmemelhlnfbaaGreatDoor
set_option linter.all false
namespace Go.Proofs.YtlpmemelhlnfbaaGreatDoor
open Go.RowKit
theorem ba_loop (a : ByteArray) : ∀ (k i : Nat) (r : List UInt8), k + i = a.size → ByteArray.toList.loop a i r = r.reverse ++ a.data.toList.drop i
  | 0, i, r, h => by
    rw [ByteArray.toList.loop, if_neg (by omega), List.drop_eq_nil_of_le (by have e : a.data.toList.length = a.size := Array.length_toList; omega), List.append_nil]
  | k + 1, i, r, h => by
    have hi : i < a.data.toList.length := by have e : a.data.toList.length = a.size := Array.length_toList; omega
    rw [ByteArray.toList.loop, if_pos (by omega), ba_loop a k (i + 1) _ (by omega), List.drop_eq_getElem_cons hi]
    have e : a.get! i = a.data.toList[i] := by
      unfold ByteArray.get!
      rw [Array.getElem_toList]
      exact getElem!_pos a.data i (by simpa using hi)
    rw [e]
    simp
theorem ba_toList (a : ByteArray) : a.toList = a.data.toList := by
  unfold ByteArray.toList
  rw [ba_loop a a.size 0 [] (by omega)]
  simp
theorem ba_ext {a b : ByteArray} (h : a.data.toList = b.data.toList) : a = b := by
  obtain ⟨x⟩ := a
  obtain ⟨y⟩ := b
  congr 1
  exact Array.toList_inj.1 h
theorem ba_inj {a b : ByteArray} (h : a.toList = b.toList) : a = b := ba_ext (by rw [← ba_toList, ← ba_toList, h])
/-- a string of one byte -/
def oneB (z : Int) : ByteArray := ⟨#[UInt8.ofNat z.toNat]⟩
theorem strOf_one {z : Int} (h0 : 0 ≤ z) (h1 : z < 256) : strOf [[.lit (.int .u8 z)]] = some (oneB z) := by
  unfold strOf
  simp only [bytesL]
  rw [if_pos ⟨h0, h1⟩]
  rfl
/-- '+' of strings -/
theorem cat_r {a b x : ByteArray} (h : a.size + b.size ≤ 9000000000000000000) (d : x = a ++ b) : (if ((a.size + b.size : Nat) : Int) ≤ 9223372036854775807 then some (Value.string (a ++ b)) else none) = some (Value.string x) := by
  rw [if_pos (by omega), d]
theorem cat_q {a b x : ByteArray} (h : a.size + b.size ≤ 9000000000000000000) (d : x = a ++ b) : (if ((a.size : Nat) : Int) + ((b.size : Nat) : Int) ≤ 9223372036854775807 then some (Value.string (a ++ b)) else none) = some (Value.string x) := by
  rw [if_pos (by omega), d]
theorem set_strC (l : List ByteArray) (i : Nat) (a : ByteArray) : (l.map strC).set i [.lit (.string a)] = (l.set i a).map strC := by
  rw [List.map_set]; rfl
/-- a string of these bytes -/
def bs (l : List UInt8) : ByteArray := ⟨l.toArray⟩
theorem bs_data (l : List UInt8) : (bs l).data.toList = l := by simp [bs]
theorem bs_size (l : List UInt8) : (bs l).size = l.length := by
  show (bs l).data.size = _
  simp [bs]
theorem bs_app (l m : List UInt8) : bs l ++ bs m = bs (l ++ m) := ba_ext (by simp [bs])
theorem bs_inj {l m : List UInt8} (h : bs l = bs m) : l = m := by
  have := congrArg (fun a : ByteArray => a.data.toList) h
  simpa [bs] using this
end Go.Proofs.YtlpmemelhlnfbaaGreatDoor
