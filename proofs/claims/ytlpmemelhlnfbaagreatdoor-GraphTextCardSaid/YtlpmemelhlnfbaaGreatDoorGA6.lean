/- Strings in the walks. Decimal digits, plainly. Walks: relucertref15.Feed.Next, relucertref15.Feed.Number, relucertref07.Var, relucertref03.Max, relucertref07.Eval. Walks: relucertref07.plus. Walks: relucertref07.Add, relucertref07.Scale. relucertref07: nonzero, plus, Add, Scale, Var, Eval: what they return. -/
import Derived.Test.YtlpmemelhlnfbaaGreatDoorGA5
import Derived.Lib.ItoaNum
import Derived.Lib.Repeat
import Derived.Lib.Join
set_option linter.all false
set_option linter.all false
namespace Go.Proofs.YtlpmemelhlnfbaaGreatDoor
open Go.RowKit
theorem ba_loop (a : ByteArray) : ∀ (k i : Nat) (r : List UInt8), k + i = a.size → ByteArray.toList.loop a i r = r.reverse ++ a.data.toList.drop i
  | 0, i, r, h => by
    rw [ByteArray.toList.loop, if_neg (by omega), List.drop_eq_nil_of_le (by have e : a.data.toList.length = a.size := Array.length_toList; omega), List.append_nil]
  | k + 1, i, r, h => by
    have hi : i < a.data.toList.length := by have e : a.data.toList.length = a.size := Array.length_toList; omega
    rw [ByteArray.toList.loop, if_pos (by omega), ba_loop a k (i + 1) _ (by omega), List.drop_eq_getElem_cons hi]
    have e : a.get! i = a.data.toList[i] := by
      unfold ByteArray.get!
      rw [Array.getElem_toList]
      exact getElem!_pos a.data i (by simpa using hi)
    rw [e]
    simp
theorem ba_toList (a : ByteArray) : a.toList = a.data.toList := by
  unfold ByteArray.toList
  rw [ba_loop a a.size 0 [] (by omega)]
  simp
theorem ba_ext {a b : ByteArray} (h : a.data.toList = b.data.toList) : a = b := by
  obtain ⟨x⟩ := a
  obtain ⟨y⟩ := b
  congr 1
  exact Array.toList_inj.1 h
theorem ba_inj {a b : ByteArray} (h : a.toList = b.toList) : a = b := ba_ext (by rw [← ba_toList, ← ba_toList, h])
def oneB (z : Int) : ByteArray := ⟨#[UInt8.ofNat z.toNat]⟩
theorem strOf_one {z : Int} (h0 : 0 ≤ z) (h1 : z < 256) : strOf [[.lit (.int .u8 z)]] = some (oneB z) := by
  unfold strOf
  simp only [bytesL]
  rw [if_pos ⟨h0, h1⟩]
  rfl
theorem cat_r {a b x : ByteArray} (h : a.size + b.size ≤ 9000000000000000000) (d : x = a ++ b) : (if ((a.size + b.size : Nat) : Int) ≤ 9223372036854775807 then some (Value.string (a ++ b)) else none) = some (Value.string x) := by
  rw [if_pos (by omega), d]
theorem cat_q {a b x : ByteArray} (h : a.size + b.size ≤ 9000000000000000000) (d : x = a ++ b) : (if ((a.size : Nat) : Int) + ((b.size : Nat) : Int) ≤ 9223372036854775807 then some (Value.string (a ++ b)) else none) = some (Value.string x) := by
  rw [if_pos (by omega), d]
theorem set_strC (l : List ByteArray) (i : Nat) (a : ByteArray) : (l.map strC).set i [.lit (.string a)] = (l.set i a).map strC := by
  rw [List.map_set]; rfl
def bs (l : List UInt8) : ByteArray := ⟨l.toArray⟩
theorem bs_data (l : List UInt8) : (bs l).data.toList = l := by simp [bs]
theorem bs_size (l : List UInt8) : (bs l).size = l.length := by
  show (bs l).data.size = _
  simp [bs]
theorem bs_app (l m : List UInt8) : bs l ++ bs m = bs (l ++ m) := ba_ext (by simp [bs])
theorem bs_inj {l m : List UInt8} (h : bs l = bs m) : l = m := by
  have := congrArg (fun a : ByteArray => a.data.toList) h
  simpa [bs] using this
end Go.Proofs.YtlpmemelhlnfbaaGreatDoor
set_option linter.all false
namespace Go.Proofs.YtlpmemelhlnfbaaGreatDoor
open Go.RowKit
open Lib (decDigits)

def dig (k : Nat) : UInt8 := UInt8.ofNat (48 + k)
theorem dd_lt {u : Nat} (h : u < 10) : decDigits u = [dig u] := by rw [decDigits, dif_pos h]; rfl
theorem dd_ge {u : Nat} (h : ¬ u < 10) : decDigits u = decDigits (u / 10) ++ [dig (u % 10)] := by rw [decDigits, dif_neg h]; rfl
def padL : Nat → Nat → List UInt8
  | 0, _ => []
  | m + 1, r => padL m (r / 10) ++ [dig (r % 10)]
theorem padL_zero : ∀ (m : Nat), padL m 0 = List.replicate m 48
  | 0 => rfl
  | m + 1 => by rw [padL, Nat.zero_div, padL_zero m, List.replicate_succ']; rfl
theorem dd_split : ∀ (m q r : Nat), 0 < q → r < 10 ^ m → decDigits (q * 10 ^ m + r) = decDigits q ++ padL m r
  | 0, q, r, hq, hr => by
    have : r = 0 := by simpa using hr
    subst this
    rw [Nat.pow_zero, Nat.mul_one, Nat.add_zero, padL, List.append_nil]
  | m + 1, q, r, hq, hr => by
    rw [Nat.pow_succ] at hr
    have hp : 0 < 10 ^ m := Nat.pow_pos (by omega)
    have e0 : q * 10 ^ (m + 1) = (q * 10 ^ m) * 10 := by rw [Nat.pow_succ, Nat.mul_assoc]
    have hge : 1 ≤ q * 10 ^ m := Nat.mul_pos hq hp
    have h1 : ¬ q * 10 ^ (m + 1) + r < 10 := by omega
    have e1 : (q * 10 ^ (m + 1) + r) / 10 = q * 10 ^ m + r / 10 := by omega
    have e2 : (q * 10 ^ (m + 1) + r) % 10 = r % 10 := by omega
    rw [dd_ge h1, e1, e2, dd_split m q (r / 10) hq (by omega), padL, List.append_assoc]
theorem dd_pad : ∀ (m r : Nat), r < 10 ^ (m + 1) → (decDigits r).length ≤ m + 1 ∧ padL (m + 1) r = List.replicate (m + 1 - (decDigits r).length) 48 ++ decDigits r
  | 0, r, h => by
    have h1 : r < 10 := by simpa using h
    rw [dd_lt h1]
    refine ⟨by simp, ?_⟩
    rw [padL, padL, Nat.mod_eq_of_lt h1]
    simp
  | m + 1, r, h => by
    by_cases h1 : r < 10
    · rw [dd_lt h1]
      refine ⟨by simp, ?_⟩
      have e : padL (m + 1 + 1) r = padL (m + 1) (r / 10) ++ [dig (r % 10)] := rfl
      rw [e, Nat.div_eq_of_lt h1, Nat.mod_eq_of_lt h1, padL_zero]
      simp
    · rw [Nat.pow_succ] at h
      obtain ⟨i1, i2⟩ := dd_pad m (r / 10) (by omega)
      rw [dd_ge h1, List.length_append, List.length_singleton]
      refine ⟨by omega, ?_⟩
      have e : padL (m + 1 + 1) r = padL (m + 1) (r / 10) ++ [dig (r % 10)] := rfl
      rw [e, i2, ← List.append_assoc, show m + 1 + 1 - ((decDigits (r / 10)).length + 1) = m + 1 - (decDigits (r / 10)).length by omega]
theorem dd_ne (k : Nat) : decDigits k ≠ [] := by
  by_cases h : k < 10
  · rw [dd_lt h]; simp
  · rw [dd_ge h]; simp
theorem dd_pos (k : Nat) : 0 < (decDigits k).length := List.length_pos_iff.2 (dd_ne k)
theorem repL (c : Nat) : Lib.repeatL [48] c = List.replicate c 48 := by
  induction c with
  | zero => rfl
  | succ c ih => rw [Lib.repeatL, ih, List.replicate_succ]; rfl
theorem joinL (xs : List (List UInt8)) : Lib.join xs [] = xs.flatten := by
  unfold Lib.join List.intercalate
  induction xs with
  | nil => rfl
  | cons x xs ih =>
    cases xs with
    | nil => simp [List.intersperse]
    | cons y ys =>
      rw [List.intersperse, List.flatten_cons, List.flatten_cons, ih]
      · simp
      · intro h
        cases h
def rnd : Nat → Nat → Nat
  | 0, _ => 0
  | f + 1, k => if k = 0 then 0 else rnd f (k / 1000000000) + 1
theorem rnd_le : ∀ (f k : Nat), rnd f k ≤ f
  | 0, _ => Nat.le_refl _
  | f + 1, k => by rw [rnd]; split; omega; have := rnd_le f (k / 1000000000); omega
theorem rnd_zero (f : Nat) : rnd f 0 = 0 := by cases f <;> simp [rnd]
theorem rnd_enough : ∀ (f g k : Nat), k < 2 ^ f → k < 2 ^ g → rnd f k = rnd g k
  | 0, g, k, h, _ => by
    have : k = 0 := by simpa using h
    subst this
    rw [rnd_zero, rnd_zero]
  | f + 1, 0, k, _, h => by
    have : k = 0 := by simpa using h
    subst this
    rw [rnd_zero, rnd_zero]
  | f + 1, g + 1, k, h, h2 => by
    rw [Nat.pow_succ] at h h2
    rw [rnd, rnd, rnd_enough f g _ (by omega) (by omega)]
def dd0 (k : Nat) : List UInt8 := if k = 0 then [] else decDigits k
theorem dd0_step {k : Nat} (h : 0 < k) : dd0 k = dd0 (k / 1000000000) ++ (if 0 < k / 1000000000 then List.replicate (9 - (decDigits (k % 1000000000)).length) 48 ++ decDigits (k % 1000000000) else decDigits (k % 1000000000)) ∧ (decDigits (k % 1000000000)).length ≤ 9 := by
  have hr : k % 1000000000 < 10 ^ (8 + 1) := Nat.mod_lt _ (by decide)
  obtain ⟨p1, p2⟩ := dd_pad 8 _ hr
  refine ⟨?_, p1⟩
  unfold dd0
  rw [if_neg (by omega)]
  by_cases hq : 0 < k / 1000000000
  · rw [if_neg (by omega), if_pos hq, ← p2]
    have e := dd_split 9 (k / 1000000000) (k % 1000000000) hq hr
    have e2 : k / 1000000000 * 10 ^ 9 + k % 1000000000 = k := by
      have : (10 : Nat) ^ 9 = 1000000000 := by decide
      rw [this]; omega
    rw [e2] at e
    exact e
  · rw [if_pos (by omega), if_neg hq, List.nil_append]
    congr 1
    omega
theorem dd_bits : ∀ (m k : Nat), k < 2 ^ m → (decDigits k).length ≤ m + 1
  | 0, k, h => by
    have : k = 0 := by simpa using h
    subst this
    rw [dd_lt (by omega)]; simp
  | m + 1, k, h => by
    by_cases h1 : k < 10
    · rw [dd_lt h1]; simp
    · rw [Nat.pow_succ] at h
      rw [dd_ge h1, List.length_append, List.length_singleton]
      have := dd_bits m (k / 10) (by omega)
      omega
end Go.Proofs.YtlpmemelhlnfbaaGreatDoor
set_option linter.all false
set_option maxRecDepth 100000
set_option maxHeartbeats 6400000
namespace Go.Proofs.YtlpmemelhlnfbaaGreatDoor
open Go.RowKit

section
variable {n : Nat} {a0 : TFeed} {a1 : Int} {x : Int}
theorem nx_f1 (C1 : (a0.Raw.length : Int) ≤ a0.At) :
    runL n 149 [.ptr 0 0, .lit (.int .i64 a1)] [.box 156 [.sl 1 (a0.Raw.map intU8C), .lit (.int .i64 (a0.At))] false] = some (.lit (.int .i64 0), [(0, .box 156 [.sl 1 (a0.Raw.map intU8C), .lit (.int .i64 (a0.At))] false)]) := by
  unfold runL fnL
  simp +decide [Tryz.f149, C1]
theorem nx_f2 (C1 : ¬ (a0.Raw.length : Int) ≤ a0.At) (W2 : InI (a0.At + 1)) (W3 : InI (a0.At)) (E4 : a0.Raw[a0.At.toNat]? = some x) (Z4 : 0 ≤ a0.At) (W5 : InI (x)) (N6 : a1 ≠ 0) :
    runL n 149 [.ptr 0 0, .lit (.int .i64 a1)] [.box 156 [.sl 1 (a0.Raw.map intU8C), .lit (.int .i64 (a0.At))] false] = some (.lit (.int .i64 (x.tmod a1)), [(0, .box 156 [.sl 1 (a0.Raw.map intU8C), .lit (.int .i64 (a0.At + 1))] false)]) := by
  have W2_ : IntKind.i64.wrap (a0.At + 1) = a0.At + 1 := wr64 W2.1 W2.2
  have W3_ : IntKind.i64.wrap (a0.At) = a0.At := wr64 W3.1 W3.2
  obtain ⟨EL4, EG4⟩ := List.getElem?_eq_some_iff.1 E4
  have W5_ : IntKind.i64.wrap (x) = x := wr64 W5.1 W5.2
  unfold runL fnL
  simp +decide [Tryz.f149, C1, W2_, W3_, EL4, EG4, E4, Z4, W5_, N6]
end
section
variable {n : Nat} {a0 : TFeed} {z2 : Int} {z : Int} {r : Int} {r2 : Int}
theorem nu_f1 (K1 : runL n 149 [.ptr 0 0, .lit (.int .i64 9)] [.box 156 [.sl 1 (a0.Raw.map intU8C), .lit (.int .i64 (a0.At))] false] = some (.lit (.int .i64 r), [(0, .box 156 [.sl 1 (a0.Raw.map intU8C), .lit (.int .i64 z)] false)])) (W2 : InI (r - 4)) (K3 : runL n 149 [.ptr 0 0, .lit (.int .i64 4)] [.box 156 [.sl 1 (a0.Raw.map intU8C), .lit (.int .i64 z)] false] = some (.lit (.int .i64 r2), [(0, .box 156 [.sl 1 (a0.Raw.map intU8C), .lit (.int .i64 z2)] false)])) (C4 : r2 = 0) (W5 : InI (r - 4)) :
    runL (n + 1) 92 [.ptr 0 0] [.box 156 [.sl 1 (a0.Raw.map intU8C), .lit (.int .i64 (a0.At))] false] = some (ratV (fracQ (r - 4) 1), [(0, .box 156 [.sl 1 (a0.Raw.map intU8C), .lit (.int .i64 z2)] false)]) := by
  have W2_ : IntKind.i64.wrap (r - 4) = r - 4 := wr64 W2.1 W2.2
  have K5 := r_frac (x := r - 4) (y := 1) W5 (by omega) (by omega)
  unfold runL fnL
  simp +decide [Tryz.f92, K1, W2_, K3, C4, K5]
theorem nu_f2 (K1 : runL n 149 [.ptr 0 0, .lit (.int .i64 9)] [.box 156 [.sl 1 (a0.Raw.map intU8C), .lit (.int .i64 (a0.At))] false] = some (.lit (.int .i64 r), [(0, .box 156 [.sl 1 (a0.Raw.map intU8C), .lit (.int .i64 z)] false)])) (W2 : InI (r - 4)) (K3 : runL n 149 [.ptr 0 0, .lit (.int .i64 4)] [.box 156 [.sl 1 (a0.Raw.map intU8C), .lit (.int .i64 z)] false] = some (.lit (.int .i64 r2), [(0, .box 156 [.sl 1 (a0.Raw.map intU8C), .lit (.int .i64 z2)] false)])) (C4 : r2 ≠ 0) (C5 : r2 = 1) (W6 : InI (r - 4)) :
    runL (n + 1) 92 [.ptr 0 0] [.box 156 [.sl 1 (a0.Raw.map intU8C), .lit (.int .i64 (a0.At))] false] = some (ratV (fracQ (r - 4) 1), [(0, .box 156 [.sl 1 (a0.Raw.map intU8C), .lit (.int .i64 z2)] false)]) := by
  have W2_ : IntKind.i64.wrap (r - 4) = r - 4 := wr64 W2.1 W2.2
  have K6 := r_frac (x := r - 4) (y := 1) W6 (by omega) (by omega)
  unfold runL fnL
  simp +decide [Tryz.f92, K1, W2_, K3, C5, K6]
theorem nu_f3 (K1 : runL n 149 [.ptr 0 0, .lit (.int .i64 9)] [.box 156 [.sl 1 (a0.Raw.map intU8C), .lit (.int .i64 (a0.At))] false] = some (.lit (.int .i64 r), [(0, .box 156 [.sl 1 (a0.Raw.map intU8C), .lit (.int .i64 z)] false)])) (W2 : InI (r - 4)) (K3 : runL n 149 [.ptr 0 0, .lit (.int .i64 4)] [.box 156 [.sl 1 (a0.Raw.map intU8C), .lit (.int .i64 z)] false] = some (.lit (.int .i64 r2), [(0, .box 156 [.sl 1 (a0.Raw.map intU8C), .lit (.int .i64 z2)] false)])) (C4 : r2 ≠ 0) (C5 : r2 ≠ 1) (C6 : r2 = 2) (W7 : InI (r - 4)) :
    runL (n + 1) 92 [.ptr 0 0] [.box 156 [.sl 1 (a0.Raw.map intU8C), .lit (.int .i64 (a0.At))] false] = some (ratV (fracQ (r - 4) 2), [(0, .box 156 [.sl 1 (a0.Raw.map intU8C), .lit (.int .i64 z2)] false)]) := by
  have W2_ : IntKind.i64.wrap (r - 4) = r - 4 := wr64 W2.1 W2.2
  have K7 := r_frac (x := r - 4) (y := 2) W7 (by omega) (by omega)
  unfold runL fnL
  simp +decide [Tryz.f92, K1, W2_, K3, C6, K7]
theorem nu_f4 (K1 : runL n 149 [.ptr 0 0, .lit (.int .i64 9)] [.box 156 [.sl 1 (a0.Raw.map intU8C), .lit (.int .i64 (a0.At))] false] = some (.lit (.int .i64 r), [(0, .box 156 [.sl 1 (a0.Raw.map intU8C), .lit (.int .i64 z)] false)])) (W2 : InI (r - 4)) (K3 : runL n 149 [.ptr 0 0, .lit (.int .i64 4)] [.box 156 [.sl 1 (a0.Raw.map intU8C), .lit (.int .i64 z)] false] = some (.lit (.int .i64 r2), [(0, .box 156 [.sl 1 (a0.Raw.map intU8C), .lit (.int .i64 z2)] false)])) (C4 : r2 ≠ 0) (C5 : r2 ≠ 1) (C6 : r2 ≠ 2) (C7 : r2 = 3) (W8 : InI (r - 4)) :
    runL (n + 1) 92 [.ptr 0 0] [.box 156 [.sl 1 (a0.Raw.map intU8C), .lit (.int .i64 (a0.At))] false] = some (ratV (fracQ (r - 4) 4), [(0, .box 156 [.sl 1 (a0.Raw.map intU8C), .lit (.int .i64 z2)] false)]) := by
  have W2_ : IntKind.i64.wrap (r - 4) = r - 4 := wr64 W2.1 W2.2
  have K8 := r_frac (x := r - 4) (y := 4) W8 (by omega) (by omega)
  unfold runL fnL
  simp +decide [Tryz.f92, K1, W2_, K3, C7, K8]
end
theorem vr_f1 {n : Nat} {a0 : Int}  :
    run n 88 [.lit (.int .i64 a0)] = some (.agg [.sl 4 [[.lit (.int .i64 a0), .lit (.bool (rawQ (ofQ 1)).s), natA (rawQ (ofQ 1)).l1, natA (rawQ (ofQ 1)).l2]], .lit (.bool false), .sl 1 [], .sl 1 []]) := by
  have K1 := r_ofq (z := 1) (by omega) (by omega)
  unfold run fnP
  simp +decide [Tryz.f88, K1]
end Go.Proofs.YtlpmemelhlnfbaaGreatDoor
set_option linter.all false
set_option maxRecDepth 100000
set_option maxHeartbeats 6400000
namespace Go.Proofs.YtlpmemelhlnfbaaGreatDoor
open Go.RowKit

noncomputable def pl_C4 : Code := (loopsOf (bodyOf Tryz.f138)).getD 0 .skip
def pl_h4 (a0 : Form) (a1 : Int) (a2 : Rat) (out_4 : List (Int × Rat)) (d_4 : Bool) (i_4 : Nat) : St :=
  ⟨[(1, .lit (.int .i64 a1)), (3, .ptr 0 0), (5, .ptr 1 0), (6, .ptr 2 0), (7, .own 3 out_4.length), (8, .lit (.bool d_4)), (9, .lit (.int .i64 (i_4 : Int)))],
   [(0, some (.box 29 [.sl 4 (a0.1.map termC), .lit (.bool (rawQ a0.2).s), natA (rawQ a0.2).l1, natA (rawQ a0.2).l2] false)),
    (1, some (.box 27 [.lit (.bool (rawQ a2).s), natA (rawQ a2).l1, natA (rawQ a2).l2] false)),
    (2, some (.box 29 [.nl 4, .lit (.bool false), .nl 1, .nl 1] false)),
    (3, some (.row 84 4 (out_4.map termC) 0))], 4⟩
def pl_o4a (a0 : Form) (a1 : Int) (a2 : Rat) (out_4 : List (Int × Rat)) (d_4 : Bool) : St :=
  ⟨[(1, .lit (.int .i64 a1)), (3, .ptr 0 0), (5, .ptr 1 0), (6, .ptr 2 0), (7, .own 3 out_4.length), (8, .lit (.bool d_4))],
   [(0, some (.box 29 [.sl 4 (a0.1.map termC), .lit (.bool (rawQ a0.2).s), natA (rawQ a0.2).l1, natA (rawQ a0.2).l2] false)),
    (1, some (.box 27 [.lit (.bool (rawQ a2).s), natA (rawQ a2).l1, natA (rawQ a2).l2] false)),
    (2, some (.box 29 [.nl 4, .lit (.bool false), .nl 1, .nl 1] false)),
    (3, some (.row 84 4 (out_4.map termC) 0))], 4⟩
section
variable {n : Nat} {a0 : Form} {a1 : Int} {d_4 : Bool} {q3 : Rat} {out_4 : List (Int × Rat)} {i_4 : Nat} {a2 : Rat} {v3 : Int} {R12 : List (Int × Rat)} {R14 : List (Int × Rat)} {R15 : List (Int × Rat)} {R13 : List (Int × Rat)} {R16 : List (Int × Rat)} {R17 : List (Int × Rat)} {R18 : List (Int × Rat)}
theorem pl_r4_1 (C1 : (i_4 : Int) < (a0.1.length : Int)) (E2 : a0.1[i_4]? = some (v3, q3)) (C3 : v3 = a1) (B4a : H q3 ≤ 17179869184) (B4b : H a2 ≤ 17179869184) (K5 : runL n 163 [.own 0 out_4.length, .agg [.lit (.int .i64 v3), .lit (.bool (rawQ (q3 + a2)).s), natA (rawQ (q3 + a2)).l1, natA (rawQ (q3 + a2)).l2]] [.row 84 4 (out_4.map termC) 0] = some (.own 0 out_4.length, [(0, .row 84 4 (out_4.map termC) 0)])) (W6 : InI ((i_4 : Int) + 1)) :
    Cont 0 (exec Tryz.prog (tab (n + 1)) 0 61 (livesOf 138) big pl_C4) (livesOf 138 4) (pl_h4 a0 a1 a2 out_4 d_4 i_4) (pl_h4 a0 a1 a2 out_4 true (i_4 + 1)) := by
  have C1_ : i_4 < a0.1.length := by omega
  obtain ⟨EL2, EG2⟩ := List.getElem?_eq_some_iff.1 E2
  have C3_ : (v3 == a1) = true := by rw [C3]; simp
  have C3_n : (v3 != a1) = false := by rw [C3]; simp
  have K4 := r_add (p := q3) (q := a2) B4a B4b
  have W6_ : IntKind.i64.wrap ((i_4 : Int) + 1) = (i_4 : Int) + 1 := wr64 W6.1 W6.2
  unfold Cont
  simp +decide [pl_h4, loopsOf, Tryz.f138, pl_C4, C1, C1_, EL2, EG2, E2, C3_, C3_n, K4, K5, W6_]
theorem pl_r4_2 (C1 : (i_4 : Int) < (a0.1.length : Int)) (E2 : a0.1[i_4]? = some (v3, q3)) (C3 : v3 = a1) (B4a : H q3 ≤ 17179869184) (B4b : H a2 ≤ 17179869184) (K5 : runL n 163 [.own 0 out_4.length, .agg [.lit (.int .i64 v3), .lit (.bool (rawQ (q3 + a2)).s), natA (rawQ (q3 + a2)).l1, natA (rawQ (q3 + a2)).l2]] [.row 84 4 (out_4.map termC) 0] = some (.own 3 R12.length, [(3, .row 84 4 (R12.map termC) 0)])) (W6 : InI ((i_4 : Int) + 1)) :
    Cont 0 (exec Tryz.prog (tab (n + 1)) 0 61 (livesOf 138) big pl_C4) (livesOf 138 4) (pl_h4 a0 a1 a2 out_4 d_4 i_4) (pl_h4 a0 a1 a2 R12 true (i_4 + 1)) := by
  have C1_ : i_4 < a0.1.length := by omega
  obtain ⟨EL2, EG2⟩ := List.getElem?_eq_some_iff.1 E2
  have C3_ : (v3 == a1) = true := by rw [C3]; simp
  have C3_n : (v3 != a1) = false := by rw [C3]; simp
  have K4 := r_add (p := q3) (q := a2) B4a B4b
  have W6_ : IntKind.i64.wrap ((i_4 : Int) + 1) = (i_4 : Int) + 1 := wr64 W6.1 W6.2
  unfold Cont
  simp +decide [pl_h4, loopsOf, Tryz.f138, pl_C4, C1, C1_, EL2, EG2, E2, C3_, C3_n, K4, K5, W6_]
theorem pl_r4_4 (C1 : (i_4 : Int) < (a0.1.length : Int)) (E2 : a0.1[i_4]? = some (v3, q3)) (C3 : ¬ v3 = a1) (C4 : d_4 = false) (C5 : a1 < v3) (B6a : H a2 ≤ 17179869184) (K7 : runL n 163 [.own 0 out_4.length, .agg [.lit (.int .i64 a1), .lit (.bool (rawQ a2).s), natA (rawQ a2).l1, natA (rawQ a2).l2]] [.row 84 4 (out_4.map termC) 0] = some (.own 0 out_4.length, [(0, .row 84 4 (out_4.map termC) 0)])) (K8 : runL n 163 [.own 0 out_4.length, .agg [.lit (.int .i64 v3), .lit (.bool (rawQ q3).s), natA (rawQ q3).l1, natA (rawQ q3).l2]] [.row 84 4 (out_4.map termC) 0] = some (.own 3 R14.length, [(3, .row 84 4 (R14.map termC) 0)])) (W9 : InI ((i_4 : Int) + 1)) :
    Cont 0 (exec Tryz.prog (tab (n + 1)) 0 61 (livesOf 138) big pl_C4) (livesOf 138 4) (pl_h4 a0 a1 a2 out_4 d_4 i_4) (pl_h4 a0 a1 a2 R14 true (i_4 + 1)) := by
  have C1_ : i_4 < a0.1.length := by omega
  obtain ⟨EL2, EG2⟩ := List.getElem?_eq_some_iff.1 E2
  have C3_ : (v3 == a1) = false := by simpa using C3
  have C3_n : (v3 != a1) = true := by simpa using C3
  have K6 := r_canon (p := a2) B6a
  have W9_ : IntKind.i64.wrap ((i_4 : Int) + 1) = (i_4 : Int) + 1 := wr64 W9.1 W9.2
  unfold Cont
  simp +decide [pl_h4, loopsOf, Tryz.f138, pl_C4, C1, C1_, EL2, EG2, E2, C3_, C3_n, C4, C5, K6, K7, K8, W9_]
theorem pl_r4_6 (C1 : (i_4 : Int) < (a0.1.length : Int)) (E2 : a0.1[i_4]? = some (v3, q3)) (C3 : ¬ v3 = a1) (C4 : d_4 = false) (C5 : a1 < v3) (B6a : H a2 ≤ 17179869184) (K7 : runL n 163 [.own 0 out_4.length, .agg [.lit (.int .i64 a1), .lit (.bool (rawQ a2).s), natA (rawQ a2).l1, natA (rawQ a2).l2]] [.row 84 4 (out_4.map termC) 0] = some (.own 3 R13.length, [(3, .row 84 4 (R13.map termC) 0)])) (K8 : runL n 163 [.own 0 R13.length, .agg [.lit (.int .i64 v3), .lit (.bool (rawQ q3).s), natA (rawQ q3).l1, natA (rawQ q3).l2]] [.row 84 4 (R13.map termC) 0] = some (.own 3 R15.length, [(3, .row 84 4 (R15.map termC) 0)])) (W9 : InI ((i_4 : Int) + 1)) :
    Cont 0 (exec Tryz.prog (tab (n + 1)) 0 61 (livesOf 138) big pl_C4) (livesOf 138 4) (pl_h4 a0 a1 a2 out_4 d_4 i_4) (pl_h4 a0 a1 a2 R15 true (i_4 + 1)) := by
  have C1_ : i_4 < a0.1.length := by omega
  obtain ⟨EL2, EG2⟩ := List.getElem?_eq_some_iff.1 E2
  have C3_ : (v3 == a1) = false := by simpa using C3
  have C3_n : (v3 != a1) = true := by simpa using C3
  have K6 := r_canon (p := a2) B6a
  have W9_ : IntKind.i64.wrap ((i_4 : Int) + 1) = (i_4 : Int) + 1 := wr64 W9.1 W9.2
  unfold Cont
  simp +decide [pl_h4, loopsOf, Tryz.f138, pl_C4, C1, C1_, EL2, EG2, E2, C3_, C3_n, C4, C5, K6, K7, K8, W9_]
theorem pl_r4_8 (C1 : (i_4 : Int) < (a0.1.length : Int)) (E2 : a0.1[i_4]? = some (v3, q3)) (C3 : ¬ v3 = a1) (C4 : d_4 = false) (C5 : ¬ a1 < v3) (K6 : runL n 163 [.own 0 out_4.length, .agg [.lit (.int .i64 v3), .lit (.bool (rawQ q3).s), natA (rawQ q3).l1, natA (rawQ q3).l2]] [.row 84 4 (out_4.map termC) 0] = some (.own 3 R16.length, [(3, .row 84 4 (R16.map termC) 0)])) (W7 : InI ((i_4 : Int) + 1)) :
    Cont 0 (exec Tryz.prog (tab (n + 1)) 0 61 (livesOf 138) big pl_C4) (livesOf 138 4) (pl_h4 a0 a1 a2 out_4 d_4 i_4) (pl_h4 a0 a1 a2 R16 d_4 (i_4 + 1)) := by
  have C1_ : i_4 < a0.1.length := by omega
  obtain ⟨EL2, EG2⟩ := List.getElem?_eq_some_iff.1 E2
  have C3_ : (v3 == a1) = false := by simpa using C3
  have C3_n : (v3 != a1) = true := by simpa using C3
  have W7_ : IntKind.i64.wrap ((i_4 : Int) + 1) = (i_4 : Int) + 1 := wr64 W7.1 W7.2
  unfold Cont
  simp +decide [pl_h4, loopsOf, Tryz.f138, pl_C4, C1, C1_, EL2, EG2, E2, C3_, C3_n, C4, C5, K6, W7_]
theorem pl_r4_10 (C1 : (i_4 : Int) < (a0.1.length : Int)) (E2 : a0.1[i_4]? = some (v3, q3)) (C3 : ¬ v3 = a1) (C4 : d_4 = true) (K5 : runL n 163 [.own 0 out_4.length, .agg [.lit (.int .i64 v3), .lit (.bool (rawQ q3).s), natA (rawQ q3).l1, natA (rawQ q3).l2]] [.row 84 4 (out_4.map termC) 0] = some (.own 3 R17.length, [(3, .row 84 4 (R17.map termC) 0)])) (W6 : InI ((i_4 : Int) + 1)) :
    Cont 0 (exec Tryz.prog (tab (n + 1)) 0 61 (livesOf 138) big pl_C4) (livesOf 138 4) (pl_h4 a0 a1 a2 out_4 d_4 i_4) (pl_h4 a0 a1 a2 R17 d_4 (i_4 + 1)) := by
  have C1_ : i_4 < a0.1.length := by omega
  obtain ⟨EL2, EG2⟩ := List.getElem?_eq_some_iff.1 E2
  have C3_ : (v3 == a1) = false := by simpa using C3
  have C3_n : (v3 != a1) = true := by simpa using C3
  have W6_ : IntKind.i64.wrap ((i_4 : Int) + 1) = (i_4 : Int) + 1 := wr64 W6.1 W6.2
  unfold Cont
  simp +decide [pl_h4, loopsOf, Tryz.f138, pl_C4, C1, C1_, EL2, EG2, E2, C3_, C3_n, C4, K5, W6_]
theorem pl_x4_1 (C1 : ¬ (i_4 : Int) < (a0.1.length : Int)) :
    Leave 0 (exec Tryz.prog (tab (n + 1)) 0 61 (livesOf 138) big pl_C4) (livesOf 138 (outOf 4)) (pl_h4 a0 a1 a2 out_4 d_4 i_4) (.exit 0) (pl_o4a a0 a1 a2 out_4 d_4) := by
  have C1_ : ¬ i_4 < a0.1.length := by omega
  unfold Leave
  simp +decide [pl_h4, loopsOf, Tryz.f138, pl_o4a, pl_C4, C1, C1_]
theorem pl_f1 (L1 : loopG Tryz.prog (tab (n + 1)) 0 61 (livesOf 138) 4 pl_C4 (pl_h4 a0 a1 a2 [] false 0) = some (.exit 0, pl_o4a a0 a1 a2 out_4 d_4)) (C2 : d_4 = false) (B3a : H a2 ≤ 17179869184) (K4 : runL n 163 [.own 0 out_4.length, .agg [.lit (.int .i64 a1), .lit (.bool (rawQ a2).s), natA (rawQ a2).l1, natA (rawQ a2).l2]] [.row 84 4 (out_4.map termC) 0] = some (.own 0 out_4.length, [(0, .row 84 4 (out_4.map termC) 0)])) :
    run (n + 1) 138 [formV a0, .lit (.int .i64 a1), ratV a2] = some (formV (out_4, a0.2)) := by
  have K3 := r_canon (p := a2) B3a
  unfold run fnP
  simp +decide [Tryz.f138, C2, K3, K4]
  rw [loopX_G (C' := pl_C4) (e := (pl_h4 a0 a1 a2 [] false 0)) ?_ ?_, L1]
  rotate_left
  · kernel_rfl
  · simp +decide [pl_h4, C2, K3, K4]
  simp +decide [pl_o4a, C2, K3, K4]
theorem pl_f2 (L1 : loopG Tryz.prog (tab (n + 1)) 0 61 (livesOf 138) 4 pl_C4 (pl_h4 a0 a1 a2 [] false 0) = some (.exit 0, pl_o4a a0 a1 a2 out_4 d_4)) (C2 : d_4 = false) (B3a : H a2 ≤ 17179869184) (K4 : runL n 163 [.own 0 out_4.length, .agg [.lit (.int .i64 a1), .lit (.bool (rawQ a2).s), natA (rawQ a2).l1, natA (rawQ a2).l2]] [.row 84 4 (out_4.map termC) 0] = some (.own 3 R18.length, [(3, .row 84 4 (R18.map termC) 0)])) :
    run (n + 1) 138 [formV a0, .lit (.int .i64 a1), ratV a2] = some (formV (R18, a0.2)) := by
  have K3 := r_canon (p := a2) B3a
  unfold run fnP
  simp +decide [Tryz.f138, C2, K3, K4]
  rw [loopX_G (C' := pl_C4) (e := (pl_h4 a0 a1 a2 [] false 0)) ?_ ?_, L1]
  rotate_left
  · kernel_rfl
  · simp +decide [pl_h4, C2, K3, K4]
  simp +decide [pl_o4a, C2, K3, K4]
theorem pl_f3 (L1 : loopG Tryz.prog (tab (n + 1)) 0 61 (livesOf 138) 4 pl_C4 (pl_h4 a0 a1 a2 [] false 0) = some (.exit 0, pl_o4a a0 a1 a2 out_4 d_4)) (C2 : d_4 = true) :
    run (n + 1) 138 [formV a0, .lit (.int .i64 a1), ratV a2] = some (formV (out_4, a0.2)) := by
  unfold run fnP
  simp +decide [Tryz.f138, C2]
  rw [loopX_G (C' := pl_C4) (e := (pl_h4 a0 a1 a2 [] false 0)) ?_ ?_, L1]
  rotate_left
  · kernel_rfl
  · simp +decide [pl_h4, C2]
  simp +decide [pl_o4a, C2]
end
end Go.Proofs.YtlpmemelhlnfbaaGreatDoor
set_option linter.all false
set_option maxRecDepth 100000
set_option maxHeartbeats 6400000
namespace Go.Proofs.YtlpmemelhlnfbaaGreatDoor
open Go.RowKit

noncomputable def ad_C3 : Code := (loopsOf (bodyOf Tryz.f115)).getD 0 .skip
def ad_h3 (a1 : Form) (i_3 : Nat) (l_3 : List (Int × Rat)) (s_3 : Rat) : St :=
  ⟨[(3, .ptr 0 0), (4, .ptr 1 0), (5, .ptr 2 0), (6, .lit (.int .i64 (i_3 : Int)))],
   [(0, some (.box 29 [.sl 4 (a1.1.map termC), .lit (.bool (rawQ a1.2).s), natA (rawQ a1.2).l1, natA (rawQ a1.2).l2] false)),
    (1, some (.box 29 [.nl 4, .lit (.bool false), .nl 1, .nl 1] false)),
    (2, some (.box 29 [.sl 4 (l_3.map termC), .lit (.bool (rawQ s_3).s), natA (rawQ s_3).l1, natA (rawQ s_3).l2] false))], 3⟩
def ad_o3a (l_3 : List (Int × Rat)) (s_3 : Rat) : St :=
  ⟨[(4, .ptr 0 0), (5, .ptr 1 0)],
   [(0, some (.box 29 [.nl 4, .lit (.bool false), .nl 1, .nl 1] false)),
    (1, some (.box 29 [.sl 4 (l_3.map termC), .lit (.bool (rawQ s_3).s), natA (rawQ s_3).l1, natA (rawQ s_3).l2] false))], 2⟩
section
variable {n : Nat} {a1 : Form} {q3 : Rat} {l_3 : List (Int × Rat)} {r3 : Form} {s_3 : Rat} {v3 : Int} {i_3 : Nat} {a0 : Form}
theorem ad_r3_1 (C1 : (i_3 : Int) < (a1.1.length : Int)) (E2 : a1.1[i_3]? = some (v3, q3)) (K3 : run (n + 1) 138 [formV (l_3, s_3), .lit (.int .i64 v3), ratV q3] = some (formV r3)) (W4 : InI ((i_3 : Int) + 1)) :
    Cont 0 (exec Tryz.prog (tab (n + 2)) 0 43 (livesOf 115) big ad_C3) (livesOf 115 3) (ad_h3 a1 i_3 l_3 s_3) (ad_h3 a1 (i_3 + 1) r3.1 r3.2) := by
  have C1_ : i_3 < a1.1.length := by omega
  obtain ⟨EL2, EG2⟩ := List.getElem?_eq_some_iff.1 E2
  simp only [ratV, formV] at K3
  have W4_ : IntKind.i64.wrap ((i_3 : Int) + 1) = (i_3 : Int) + 1 := wr64 W4.1 W4.2
  unfold Cont
  simp +decide [ad_h3, loopsOf, Tryz.f115, ad_C3, C1, C1_, EL2, EG2, E2, K3, W4_]
theorem ad_x3_1 (C1 : ¬ (i_3 : Int) < (a1.1.length : Int)) :
    Leave 0 (exec Tryz.prog (tab (n + 2)) 0 43 (livesOf 115) big ad_C3) (livesOf 115 (outOf 3)) (ad_h3 a1 i_3 l_3 s_3) (.exit 0) (ad_o3a l_3 s_3) := by
  have C1_ : ¬ i_3 < a1.1.length := by omega
  unfold Leave
  simp +decide [ad_h3, loopsOf, Tryz.f115, ad_o3a, ad_C3, C1, C1_]
theorem ad_f1 (B1a : H a0.2 ≤ 17179869184) (B1b : H a1.2 ≤ 17179869184) (L2 : loopG Tryz.prog (tab (n + 2)) 0 43 (livesOf 115) 3 ad_C3 (ad_h3 a1 0 a0.1 (a0.2 + a1.2)) = some (.exit 0, ad_o3a l_3 s_3)) (M3 : l_3.length ≤ 100000000) :
    run (n + 2) 115 [formV a0, formV a1] = some (formV (l_3, s_3)) := by
  have K1 := r_add (p := a0.2) (q := a1.2) B1a B1b
  have M3_ : ∀ b, b ≤ 10000 → roomy (l_3.length) b = true := fun b hb => roomy_s M3 hb
  unfold run fnP
  simp +decide [Tryz.f115, K1, M3_]
  rw [loopX_G (C' := ad_C3) (e := (ad_h3 a1 0 a0.1 (a0.2 + a1.2))) ?_ ?_, L2]
  rotate_left
  · kernel_rfl
  · simp +decide [ad_h3, K1, M3_]
  simp +decide [ad_o3a, K1, M3_]
end
noncomputable def sc_C3 : Code := (loopsOf (bodyOf Tryz.f87)).getD 0 .skip
def sc_h3 (a0 : Form) (a1 : Rat) (i_3 : Nat) (out_3 : List (Int × Rat)) : St :=
  ⟨[(2, .ptr 0 0), (3, .ptr 1 0), (4, .ptr 2 0), (5, .ptr 3 0), (6, .lit (.int .i64 (i_3 : Int)))],
   [(0, some (.box 29 [.sl 4 (a0.1.map termC), .lit (.bool (rawQ a0.2).s), natA (rawQ a0.2).l1, natA (rawQ a0.2).l2] false)),
    (1, some (.box 27 [.lit (.bool (rawQ a1).s), natA (rawQ a1).l1, natA (rawQ a1).l2] false)),
    (2, some (.box 29 [.nl 4, .lit (.bool false), .nl 1, .nl 1] false)),
    (3, some (.box 29 [.own 4 out_3.length, .lit (.bool (rawQ (a0.2 * a1)).s), natA (rawQ (a0.2 * a1)).l1, natA (rawQ (a0.2 * a1)).l2] false)),
    (4, some (.row 84 4 (out_3.map termC) 0))], 5⟩
def sc_o3a (a0 : Form) (a1 : Rat) (out_3 : List (Int × Rat)) : St :=
  ⟨[(4, .ptr 0 0), (5, .ptr 1 0)],
   [(0, some (.box 29 [.nl 4, .lit (.bool false), .nl 1, .nl 1] false)),
    (1, some (.box 29 [.own 2 out_3.length, .lit (.bool (rawQ (a0.2 * a1)).s), natA (rawQ (a0.2 * a1)).l1, natA (rawQ (a0.2 * a1)).l2] false)),
    (2, some (.row 84 4 (out_3.map termC) 0))], 3⟩
section
variable {n : Nat} {a0 : Form} {a1 : Rat} {q3 : Rat} {out_3 : List (Int × Rat)} {v3 : Int} {i_3 : Nat} {R3 : List (Int × Rat)}
theorem sc_r3_1 (C1 : (i_3 : Int) < (a0.1.length : Int)) (E2 : a0.1[i_3]? = some (v3, q3)) (B3a : H q3 ≤ 17179869184) (B3b : H a1 ≤ 17179869184) (K4 : runL n 163 [.own 0 out_3.length, .agg [.lit (.int .i64 v3), .lit (.bool (rawQ (q3 * a1)).s), natA (rawQ (q3 * a1)).l1, natA (rawQ (q3 * a1)).l2]] [.row 84 4 (out_3.map termC) 0] = some (.own 0 out_3.length, [(0, .row 84 4 (out_3.map termC) 0)])) (W5 : InI ((i_3 : Int) + 1)) :
    Cont 0 (exec Tryz.prog (tab (n + 1)) 0 39 (livesOf 87) big sc_C3) (livesOf 87 3) (sc_h3 a0 a1 i_3 out_3) (sc_h3 a0 a1 (i_3 + 1) out_3) := by
  have C1_ : i_3 < a0.1.length := by omega
  obtain ⟨EL2, EG2⟩ := List.getElem?_eq_some_iff.1 E2
  have K3 := r_mul (p := q3) (q := a1) B3a B3b
  have W5_ : IntKind.i64.wrap ((i_3 : Int) + 1) = (i_3 : Int) + 1 := wr64 W5.1 W5.2
  unfold Cont
  simp +decide [sc_h3, loopsOf, Tryz.f87, sc_C3, C1, C1_, EL2, EG2, E2, K3, K4, W5_]
theorem sc_r3_2 (C1 : (i_3 : Int) < (a0.1.length : Int)) (E2 : a0.1[i_3]? = some (v3, q3)) (B3a : H q3 ≤ 17179869184) (B3b : H a1 ≤ 17179869184) (K4 : runL n 163 [.own 0 out_3.length, .agg [.lit (.int .i64 v3), .lit (.bool (rawQ (q3 * a1)).s), natA (rawQ (q3 * a1)).l1, natA (rawQ (q3 * a1)).l2]] [.row 84 4 (out_3.map termC) 0] = some (.own 3 R3.length, [(3, .row 84 4 (R3.map termC) 0)])) (W5 : InI ((i_3 : Int) + 1)) :
    Cont 0 (exec Tryz.prog (tab (n + 1)) 0 39 (livesOf 87) big sc_C3) (livesOf 87 3) (sc_h3 a0 a1 i_3 out_3) (sc_h3 a0 a1 (i_3 + 1) R3) := by
  have C1_ : i_3 < a0.1.length := by omega
  obtain ⟨EL2, EG2⟩ := List.getElem?_eq_some_iff.1 E2
  have K3 := r_mul (p := q3) (q := a1) B3a B3b
  have W5_ : IntKind.i64.wrap ((i_3 : Int) + 1) = (i_3 : Int) + 1 := wr64 W5.1 W5.2
  unfold Cont
  simp +decide [sc_h3, loopsOf, Tryz.f87, sc_C3, C1, C1_, EL2, EG2, E2, K3, K4, W5_]
theorem sc_x3_1 (C1 : ¬ (i_3 : Int) < (a0.1.length : Int)) :
    Leave 0 (exec Tryz.prog (tab (n + 1)) 0 39 (livesOf 87) big sc_C3) (livesOf 87 (outOf 3)) (sc_h3 a0 a1 i_3 out_3) (.exit 0) (sc_o3a a0 a1 out_3) := by
  have C1_ : ¬ i_3 < a0.1.length := by omega
  unfold Leave
  simp +decide [sc_h3, loopsOf, Tryz.f87, sc_o3a, sc_C3, C1, C1_]
theorem sc_f1 (B1a : H a0.2 ≤ 17179869184) (B1b : H a1 ≤ 17179869184) (L2 : loopG Tryz.prog (tab (n + 1)) 0 39 (livesOf 87) 3 sc_C3 (sc_h3 a0 a1 0 []) = some (.exit 0, sc_o3a a0 a1 out_3)) :
    run (n + 1) 87 [formV a0, ratV a1] = some (formV (out_3, a0.2 * a1)) := by
  have K1 := r_mul (p := a0.2) (q := a1) B1a B1b
  unfold run fnP
  simp +decide [Tryz.f87, K1]
  rw [loopX_G (C' := sc_C3) (e := (sc_h3 a0 a1 0 [])) ?_ ?_, L2]
  rotate_left
  · kernel_rfl
  · simp +decide [sc_h3, K1]
  simp +decide [sc_o3a, K1]
end
end Go.Proofs.YtlpmemelhlnfbaaGreatDoor
set_option linter.all false
set_option maxRecDepth 100000
set_option maxHeartbeats 6400000
namespace Go.Proofs.YtlpmemelhlnfbaaGreatDoor
open Go.RowKit

theorem nz_same {n : Nat} {F : List (Int × Rat)} {v : Int} {q : Rat} (hq : H q ≤ 17179869184) (h0 : q = 0) :
    runL n 163 [.own 0 F.length, .agg [.lit (.int .i64 v), .lit (.bool (rawQ q).s), natA (rawQ q).l1, natA (rawQ q).l2]] [.row 84 4 (F.map termC) 0] = some (.own 0 F.length, [(0, .row 84 4 (F.map termC) 0)]) := by
  unfold runL fnL
  have hs := r_sign (p := q) hq
  have e2 : (sgR q == 0) = true := by rw [sgR_eq_zero.2 h0]; rfl
  simp +decide [Tryz.f163, hs, e2]
theorem nz_new {n : Nat} {F : List (Int × Rat)} {v : Int} {q : Rat} (hq : H q ≤ 17179869184) (h0 : q ≠ 0) (hF : F.length ≤ 10000000) :
    runL n 163 [.own 0 F.length, .agg [.lit (.int .i64 v), .lit (.bool (rawQ q).s), natA (rawQ q).l1, natA (rawQ q).l2]] [.row 84 4 (F.map termC) 0] = some (.own 3 (F ++ [(v, q)]).length, [(3, .row 84 4 ((F ++ [(v, q)]).map termC) 0)]) := by
  unfold runL fnL
  have hs := r_sign (p := q) hq
  have e2 : (sgR q == 0) = false := by simpa using fun h => h0 (sgR_eq_zero.1 h)
  have hr : ∀ b, b ≤ 10000 → roomy (F.length + 1) b = true := fun b hb => roomy_s (by omega) hb
  simp +decide [Tryz.f163, hs, e2, hr]
def plF (v : Int) (c : Rat) (i : Nat) (b : List (Int × Rat) × Bool) (t : Int × Rat) : List (Int × Rat) × Bool :=
  if t.1 = v then (b.1 ++ put1 t.1 (t.2 + c), true) else if b.2 = false ∧ v < t.1 then (b.1 ++ (put1 v c ++ put1 t.1 t.2), true) else (b.1 ++ put1 t.1 t.2, b.2)
theorem plF_fold (v : Int) (c : Rat) : ∀ (R : List (Int × Rat)) (i : Nat) (out : List (Int × Rat)) (d : Bool), foldI (plF v c) i (out, d) R = (out ++ plO d R v c, plD d R v)
  | [], i, out, d => by simp [foldI, plO, plD]
  | t :: R, i, out, d => by
    rw [foldI, plO, plD, plF]
    split
    · rw [plF_fold]; simp [List.append_assoc]
    · split
      · rw [plF_fold]; simp [List.append_assoc]
      · rw [plF_fold]; simp [List.append_assoc]
theorem pl_step {n : Nat} {f : Form} {v : Int} {c : Rat} (hT : TmB 1000000 f.1) (hF : f.1.length ≤ 400000) (hc : H c ≤ 1000000) {i : Nat} {t : Int × Rat} {b : List (Int × Rat) × Bool} (hi : f.1[i]? = some t) (hb : b.1.length ≤ 2 * i) :
    Cont 0 (exec Tryz.prog (tab (n + 1)) 0 61 (livesOf 138) big pl_C4) (livesOf 138 4) (pl_h4 f v c b.1 b.2 i) (pl_h4 f v c (plF v c i b t).1 (plF v c i b t).2 (i + 1)) := by
  obtain ⟨u, q⟩ := t
  obtain ⟨out, d⟩ := b
  have hlt := (List.getElem?_eq_some_iff.1 hi).1
  have ht := hT _ (List.mem_of_getElem? hi)
  have hq : H q ≤ 1000000 := ht.2
  have hq0 : q ≠ 0 := ht.1
  have hH := H_add q c
  have C1 : (i : Int) < (f.1.length : Int) := by omega
  have W : InI ((i : Int) + 1) := ⟨by omega, by omega⟩
  have hb : out.length ≤ 2 * i := hb
  have e3 : put1 u q = [(u, q)] := if_neg hq0
  unfold plF
  dsimp only
  split
  · rename_i e
    by_cases h0 : q + c = 0
    · have e4 : put1 u (q + c) = [] := if_pos h0
      rw [e4, List.append_nil]
      exact pl_r4_1 C1 hi e (by omega) (by omega) (nz_same (by omega) h0) W
    · have e4 : put1 u (q + c) = [(u, q + c)] := if_neg h0
      rw [e4]
      exact pl_r4_2 C1 hi e (by omega) (by omega) (nz_new (by omega) h0 (by omega)) W
  · rename_i e
    split
    · rename_i e2
      obtain ⟨e2, e5⟩ := e2
      rw [e3]
      by_cases h0 : c = 0
      · have e4 : put1 v c = [] := if_pos h0
        rw [e4, List.nil_append]
        exact pl_r4_4 C1 hi e e2 e5 (by omega) (nz_same (by omega) h0) (nz_new (by omega) hq0 (by omega)) W
      · have e4 : put1 v c = [(v, c)] := if_neg h0
        rw [e4, ← List.append_assoc]
        exact pl_r4_6 C1 hi e e2 e5 (by omega) (nz_new (by omega) h0 (by omega)) (nz_new (by omega) hq0 (by rw [List.length_append]; simp; omega)) W
    · rename_i e2
      rw [e3]
      cases d with
      | true => exact pl_r4_10 C1 hi e rfl (nz_new (by omega) hq0 (by omega)) W
      | false => exact pl_r4_8 C1 hi e rfl (fun h => e2 ⟨rfl, h⟩) (nz_new (by omega) hq0 (by omega)) W
theorem plF_len (v : Int) (c : Rat) (i : Nat) (b : List (Int × Rat) × Bool) (t : Int × Rat) : (plF v c i b t).1.length ≤ b.1.length + 2 := by
  have h1 := put1_len t.1 (t.2 + c)
  have h2 := put1_len v c
  have h3 := put1_len t.1 t.2
  unfold plF
  split
  · rw [List.length_append]; omega
  · split
    · rw [List.length_append, List.length_append]; omega
    · rw [List.length_append]; omega
theorem plus_c {n : Nat} {f : Form} {v : Int} {c : Rat} (hT : TmB 1000000 f.1) (hF : f.1.length ≤ 400000) (hc : H c ≤ 1000000) :
    run (n + 1) 138 [formV f, .lit (.int .i64 v), ratV c] = some (formV (plusV false f.1 v c, f.2)) := by
  have L : loopG Tryz.prog (tab (n + 1)) 0 61 (livesOf 138) 4 pl_C4 (pl_h4 f v c [] false 0) = some (.exit 0, pl_o4a f v c (plO false f.1 v c) (plD false f.1 v)) := by
    have h := (loopG_I (O := tab (n + 1)) (exN := .exit 0) (L := f.1) (enc := fun i b => pl_h4 f v c b.1 b.2 i) (f := plF v c) (Inv := fun i b => b.1.length ≤ 2 * i) (out := fun b => pl_o4a f v c b.1 b.2) ([], false) (by simp) (by omega) (by simp)
      (fun i t b hi hI => ⟨pl_step hT hF hc hi hI, by have := plF_len v c i b t; omega⟩) (fun b hI => pl_x4_1 (by omega))).1
    rw [plF_fold] at h
    exact h
  have hl := plO_len v c false f.1
  rw [plusV_plO]
  cases hd : plD false f.1 v with
  | true =>
    rw [hd] at L
    rw [if_pos rfl, List.append_nil]
    exact pl_f3 L rfl
  | false =>
    rw [hd] at L
    rw [if_neg (by simp)]
    by_cases h0 : c = 0
    · have e : put1 v c = [] := if_pos h0
      rw [e, List.append_nil]
      exact pl_f1 L rfl (by omega) (nz_same (by omega) h0)
    · have e : put1 v c = [(v, c)] := if_neg h0
      rw [e]
      exact pl_f2 L rfl (by omega) (nz_new (by omega) h0 (by omega))
theorem scale_c {n : Nat} {f : Form} {c : Rat} (hT : TmB 1000000 f.1) (hF : f.1.length ≤ 400000) (hk : H f.2 ≤ 1000000) (hc : H c ≤ 1000000) :
    run (n + 1) 87 [formV f, ratV c] = some (formV (sclV f.1 c, f.2 * c)) := by
  have key : ∀ (R : List (Int × Rat)) (i : Nat) (o : List (Int × Rat)), foldI (fun _ b (t : Int × Rat) => b ++ put1 t.1 (t.2 * c)) i o R = o ++ sclV R c := fun R => by
    induction R with
    | nil => intro i o; simp [foldI, sclV]
    | cons t R ih => intro i o; rw [foldI, ih]; simp [sclV, List.append_assoc]
  refine sc_f1 (by omega) (by omega) ?_
  have h := (loopG_I (O := tab (n + 1)) (exN := .exit 0) (L := f.1) (enc := fun i b => sc_h3 f c i b) (f := fun _ b (t : Int × Rat) => b ++ put1 t.1 (t.2 * c)) (Inv := fun i b => b.length ≤ i) (out := fun b => sc_o3a f c b) [] (by simp) (by omega) (by simp)
    (fun i t b hi hI => by
      obtain ⟨u, q⟩ := t
      have hlt := (List.getElem?_eq_some_iff.1 hi).1
      have hq : H q ≤ 1000000 := (hT _ (List.mem_of_getElem? hi)).2
      have hm := H_mul q c
      have C1 : (i : Int) < (f.1.length : Int) := by omega
      have W : InI ((i : Int) + 1) := ⟨by omega, by omega⟩
      have hl := put1_len u (q * c)
      refine ⟨?_, by rw [List.length_append]; dsimp only; omega⟩
      dsimp only
      by_cases h0 : q * c = 0
      · have e : put1 u (q * c) = [] := if_pos h0
        rw [e, List.append_nil]
        exact sc_r3_1 C1 hi (by omega) (by omega) (nz_same (by omega) h0) W
      · have e : put1 u (q * c) = [(u, q * c)] := if_neg h0
        rw [e]
        exact sc_r3_2 C1 hi (by omega) (by omega) (nz_new (by omega) h0 (by omega)) W) (fun b hI => sc_x3_1 (by omega))).1
  rw [key, List.nil_append] at h
  exact h
theorem add_c {n : Nat} {f g : Form} {m b : Nat} (hT : TmB b g.1) (hG : g.1.length ≤ 200000) (hF : TmB m f.1) (hl : f.1.length ≤ 200000) (hm : m + (b + 1) * (g.1.length + 1) ≤ 1000000) (h1 : H f.2 ≤ 1000000) (h2 : H g.2 ≤ 1000000) :
    run (n + 2) 115 [formV f, formV g] = some (formV (addV f.1 g.1, f.2 + g.2)) := by
  have key : ∀ (R : List (Int × Rat)) (i : Nat) (o : List (Int × Rat)), foldI (fun _ b (t : Int × Rat) => plusV false b t.1 t.2) i o R = addV o R := fun R => by
    induction R with
    | nil => intro i o; rfl
    | cons t R ih => intro i o; rw [foldI, ih]; rfl
  have hlen : ∀ (R o : List (Int × Rat)), (addV o R).length ≤ o.length + R.length := fun R => by
    induction R with
    | nil => intro o; simp [addV]
    | cons t R ih =>
      intro o
      have h1 := ih (plusV false o t.1 t.2)
      have h2 := plusV_len false o t.1 t.2
      show (addV (plusV false o t.1 t.2) R).length ≤ _
      rw [List.length_cons]; omega
  refine ad_f1 (by omega) (by omega) ?_ (by have := hlen g.1 f.1; omega)
  have h := (loopG_I (O := tab (n + 2)) (exN := .exit 0) (L := g.1) (enc := fun i o => ad_h3 g i o (f.2 + g.2)) (f := fun _ o (t : Int × Rat) => plusV false o t.1 t.2) (Inv := fun i o => o.length ≤ f.1.length + i ∧ TmB (m + (b + 1) * i) o ∧ i ≤ g.1.length) (out := fun o => ad_o3a o (f.2 + g.2)) f.1 ⟨by omega, by simpa using hF, by omega⟩ (by omega) (by simp)
    (fun i t o hi hI => by
      obtain ⟨u, q⟩ := t
      obtain ⟨hI1, hI2, hI3⟩ := hI
      have hlt := (List.getElem?_eq_some_iff.1 hi).1
      have hq : H q ≤ b := (hT _ (List.mem_of_getElem? hi)).2
      have C1 : (i : Int) < (g.1.length : Int) := by omega
      have W : InI ((i : Int) + 1) := ⟨by omega, by omega⟩
      have hl2 := plusV_len false o u q
      have hmi : (b + 1) * i ≤ (b + 1) * (g.1.length + 1) := Nat.mul_le_mul_left _ (by omega)
      have hb1 : b + 1 ≤ (b + 1) * (g.1.length + 1) := Nat.le_mul_of_pos_right _ (by omega)
      have e : m + (b + 1) * (i + 1) = m + (b + 1) * i + b + 1 := by rw [Nat.mul_succ]; omega
      refine ⟨ad_r3_1 (r3 := (plusV false o u q, f.2 + g.2)) C1 hi (plus_c (f := (o, f.2 + g.2)) (hI2.mono (by omega)) (by dsimp only; omega) (by omega)) W, by dsimp only; omega, ?_, hlt⟩
      rw [e]
      exact hI2.plus hq) (fun b hI => ad_x3_1 (by omega))).1
  rw [key] at h
  exact h
theorem var_c {n : Nat} (v : Int) : run n 88 [.lit (.int .i64 v)] = some (formV ([(v, 1)], 0)) := by
  have h := vr_f1 (n := n) (a0 := v)
  have e : ofQ 1 = 1 := by decide +kernel
  rw [e] at h
  rw [h]
  simp
end Go.Proofs.YtlpmemelhlnfbaaGreatDoor
