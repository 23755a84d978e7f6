/- Shifts and masks in the walks. -/
import Derived.Test.YthkkmokbjmempaaGreatDoorUe
set_option linter.all false
set_option linter.all false
namespace Go.Proofs.YthkkmokbjmempaaGreatDoor
open Go.RowKit
def shlI (x y : Int) : Int := IntKind.i64.wrap (x * 2 ^ min y.toNat IntKind.i64.bits)
def shrI (x y : Int) : Int := x.fdiv (2 ^ min y.toNat IntKind.i64.bits)
def andI (x y : Int) : Int := IntKind.i64.wrap (((x % 2 ^ IntKind.i64.bits).toNat &&& (y % 2 ^ IntKind.i64.bits).toNat : Nat) : Int)
theorem shl_one : ∀ L, L ≤ 5 → shlI 1 (L : Nat) = ((2 ^ L : Nat) : Int) := by decide +kernel
theorem bit_of : ∀ c, c < 32 → ∀ i, i < 5 → andI (shrI (c : Nat) (i : Nat)) 1 = if c.testBit i = true then 1 else 0 := by decide +kernel
/-- a number with these bits -/
theorem bits_ex (p : Nat → Bool) : ∀ L : Nat, ∃ c, c < 2 ^ L ∧ ∀ i, i < L → c.testBit i = p i
  | 0 => ⟨0, by simp, fun i hi => by omega⟩
  | L + 1 => by
    obtain ⟨c, h1, h2⟩ := bits_ex p L
    cases hp : p L with
    | false =>
      refine ⟨c, by rw [Nat.pow_succ]; omega, fun i hi => ?_⟩
      rcases Nat.lt_succ_iff_lt_or_eq.1 hi with h | h
      · exact h2 i h
      · subst h
        rw [hp]
        exact Nat.testBit_lt_two_pow h1
    | true =>
      refine ⟨2 ^ L + c, by rw [Nat.pow_succ]; omega, fun i hi => ?_⟩
      rcases Nat.lt_succ_iff_lt_or_eq.1 hi with h | h
      · rw [Nat.testBit_two_pow_add_gt h]
        exact h2 i h
      · subst h
        rw [hp, Nat.testBit_two_pow_add_eq, Nat.testBit_lt_two_pow h1]
        rfl
structure TIntervalR where
  Lo : Raw
  Hi : Raw
@[simp] def intervalRC (g : TIntervalR) : List AV := [.lit (.bool g.Lo.s), natA g.Lo.l1, natA g.Lo.l2, .lit (.bool g.Hi.s), natA g.Hi.l1, natA g.Hi.l2]
@[simp] theorem okE_intervalRC (l : List TIntervalR) : okEls 6 (l.map intervalRC) = true := okEls_map (fun x => by simp) l
end Go.Proofs.YthkkmokbjmempaaGreatDoor
