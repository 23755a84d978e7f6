/- A feed of bytes as an abstract run: Feed.Next. -/
import Derived.Test.YthkkmokbjmempaaGreatDoorTy
import Derived.Test.YthkkmokbjmempaaGreatDoorQ3
import Derived.IntWalk
set_option linter.all false
set_option linter.all false
namespace Go.Proofs.YthkkmokbjmempaaGreatDoor
open Go.RowKit

theorem wr64 {x : Int} (h0 : -9223372036854775808 ≤ x) (h1 : x ≤ 9223372036854775807) : IntKind.i64.wrap x = x := IntWalk.i64_in _ ⟨h0, h1⟩
/-- bytes -/
def bytesA (bs : List Int) : AV := .sl 1 (bs.map fun x => [.lit (.int .u8 x)])
def noO : FuncId → Option Orc := fun _ => none
def noL : Nat → List Nat := fun _ => []
/-- bytes that are short -/
structure Byt (bs : List Int) : Prop where
  len : bs.length ≤ 1048576
  val : ∀ x ∈ bs, 0 ≤ x ∧ x < 256
/-- what Next returns, and how far the feed is then -/
def nextN (bs : List Int) (k : Nat) (n : Int) : Int × Nat :=
  match bs[k]? with
  | some x => (x % n, k + 1)
  | none => (0, k)
theorem nextN_lt {bs : List Int} {k : Nat} {n : Int} (hn : 0 < n) : 0 ≤ (nextN bs k n).1 ∧ (nextN bs k n).1 < n := by
  unfold nextN
  split
  · exact ⟨Int.emod_nonneg _ (by omega), Int.emod_lt_of_pos _ hn⟩
  · exact ⟨Int.le_refl _, hn⟩
theorem nextN_le {bs : List Int} {k : Nat} {n : Int} (hk : k ≤ bs.length) : (nextN bs k n).2 ≤ bs.length := by
  unfold nextN
  split
  · rename_i x hx
    have := (List.getElem?_eq_some_iff.1 hx).1
    dsimp only
    omega
  · exact hk
end Go.Proofs.YthkkmokbjmempaaGreatDoor
