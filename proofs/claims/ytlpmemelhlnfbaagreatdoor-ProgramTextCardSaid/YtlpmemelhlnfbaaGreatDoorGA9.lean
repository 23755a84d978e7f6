/- Walks: linear.Text. -/
import Derived.Test.YtlpmemelhlnfbaaGreatDoorGA5
import Derived.Test.YtlpmemelhlnfbaaGreatDoorGA6
set_option linter.all false
set_option linter.all false
set_option maxRecDepth 100000
set_option maxHeartbeats 6400000
namespace Go.Proofs.YtlpmemelhlnfbaaGreatDoor
open Go.RowKit

/-! linear.Text, level 7 -/
noncomputable def ltx_C4 : Code := (loopsOf (bodyOf Tryz.f52)).getD 0 .skip
def ltx_h4 (a0 : Form) (i_4 : Nat) : St :=
  ⟨[(1, .ptr 0 0), (3, .ptr 1 0), (4, .clo 119 [.ptr 1 0]), (11, .sl 4 (a0.1.map termC)), (12, .lit (.int .i64 (a0.1.length : Int))), (13, .lit (.int .i64 (i_4 : Int)))],
   [(0, some (.box 29 [.sl 4 (a0.1.map termC), .lit (.bool (rawQ a0.2).s), natA (rawQ a0.2).l1, natA (rawQ a0.2).l2] false)),
    (1, some (.box 88 [(.lit (.pointer none)), .nl 1] false))], 2⟩
def ltx_o4a (a0 : Form) : St :=
  ⟨[(1, .ptr 0 0), (3, .ptr 1 0), (4, .clo 119 [.ptr 1 0])],
   [(0, some (.box 29 [.sl 4 (a0.1.map termC), .lit (.bool (rawQ a0.2).s), natA (rawQ a0.2).l1, natA (rawQ a0.2).l2] false)),
    (1, some (.box 88 [(.lit (.pointer none)), .nl 1] false))], 2⟩
theorem ltx_x4_1 {n : Nat} {a0 : Form} {i_4 : Nat} (C1 : ¬ (i_4 : Int) < (a0.1.length : Int)) :
    Leave 0 (exec Tryz.prog (tab (n + 7)) 0 55 (livesOf 52) big ltx_C4) (livesOf 52 (outOf 4)) (ltx_h4 a0 i_4) (.exit 0) (ltx_o4a a0) := by
  have C1_ : ¬ i_4 < a0.1.length := by omega
  unfold Leave
  simp +decide [ltx_h4, loopsOf, Tryz.f52, ltx_o4a, ltx_C4, C1, C1_]
end Go.Proofs.YtlpmemelhlnfbaaGreatDoor
