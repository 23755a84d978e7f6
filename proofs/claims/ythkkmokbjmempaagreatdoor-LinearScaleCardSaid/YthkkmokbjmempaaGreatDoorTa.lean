/- linear.put: what it returns. -/
import Derived.Test.YthkkmokbjmempaaGreatDoorUe
set_option linter.all false
set_option linter.all false
set_option maxRecDepth 100000
set_option maxHeartbeats 6400000
namespace Go.Proofs.YthkkmokbjmempaaGreatDoor
open Go.RowKit
theorem pt_new {n : Nat} {F : List (Int × Rat)} {v : Int} {q k : Rat} (hq : H q ≤ 17179869184) (h0 : q ≠ 0) (hF : F.length ≤ 10000000) :
    runL n 98 [.agg [.own 0 F.length, .lit (.bool (rawQ k).s), natA (rawQ k).l1, natA (rawQ k).l2], .lit (.int .i64 v), .agg [.lit (.bool (rawQ q).s), natA (rawQ q).l1, natA (rawQ q).l2]] [.row 76 4 (F.map termC) 0] = some (.agg [.own 4 (F ++ [(v, q)]).length, .lit (.bool (rawQ k).s), natA (rawQ k).l1, natA (rawQ k).l2], [(4, .row 76 4 ((F ++ [(v, q)]).map termC) 0)]) := by
  unfold runL fnL
  have hs := r_sign (p := q) hq
  have hc := r_canon (p := q) hq
  have e2 : (sgR q == 0) = false := by simpa using fun h => h0 (sgR_eq_zero.1 h)
  have e3 : (sgR q != 0) = true := by simpa using fun h => h0 (sgR_eq_zero.1 h)
  have hr : ∀ b, b ≤ 10000 → roomy (F.length + 1) b = true := fun b hb => roomy_s (by omega) hb
  simp +decide [Tryz.f98, hs, hc, e2, e3, hr]
theorem pt_same {n : Nat} {F : List (Int × Rat)} {v : Int} {q k : Rat} (hq : H q ≤ 17179869184) (h0 : q = 0) :
    runL n 98 [.agg [.own 0 F.length, .lit (.bool (rawQ k).s), natA (rawQ k).l1, natA (rawQ k).l2], .lit (.int .i64 v), .agg [.lit (.bool (rawQ q).s), natA (rawQ q).l1, natA (rawQ q).l2]] [.row 76 4 (F.map termC) 0] = some (.agg [.own 0 F.length, .lit (.bool (rawQ k).s), natA (rawQ k).l1, natA (rawQ k).l2], [(0, .row 76 4 (F.map termC) 0)]) := by
  unfold runL fnL
  have hs := r_sign (p := q) hq
  have e2 : (sgR q == 0) = true := by rw [sgR_eq_zero.2 h0]; rfl
  have e3 : (sgR q != 0) = false := by rw [sgR_eq_zero.2 h0]; rfl
  simp +decide [Tryz.f98, hs, e2, e3]
theorem ptn_new {n : Nat} {v : Int} {q k : Rat} (hq : H q ≤ 17179869184) (h0 : q ≠ 0) :
    runL n 98 [.agg [.nl 4, .lit (.bool (rawQ k).s), natA (rawQ k).l1, natA (rawQ k).l2], .lit (.int .i64 v), .agg [.lit (.bool (rawQ q).s), natA (rawQ q).l1, natA (rawQ q).l2]] [] = some (.agg [.own 3 [(v, q)].length, .lit (.bool (rawQ k).s), natA (rawQ k).l1, natA (rawQ k).l2], [(3, .row 76 4 ([(v, q)].map termC) 0)]) := by
  unfold runL fnL
  have hs := r_sign (p := q) hq
  have hc := r_canon (p := q) hq
  have e2 : (sgR q == 0) = false := by simpa using fun h => h0 (sgR_eq_zero.1 h)
  have e3 : (sgR q != 0) = true := by simpa using fun h => h0 (sgR_eq_zero.1 h)
  have hr : ∀ b, b ≤ 10000 → roomy 1 b = true := fun b hb => roomy_s (by omega) hb
  simp +decide [Tryz.f98, hs, hc, e2, e3, hr]
theorem ptn_same {n : Nat} {v : Int} {q k : Rat} (hq : H q ≤ 17179869184) (h0 : q = 0) :
    runL n 98 [.agg [.nl 4, .lit (.bool (rawQ k).s), natA (rawQ k).l1, natA (rawQ k).l2], .lit (.int .i64 v), .agg [.lit (.bool (rawQ q).s), natA (rawQ q).l1, natA (rawQ q).l2]] [] = some (.agg [.nl 4, .lit (.bool (rawQ k).s), natA (rawQ k).l1, natA (rawQ k).l2], []) := by
  unfold runL fnL
  have hs := r_sign (p := q) hq
  have e2 : (sgR q == 0) = true := by rw [sgR_eq_zero.2 h0]; rfl
  have e3 : (sgR q != 0) = false := by rw [sgR_eq_zero.2 h0]; rfl
  simp +decide [Tryz.f98, hs, e2, e3]
end Go.Proofs.YthkkmokbjmempaaGreatDoor
