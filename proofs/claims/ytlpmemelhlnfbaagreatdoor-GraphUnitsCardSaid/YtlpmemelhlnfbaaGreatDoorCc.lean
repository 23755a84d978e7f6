/- A feed of bytes as an abstract run: Feed.Next. -/
import Derived.Test.YtlpmemelhlnfbaaGreatDoorTy
import Derived.Test.YtlpmemelhlnfbaaGreatDoorQ3
import Derived.IntWalk
set_option linter.all false
set_option linter.all false
namespace Go.Proofs.YtlpmemelhlnfbaaGreatDoor
open Go.RowKit

theorem wr64 {x : Int} (h0 : -9223372036854775808 ≤ x) (h1 : x ≤ 9223372036854775807) : IntKind.i64.wrap x = x := IntWalk.i64_in _ ⟨h0, h1⟩
/-- bytes -/
def bytesA (bs : List Int) : AV := .sl 1 (bs.map fun x => [.lit (.int .u8 x)])
/-- a feed of the bytes bs that has read k of them -/
def feedB (bs : List Int) (k : Nat) : AB := .box 156 [bytesA bs, .lit (.int .i64 (k : Int))] false
def noO : FuncId → Option Orc := fun _ => none
def noL : Nat → List Nat := fun _ => []
/-- bytes that are short -/
structure Byt (bs : List Int) : Prop where
  len : bs.length ≤ 1048576
  val : ∀ x ∈ bs, 0 ≤ x ∧ x < 256
/-- what Next returns, and how far the feed is then -/
def nextN (bs : List Int) (k : Nat) (n : Int) : Int × Nat :=
  match bs[k]? with
  | some x => (x % n, k + 1)
  | none => (0, k)
theorem nextN_lt {bs : List Int} {k : Nat} {n : Int} (hn : 0 < n) : 0 ≤ (nextN bs k n).1 ∧ (nextN bs k n).1 < n := by
  unfold nextN
  split
  · exact ⟨Int.emod_nonneg _ (by omega), Int.emod_lt_of_pos _ hn⟩
  · exact ⟨Int.le_refl _, hn⟩
theorem nextN_le {bs : List Int} {k : Nat} {n : Int} (hk : k ≤ bs.length) : (nextN bs k n).2 ≤ bs.length := by
  unfold nextN
  split
  · rename_i x hx
    have := (List.getElem?_eq_some_iff.1 hx).1
    dsimp only
    omega
  · exact hk
noncomputable def gNext : List AV → List AB → Option (AV × List (Nat × AB)) := absL Tryz.prog noO noL 5 36 Tryz.f149.results.toList (bodyOf Tryz.f149) false
set_option maxRecDepth 100000 in
theorem next_eq {bs : List Int} (hb : Byt bs) {k : Nat} (hk : k ≤ bs.length) {n : Int} (hn : 0 < n) : gNext [.ptr 0 0, .lit (.int .i64 n)] [feedB bs k] = some (.lit (.int .i64 (nextN bs k n).1), [(0, feedB bs (nextN bs k n).2)]) := by
  have hlen := hb.len
  unfold gNext nextN
  cases hx : bs[k]? with
  | some x =>
    have hlt := (List.getElem?_eq_some_iff.1 hx).1
    obtain ⟨x0, x1⟩ := hb.val x (List.mem_of_getElem? hx)
    have h1 : ¬ (bs.length ≤ k) := by omega
    have e1 : IntKind.i64.wrap ((k : Int) + 1) = (k : Int) + 1 := wr64 (by omega) (by omega)
    have e2 : IntKind.i64.wrap (k : Int) = (k : Int) := wr64 (by omega) (by omega)
    have e3 : IntKind.i64.wrap x = x := wr64 (by omega) (by omega)
    have e4 : x.tmod n = x % n := Int.tmod_eq_emod_of_nonneg x0
    have h3 : n ≠ 0 := by omega
    simp [oneCell, absL, absFn, resultL, oneOf, outsA, initB, exec, opsS, opS, drawS, opsF, footS, depsLt, pairsOk, masks, maskOf, clashAll, Foot.clash, optIn, meet, guardSlot, Tr.asks, dstOk, guardA, aop, nilRow, Tr.run, rd, gval, gtab, ofV, initT, findT, St.t, St.b, putS, getU, AV.allNotU, rdL, ldT, ret, grab, stT, splice, resL, frzL, callT, linT, linR, getBs, upIn, upNew, lookB, bump, outN, AV.ren, AV.renL, binV, boolV, unV, opnd, resultA, rvL, rvA, AV.isT, AV.allT, Nat.blt, Nat.ble, ptrAdd, lenT, Region.binds, List.range, List.range.loop, List.range', Nat.testBit_eq_decide_div_mod_eq, ixT, ixV, idx, convT, cvB, cvS, apT, apS, usdT, usT, nonNil, ptrEq, ptrB, asSl, slT, optI, mkT, elems, minmax, buildT, buildST, cellsL, fillA, roomy, bodyOf, posIn, nodupL, gcB, gcT, AV.refs, AV.refsL, inRefs, reach, gc, gcC, promo, promo1, slotsL, isHint, ph, isNil, outOf, undef, regOf, Tryz.f149, feedB, bytesA, h1, e1, e2, e3, e4, hx, h3]
  | none =>
    have h1 : bs.length ≤ k := by
      rcases Nat.lt_or_ge k bs.length with h | h
      · rw [List.getElem?_eq_getElem h] at hx; cases hx
      · exact h
    simp [oneCell, absL, absFn, resultL, oneOf, outsA, initB, exec, opsS, opS, drawS, opsF, footS, depsLt, pairsOk, masks, maskOf, clashAll, Foot.clash, optIn, meet, guardSlot, Tr.asks, dstOk, guardA, aop, nilRow, Tr.run, rd, gval, gtab, ofV, initT, findT, St.t, St.b, putS, getU, AV.allNotU, rdL, ldT, ret, grab, stT, splice, resL, frzL, callT, linT, linR, getBs, upIn, upNew, lookB, bump, outN, AV.ren, AV.renL, binV, boolV, unV, opnd, resultA, rvL, rvA, AV.isT, AV.allT, Nat.blt, Nat.ble, ptrAdd, lenT, Region.binds, List.range, List.range.loop, List.range', Nat.testBit_eq_decide_div_mod_eq, ixT, ixV, idx, convT, cvB, cvS, apT, apS, usdT, usT, nonNil, ptrEq, ptrB, asSl, slT, optI, mkT, elems, minmax, buildT, buildST, cellsL, fillA, roomy, bodyOf, posIn, nodupL, gcB, gcT, AV.refs, AV.refsL, inRefs, reach, gc, gcC, promo, promo1, slotsL, isHint, ph, isNil, outOf, undef, regOf, Tryz.f149, feedB, bytesA, h1]
end Go.Proofs.YtlpmemelhlnfbaaGreatDoor
