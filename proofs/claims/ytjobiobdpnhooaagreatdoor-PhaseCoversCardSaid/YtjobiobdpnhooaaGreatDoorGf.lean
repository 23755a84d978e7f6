/- phase.Opposite; relucertlaw34.large at one decision; relucertlaw34.PhaseCovers: what they return. -/
import Derived.Test.YtjobiobdpnhooaaGreatDoorGe
set_option linter.all false
set_option linter.all false
set_option maxRecDepth 100000
set_option maxHeartbeats 6400000
namespace Go.Proofs.YtjobiobdpnhooaaGreatDoor
open Go.RowKit

/-- the opposite -/
theorem opp_c {n : Nat} {d : TDecisionR} : run n 11 [decisionRV d] = some (decisionRV (oppD d)) := by
  obtain ⟨K, I, r⟩ := d
  by_cases k1 : K = 1
  · subst k1; unfold run fnP; simp +decide [Tryz.f11, decisionRV, oppD]
  by_cases k2 : K = 2
  · subst k2; unfold run fnP; simp +decide [Tryz.f11, decisionRV, oppD]
  by_cases k3 : K = 3
  · subst k3; unfold run fnP; simp +decide [Tryz.f11, decisionRV, oppD]
  by_cases k4 : K = 4
  · subst k4; unfold run fnP; simp +decide [Tryz.f11, decisionRV, oppD]
  by_cases h0 : 0 < K
  · have h5 : ¬ K < 5 := by omega
    unfold run fnP; simp +decide [Tryz.f11, decisionRV, oppD, k1, k2, k3, k4, h0, h5]
  · unfold run fnP; simp +decide [Tryz.f11, decisionRV, oppD, k1, k2, k3, k4, h0]
def rdC (d : TDecisionR) : List AV := [.lit (.int .i64 d.Kind), .lit (.int .i64 d.Index), .lit (.bool d.At.s), natA d.At.l1, natA d.At.l2]
noncomputable def lg_C4 : Code := (loopsOf (bodyOf Tryz.f6)).getD 0 .skip
def lg_h (d : TDecisionR) (i : Nat) : St := ⟨[(8, .sl 5 [rdC d]), (9, .lit (.int .i64 1)), (10, .lit (.int .i64 (i : Int)))], [], 0⟩
def lg_oE : St := ⟨[(2, .lit (.bool true))], [], 0⟩
def lg_oN : St := ⟨[(2, .any)], [], 0⟩
def lgP (d : TDecisionR) : Bool := decide (d.At.l1.length ≤ 8 ∧ d.At.l2.length ≤ 8)
theorem lg_r {n : Nat} {d : TDecisionR} (h1 : d.At.l1.length ≤ 8) (h2 : d.At.l2.length ≤ 8) :
    Cont 0 (exec Tryz.prog (tab n) 0 27 (livesOf 6) big lg_C4) (livesOf 6 4) (lg_h d 0) (lg_h d 1) := by
  have c1 : ¬ (8 : Int) < (d.At.l1.length : Int) := by omega
  have c2 : ¬ (8 : Int) < (d.At.l2.length : Int) := by omega
  have c1' : ¬ 8 < d.At.l1.length := by omega
  have c2' : ¬ 8 < d.At.l2.length := by omega
  have W : IntKind.i64.wrap (0 + 1) = 1 := by decide +kernel
  unfold Cont
  simp +decide [lg_h, loopsOf, Tryz.f6, lg_C4, rdC, natA, c1, c2, c1', c2', h1, h2, W]
theorem lg_x1 {n : Nat} {d : TDecisionR} (h1 : ¬ d.At.l1.length ≤ 8) :
    Leave 0 (exec Tryz.prog (tab n) 0 27 (livesOf 6) big lg_C4) (livesOf 6 (outOf 4)) (lg_h d 0) .ret lg_oE := by
  have c1 : (8 : Int) < (d.At.l1.length : Int) := by omega
  have c1' : 8 < d.At.l1.length := by omega
  unfold Leave
  simp +decide [lg_h, loopsOf, Tryz.f6, lg_C4, lg_oE, rdC, natA, c1, c1', h1]
theorem lg_x2 {n : Nat} {d : TDecisionR} (h1 : d.At.l1.length ≤ 8) (h2 : ¬ d.At.l2.length ≤ 8) :
    Leave 0 (exec Tryz.prog (tab n) 0 27 (livesOf 6) big lg_C4) (livesOf 6 (outOf 4)) (lg_h d 0) .ret lg_oE := by
  have c1 : ¬ (8 : Int) < (d.At.l1.length : Int) := by omega
  have c2 : (8 : Int) < (d.At.l2.length : Int) := by omega
  have c1' : ¬ 8 < d.At.l1.length := by omega
  have c2' : 8 < d.At.l2.length := by omega
  unfold Leave
  simp +decide [lg_h, loopsOf, Tryz.f6, lg_C4, lg_oE, rdC, natA, c1, c2, c1', c2', h1, h2]
theorem lg_x3 {n : Nat} {d : TDecisionR} :
    Leave 0 (exec Tryz.prog (tab n) 0 27 (livesOf 6) big lg_C4) (livesOf 6 (outOf 4)) (lg_h d 1) (.exit 0) lg_oN := by
  unfold Leave
  simp +decide [lg_h, loopsOf, Tryz.f6, lg_C4, lg_oN]
theorem lg_loop {n : Nat} {d : TDecisionR} : loopG Tryz.prog (tab n) 0 27 (livesOf 6) 4 lg_C4 (lg_h d 0) = some (if lgP d = true then (.exit 0, lg_oN) else (.ret, lg_oE)) := by
  have h := loopG_Q (P := Tryz.prog) (O := tab n) (m := 0) (N := 27) (lives := livesOf 6) (r := 4) (C := lg_C4) (M := 1) (enc := fun i (_ : Unit) => lg_h d i) (fun i _ => i = 1 → lgP d = true) (fun ex t => (ex, t) = if lgP d = true then (.exit 0, lg_oN) else (.ret, lg_oE)) ()
    (fun h => by cases h) (by omega) (fun i b hi hI => by
      obtain rfl : i = 0 := by omega
      by_cases h1 : d.At.l1.length ≤ 8
      · by_cases h2 : d.At.l2.length ≤ 8
        · exact .inl ⟨(), lg_r h1 h2, fun _ => decide_eq_true ⟨h1, h2⟩⟩
        · have e : lgP d = false := decide_eq_false (fun h => h2 h.2)
          exact .inr ⟨_, _, by simp, lg_x2 h1 h2, by simp [e]⟩
      · have e : lgP d = false := decide_eq_false (fun h => h1 h.1)
        exact .inr ⟨_, _, by simp, lg_x1 h1, by simp [e]⟩) (fun b hI => ⟨_, _, by simp, lg_x3, by simp [hI rfl]⟩)
  obtain ⟨ex, t, h1, h2⟩ := h
  rw [h1, h2]
theorem largeA_c {n : Nat} {d : TDecisionR} : run n 6 [.sl 5 [rdC d]] = some (.lit (.bool (!lgP d))) := by
  have L1 := lg_loop (n := n) (d := d)
  by_cases h : lgP d = true
  · rw [if_pos h] at L1
    unfold run fnP
    simp +decide [Tryz.f6]
    rw [loopX_G (C' := lg_C4) (e := lg_h d 0) ?_ ?_, L1]
    rotate_left
    · kernel_rfl
    · simp +decide [lg_h]
    simp +decide [lg_oN, h]
  · rw [if_neg h] at L1
    unfold run fnP
    simp +decide [Tryz.f6]
    rw [loopX_G (C' := lg_C4) (e := lg_h d 0) ?_ ?_, L1]
    rotate_left
    · kernel_rfl
    · simp +decide [lg_h]
    simp +decide [lg_oE, h]
end Go.Proofs.YtjobiobdpnhooaaGreatDoor
