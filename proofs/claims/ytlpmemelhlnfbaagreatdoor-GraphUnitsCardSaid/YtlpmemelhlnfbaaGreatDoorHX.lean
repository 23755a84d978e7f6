/- linear.Valid, graph.Valid: what the calls return. graph.run, Values, Pre, Outputs; relucertref15.Small, Point, Outputs: what the calls return. GraphUnits: the law. -/
import Derived.Test.YtlpmemelhlnfbaaGreatDoorGX
import Derived.Test.YtlpmemelhlnfbaaGreatDoorXa
import Derived.Test.YtlpmemelhlnfbaaGreatDoorLX
import Derived.Test.YtlpmemelhlnfbaaGreatDoorNa
import Derived.Test.YtlpmemelhlnfbaaGreatDoorWY
import Derived.Test.YtlpmemelhlnfbaaGreatDoorNc
set_option linter.all false
set_option linter.all false
set_option maxRecDepth 100000
set_option maxHeartbeats 6400000
namespace Go.Proofs.YtlpmemelhlnfbaaGreatDoor
open Go.RowKit
attribute [local irreducible] run runL loopG exec

theorem lvalid_c {n : Nat} {f : Form} {vars : Int} (hB : BdF 17179869184 f) : run n 60 [formV f, .lit (.int .i64 vars)] = some (.lit (.bool (tv (OkFm f vars)))) := by
  have hl := hB.l
  have L := loopG_all (O := tab n) (P := Tryz.prog) (m := 0) (N := 56) (lives := livesOf 60) (r := 2) (C := lva_C2) (M := f.1.length) (enc := lva_h2 f vars) (p := fun i => tv (OkTm f.1 vars i)) (exN := .exit 0) (exE := .ret) (out := lva_o2b f) (outE := lva_o2a f) (by omega) (by simp) (by simp)
    (fun i hi hI => by
      have hx : f.1[i]? = some f.1[i] := List.getElem?_eq_getElem hi
      generalize f.1[i] = t at hx
      obtain ⟨v, c⟩ := t
      have hc : H c ≤ 17179869184 := hB.t _ (List.mem_of_getElem? hx)
      have C1 : (i : Int) < (f.1.length : Int) := by omega
      have W : InI ((i : Int) + 1) := ⟨by omega, by omega⟩
      have W2 : InI ((i : Int) - 1) := ⟨by omega, by omega⟩
      have hs : sgR c = 0 ↔ c = 0 := sgR_eq_zero
      by_cases h0 : 0 < i
      · have hy : f.1[i - 1]? = some (f.1[i - 1]'(by omega)) := List.getElem?_eq_getElem _
        generalize f.1[i - 1]'(by omega) = t at hy
        obtain ⟨v', c'⟩ := t
        refine ⟨fun hp => ?_, fun hp => ?_⟩
        · obtain ⟨a1, a2, a3, a4⟩ := tv_true hp v c hx
          have a5 := a4 v' c' h0 hy
          exact lva_r2_1 C1 hx (by omega) (by omega) (by omega) W2 hy (by omega) (by omega) hc (fun h => a3 (hs.1 h)) W
        · by_cases b1 : v < 0
          · exact lva_x2_1 C1 hx b1
          · by_cases b2 : vars ≤ v
            · exact lva_x2_2 C1 hx b1 b2
            · by_cases b3 : v ≤ v'
              · exact lva_x2_3 C1 hx b1 b2 (by omega) W2 hy (by omega) b3
              · by_cases b4 : c = 0
                · exact lva_x2_4 C1 hx b1 b2 (by omega) W2 hy (by omega) b3 hc (hs.2 b4)
                · refine absurd (fun u d hu => ?_) (tv_false hp)
                  rw [hx] at hu; cases hu
                  exact ⟨by omega, by omega, b4, fun v2 c2 _ h2 => by rw [hy] at h2; cases h2; omega⟩
      · refine ⟨fun hp => ?_, fun hp => ?_⟩
        · obtain ⟨a1, a2, a3, a4⟩ := tv_true hp v c hx
          exact lva_r2_2 C1 hx (by omega) (by omega) (by omega) hc (fun h => a3 (hs.1 h)) W
        · by_cases b1 : v < 0
          · exact lva_x2_1 C1 hx b1
          · by_cases b2 : vars ≤ v
            · exact lva_x2_2 C1 hx b1 b2
            · by_cases b4 : c = 0
              · exact lva_x2_5 C1 hx b1 b2 (by omega) hc (hs.2 b4)
              · refine absurd (fun u d hu => ?_) (tv_false hp)
                rw [hx] at hu; cases hu
                exact ⟨by omega, by omega, b4, fun v2 c2 h2 => absurd h2 h0⟩)
    (lva_x2_6 (by omega))
  by_cases h : OkFm f vars
  · rw [if_pos (fun i hi => tv_t (h i hi))] at L
    rw [tv_t h]
    exact lva_f2 L hB.k
  · rw [if_neg (fun h2 => h fun i hi => tv_true (h2 i hi))] at L
    rw [tv_f h]
    exact lva_f1 L
theorem gvc_c {n : Nat} {f : Form} {vars : Int} (hB : BdF 17179869184 f) : run (n + 1) 171 [formV f, .mem [.lit (.int .i64 vars)]] = some (.lit (.bool (!tv (OkFm f vars)))) := gvc_f1 (lvalid_c (n := n) hB)
theorem ifg_c {n : Nat} {L : List Form} {vars : Int} (hl : L.length ≤ 100000000) (hB : ∀ f ∈ L, BdF 17179869184 f) : ∃ r : Int, run (n + 2) 207 [.sl 4 (L.map formC), .clo 171 [.mem [.lit (.int .i64 vars)]]] = some (.lit (.int .i64 r)) ∧ (0 ≤ r ↔ ¬ ∀ f ∈ L, OkFm f vars) := by
  obtain ⟨ex, t, h1, h2⟩ := loopG_Q (β := Unit) (P := Tryz.prog) (O := tab (n + 2)) (m := 0) (N := 19) (lives := livesOf 207) (r := 2) (C := ifg_C2) (M := L.length) (enc := fun i _ => ifg_h2 L vars i)
    (fun i _ => ∀ j f, j < i → L[j]? = some f → OkFm f vars) (fun ex t => (ex = .exit 0 ∧ t = ifg_o2b ∧ ∀ f ∈ L, OkFm f vars) ∨ (ex = .ret ∧ ∃ i : Nat, t = ifg_o2a i ∧ ¬ ∀ f ∈ L, OkFm f vars)) () (fun j f hj => by omega) (by omega)
    (fun i b hi hI => by
      have hx : L[i]? = some L[i] := List.getElem?_eq_getElem hi
      generalize L[i] = f at hx
      have K := gvc_c (n := n) (vars := vars) (hB f (List.mem_of_getElem? hx))
      by_cases h : OkFm f vars
      · rw [tv_t h] at K
        refine .inl ⟨(), ifg_r2_1 (by omega) hx K rfl ⟨by omega, by omega⟩, fun j g hj hg => ?_⟩
        rcases Nat.lt_succ_iff_lt_or_eq.1 hj with h2 | rfl
        · exact hI j g h2 hg
        · rw [hx] at hg; cases hg; exact h
      · rw [tv_f h] at K
        exact .inr ⟨_, _, by simp, ifg_x2_1 (by omega) hx K rfl, .inr ⟨rfl, i, rfl, fun h2 => h (h2 f (List.mem_of_getElem? hx))⟩⟩)
    (fun b hI => ⟨_, _, by simp, ifg_x2_2 (by omega), .inl ⟨rfl, rfl, fun f hf => by
      obtain ⟨j, hj⟩ := List.mem_iff_getElem?.1 hf
      exact hI j f (List.getElem?_eq_some_iff.1 hj).1 hj⟩⟩)
  rcases h2 with ⟨rfl, rfl, h3⟩ | ⟨rfl, i, rfl, h3⟩
  · exact ⟨-1, ifg_f2 h1, fun h => by omega, fun h => absurd h3 h⟩
  · exact ⟨(i : Int), ifg_f1 h1, fun _ => h3, fun _ => by omega⟩
theorem gvs_c {n : Nat} {L : List Form} {vars : Int} (hl : L.length ≤ 100000000) (hB : ∀ f ∈ L, BdF 17179869184 f) : run (n + 4) 104 [.sl 4 (L.map formC), .lit (.int .i64 vars)] = some (.lit (.bool (tv (∀ f ∈ L, OkFm f vars)))) := by
  obtain ⟨r, h1, h2⟩ := ifg_c (n := n) (vars := vars) hl hB
  have h3 := gva_f1 (n := n) (cfg_f1 (n := n) h1)
  rw [h3]
  by_cases h : ∀ f ∈ L, OkFm f vars
  · rw [tv_t h, decide_eq_false (fun h4 => (h2.1 h4) h)]; rfl
  · rw [tv_f h, decide_eq_true (h2.2 h)]; rfl
theorem gvalid_c {n : Nat} {g : TGraph} (hB : BdG 17179869184 g) : run (n + 5) 41 [graphV g] = some (.lit (.bool (tv (OkGr g)))) := by
  have hlu := hB.lu
  have hlo := hB.lo
  by_cases c1 : g.Inputs < 1
  · rw [tv_f (fun h => by have := h.i0; omega)]; exact gV_f1 c1
  by_cases c2 : 256 < g.Inputs
  · rw [tv_f (fun h => by have := h.i1; omega)]; exact gV_f2 c1 c2
  by_cases c3 : 1024 < (g.Units.length : Int)
  · rw [tv_f (fun h => by have := h.u; omega)]; exact gV_f3 c1 c2 c3
  by_cases c4 : (g.Outputs.length : Int) < 1
  · rw [tv_f (fun h => by have := h.o0; omega)]; exact gV_f4 c1 c2 c3 c4
  by_cases c5 : 256 < (g.Outputs.length : Int)
  · rw [tv_f (fun h => by have := h.o1; omega)]; exact gV_f5 c1 c2 c3 c4 c5
  have hG := loopG_all (O := tab (n + 5)) (P := Tryz.prog) (m := 0) (N := 56) (lives := livesOf 41) (r := 4) (C := gV_C4) (M := g.Units.length) (enc := gV_h4 g) (p := fun i => tv (∀ f, g.Units[i]? = some f → OkFm f (g.Inputs + (i : Int)))) (exN := .exit 0) (exE := .ret) (out := gV_o4b g) (outE := gV_o4a g) (by omega) (by simp) (by simp)
    (fun i hi hI => by
      have hx : g.Units[i]? = some g.Units[i] := List.getElem?_eq_getElem hi
      generalize g.Units[i] = f at hx
      have C1 : (i : Int) < (g.Units.length : Int) := by omega
      have W : InI ((i : Int) + 1) := ⟨by omega, by omega⟩
      have W2 : InI (g.Inputs + (i : Int)) := ⟨by omega, by omega⟩
      have K := lvalid_c (n := n + 4) (vars := g.Inputs + (i : Int)) (hB.u f (List.mem_of_getElem? hx))
      have e : tv (∀ f, g.Units[i]? = some f → OkFm f (g.Inputs + (i : Int))) = tv (OkFm f (g.Inputs + (i : Int))) := tv_iff ⟨fun h => h f hx, fun h g hg => by rw [hx] at hg; cases hg; exact h⟩
      rw [e]
      exact ⟨fun hp => gV_r4_1 C1 hx W2 K hp W, fun hp => gV_x4_1 C1 hx W2 K hp⟩)
    (gV_x4_2 (by omega))
  by_cases h : ∀ i, i < g.Units.length → ∀ f, g.Units[i]? = some f → OkFm f (g.Inputs + (i : Int))
  · rw [if_pos (fun i hi => tv_t (h i hi))] at hG
    have K := gvs_c (n := n) (vars := g.Inputs + (g.Units.length : Int)) hlo hB.o
    have e : tv (OkGr g) = tv (∀ f ∈ g.Outputs, OkFm f (g.Inputs + (g.Units.length : Int))) := tv_iff ⟨fun k => k.ou, fun k => ⟨by omega, by omega, by omega, by omega, by omega, h, k⟩⟩
    rw [e]
    exact gV_f7 c1 c2 c3 c4 c5 hG ⟨by omega, by omega⟩ K
  · rw [if_neg (fun h2 => h fun i hi => tv_true (h2 i hi))] at hG
    rw [tv_f (fun k => h k.un)]
    exact gV_f6 c1 c2 c3 c4 c5 hG
end Go.Proofs.YtlpmemelhlnfbaaGreatDoor
set_option linter.all false
set_option maxRecDepth 100000
set_option maxHeartbeats 6400000
namespace Go.Proofs.YtlpmemelhlnfbaaGreatDoor
open Go.RowKit

theorem newG_c {n : Nat} {bs : List Int} (hl : bs.length ≤ 1000000) : runL n 74 [.sl 1 (bs.map intU8C)] [] = some (.ptr 2 0, [(2, fdB bs 0)]) := by
  unfold runL fnL fdB
  have hr : ∀ b, b ≤ 10000 → roomy bs.length b = true := fun b hb => roomy_s (by omega) hb
  simp +decide [Tryz.f74, hr]
attribute [local irreducible] run runL loopG exec
theorem small15_c {n : Nat} {bs : List Int} (hb : Byt bs) (hl : bs.length ≤ 1000000) : ∃ g : TGraph, run (n + 5) 20 [.sl 1 (bs.map intU8C)] = some (graphV g) ∧ GrOk g := by
  have K1 := newG_c (n := n + 4) hl
  obtain ⟨g, k1, K2, hg, hk⟩ := graph_c (n := n) hb (Nat.zero_le _)
  exact ⟨g, smf_f1 (r := ⟨bs, 0⟩) K1 K2, hg⟩
theorem point_c {n : Nat} {bs : List Int} (hb : Byt bs) (hl : bs.length ≤ 1000000) {I : Int} (h0 : 0 ≤ I) (h1 : I ≤ 1000) : ∃ X : List Rat, run (n + 2) 27 [.sl 1 (bs.map intU8C), .lit (.int .i64 I)] = some (.sl 3 (X.map ratC)) ∧ (X.length : Int) = I ∧ ∀ q ∈ X, H q ≤ 2 := by
  have K1 := newG_c (n := n + 1) hl
  obtain ⟨b, hL, hI1, hI2, hI3⟩ := loopG_R (O := tab (n + 2)) (P := Tryz.prog) (m := 0) (N := 21) (lives := livesOf 27) (r := 4) (C := poi_C4) (exN := .exit 0) (M := I.toNat)
    (enc := fun i (b : List Rat × Nat) => poi_h4 I b.1 i ⟨bs, 0⟩ (b.2 : Int)) (out := fun b => poi_o4a b.1)
    (fun i b => b.2 ≤ bs.length ∧ b.1.length = i ∧ ∀ q ∈ b.1, H q ≤ 2) ([], 0) ⟨Nat.zero_le _, rfl, fun q hq => by cases hq⟩ (by omega) (by simp)
    (fun i b hi hI => by
      obtain ⟨o, k⟩ := b
      obtain ⟨i1, i2, i3⟩ := hI
      dsimp only at i1 i2 i3
      have N1 := num_c (n := n) hb i1
      refine ⟨(o ++ [(numN bs k).1], (numN bs k).2), poi_r4_1 (r := ⟨bs, 0⟩) (by omega) N1 (by dsimp only; omega) ⟨by omega, by omega⟩, numN_le i1, by dsimp only; rw [List.length_append, i2]; rfl, fun q hq => ?_⟩
      rcases List.mem_append.1 hq with h | h
      · exact i3 q h
      · rw [List.mem_singleton.1 h]; exact numN_few bs k)
    (fun b hI => poi_x4_1 (by omega))
  exact ⟨b.1, poi_f1 (r := ⟨bs, 0⟩) K1 hL, by omega, hI3⟩

/-! values, plainly -/
theorem evV_eq (X : List Rat) (f : Form) : evV X f = f.2 + evS X f.1 := evS_fold X f.1 f.2
theorem evS_ext {X Y : List Rat} : ∀ {F : List (Int × Rat)}, (∀ t ∈ F, X.getD t.1.toNat 0 = Y.getD t.1.toNat 0) → evS X F = evS Y F
  | [], _ => rfl
  | t :: F, h => by
    unfold evS
    rw [h t (by simp), evS_ext fun u hu => h u (by simp [hu])]
theorem evV_app {X R : List Rat} {f : Form} (h : InR X.length f.1) : evV (X ++ R) f = evV X f := by
  rw [evV_eq, evV_eq, evS_ext fun t ht => ?_]
  have := h t ht
  rw [List.getD_eq_getElem?_getD, List.getD_eq_getElem?_getD, List.getElem?_append_left (by omega)]
def valS (_ : Nat) (o : List Rat × List Rat × Nat) (f : Form) : List Rat × List Rat × Nat := (o.1 ++ [max0 (evV o.1 f)], o.2.1 ++ [evV o.1 f], o.1.length)
theorem valV_step {X : List Rat} {U : List Form} {f : Form} : valV (f :: U) X = valV U (X ++ [max0 (evV X f)]) := by
  have key : ∀ (U : List Form) (i j : Nat) (o : List Rat), foldI (fun _ out f => out ++ [max0 (evV out f)]) i o U = foldI (fun _ out f => out ++ [max0 (evV out f)]) j o U := fun U => by
    induction U with
    | nil => intro i j o; rfl
    | cons f U ih => intro i j o; exact ih _ _ _
  exact key U 1 0 _
theorem valV_ext : ∀ (U : List Form) (X : List Rat), ∃ R, valV U X = X ++ R ∧ R.length = U.length
  | [], X => ⟨[], by simp [valV, foldI], rfl⟩
  | f :: U, X => by
    obtain ⟨R, h, hl⟩ := valV_ext U (X ++ [max0 (evV X f)])
    exact ⟨max0 (evV X f) :: R, by rw [valV_step, h, List.append_assoc]; rfl, by simp [hl]⟩
/-- the forms of the units look back only -/
def Back (k : Nat) (U : List Form) : Prop := ∀ i f, U[i]? = some f → InR (k + i) f.1
theorem Back.tail {k : Nat} {f : Form} {U : List Form} (h : Back k (f :: U)) : Back (k + 1) U := fun i g hg => by
  have := h (i + 1) g (by simpa using hg)
  rwa [show k + (i + 1) = k + 1 + i from by omega] at this
theorem Back.head {k : Nat} {f : Form} {U : List Form} (h : Back k (f :: U)) : InR k f.1 := h 0 f rfl
theorem valS_fold : ∀ (U : List Form) (i : Nat) (X P : List Rat) (z : Nat), Back X.length U →
    (foldI valS i (X, P, z) U).1 = valV U X ∧ (foldI valS i (X, P, z) U).2.1 = P ++ U.map fun f => evV (valV U X) f
  | [], i, X, P, z, h => ⟨rfl, by simp [foldI]⟩
  | f :: U, i, X, P, z, h => by
    have ht := h.tail
    obtain ⟨h1, h2⟩ := valS_fold U (i + 1) (X ++ [max0 (evV X f)]) (P ++ [evV X f]) X.length (by rw [List.length_append]; exact ht)
    rw [foldI]
    refine ⟨by rw [valV_step]; exact h1, ?_⟩
    refine h2.trans ?_
    rw [valV_step, List.append_assoc, List.map_cons]
    congr 1
    obtain ⟨R, hR, _⟩ := valV_ext U (X ++ [max0 (evV X f)])
    rw [hR, List.append_assoc, evV_app h.head]
    rfl
theorem OkGr.back {g : TGraph} {X : List Rat} (h : OkGr g) (hX : (X.length : Int) = g.Inputs) : Back X.length g.Units := fun i f hf t ht => by
  have hlt := (List.getElem?_eq_some_iff.1 hf).1
  obtain ⟨j, hj⟩ := List.mem_iff_getElem?.1 ht
  have := h.un i hlt f hf j (List.getElem?_eq_some_iff.1 hj).1 t.1 t.2 hj
  exact ⟨this.1, by omega⟩
theorem OkGr.out {g : TGraph} (h : OkGr g) {f : Form} (hf : f ∈ g.Outputs) : ∀ t ∈ f.1, 0 ≤ t.1 ∧ t.1 < g.Inputs + (g.Units.length : Int) := fun t ht => by
  obtain ⟨j, hj⟩ := List.mem_iff_getElem?.1 ht
  have := h.ou f hf j (List.getElem?_eq_some_iff.1 hj).1 t.1 t.2 hj
  exact ⟨this.1, this.2.1⟩

/-! the program's values -/
theorem pmax0_c {n : Nat} {q : Rat} (hq : H q ≤ 17179869184) : run n 165 [.agg [.lit (.bool false), .sl 1 [], .sl 1 []], ratV q] = some (ratV (max0 q)) := by
  have e : ratV 0 = .agg [.lit (.bool false), .sl 1 [], .sl 1 []] := by simp
  have h0 : H 0 ≤ 17179869184 := by decide
  rw [← e]
  have hs : (0 ≤ sgR (0 - q)) ↔ q ≤ 0 := by
    rw [sgq_nonneg]
    constructor <;> intro h <;> grind
  unfold max0
  by_cases h : q ≤ 0
  · have e2 : (if 0 ≤ q then q else 0) = 0 := by split <;> grind
    rw [e2]
    exact pmx_f1 h0 hq (hs.2 h)
  · rw [if_pos (by grind)]
    exact pmx_f2 h0 hq fun h2 => h (hs.1 h2)
theorem grun_c {n : Nat} {g : TGraph} {X : List Rat} {a l b : Nat} (hG : OkGr g) (hB : BdG a g) (ha : a ≤ 1000000) (hl : ∀ f ∈ g.Units, f.1.length ≤ l) (hX : (X.length : Int) = g.Inputs) (hb : ∀ q ∈ X, H q ≤ b) (hbnd : bndV a l b g.Units.length ≤ 100000000) :
    run (n + 6) 96 [graphV g, .sl 3 (X.map ratC)] = some (.tup [.sl 3 ((valV g.Units X).map ratC), .sl 3 ((g.Units.map fun f => evV (valV g.Units X) f).map ratC), .lit (.int .i64 0)]) := by
  have hi0 := hG.i0
  have hi1 := hG.i1
  have hu := hG.u
  have K := gvalid_c (n := n) (hB.mono (by omega))
  rw [tv_t hG] at K
  have hb0 : b ≤ 100000000 := Nat.le_trans (bndV_mono a l b (Nat.zero_le _)) hbnd
  have L1 := (loopG_I (O := tab (n + 6)) (P := Tryz.prog) (m := 0) (N := 61) (lives := livesOf 96) (r := 4) (C := grn_C4) (L := X) (f := fun _ o x => o ++ [x]) (enc := fun i o => grn_h4 g X o i) (exN := .exit 0) (out := fun o => grn_o4a g o) (Inv := fun i o => o.length = i) [] rfl (by omega) (by simp)
    (fun i x o hi hI => by
      have hlt := (List.getElem?_eq_some_iff.1 hi).1
      have := hb x (List.mem_of_getElem? hi)
      exact ⟨grn_r4_1 (by omega) hi (by omega) (by omega) ⟨by omega, by omega⟩, by rw [List.length_append, hI]; rfl⟩)
    (fun o hI => grn_x4_1 (by omega))).1
  have key : ∀ (R : List Rat) (i : Nat) (o : List Rat), foldI (fun _ o x => o ++ [x]) i o R = o ++ R := fun R => by
    induction R with
    | nil => intro i o; simp [foldI]
    | cons x R ih => intro i o; rw [foldI, ih]; simp
  rw [key, List.nil_append] at L1
  have L2 := (loopG_I (O := tab (n + 6)) (P := Tryz.prog) (m := 0) (N := 61) (lives := livesOf 96) (r := 9) (C := grn_C9) (L := g.Units) (f := valS) (enc := fun i o => grn_h9 g o.1 o.2.1 i o.2.2) (exN := .exit 2) (out := fun o => grn_o9a o.1 o.2.1 o.2.2) (Inv := fun i o => o.1.length = X.length + i ∧ (∀ q ∈ o.1, H q ≤ bndV a l b i) ∧ i ≤ g.Units.length ∧ o.2.1.length = i) (X, [], 0) ⟨rfl, hb, by omega, rfl⟩ (by omega) (by simp)
    (fun i f o hi hI => by
      obtain ⟨o, p, fz⟩ := o
      obtain ⟨h1, h2, h3, h4⟩ := hI
      dsimp only at h1 h2 h4
      have hlt := (List.getElem?_eq_some_iff.1 hi).1
      have hf := List.mem_of_getElem? hi
      have hBf := hB.u f hf
      have hlf := hl f hf
      have hOk := hG.un i hlt f hi
      have hm : bndV a l b (i + 1) ≤ bndV a l b g.Units.length := bndV_mono a l b hlt
      have e1 : bndV a l b (i + 1) = bndV a l b i + a + l * (a + bndV a l b i + 1) := rfl
      have hmul : f.1.length * (a + bndV a l b i + 1) ≤ l * (a + bndV a l b i + 1) := Nat.mul_le_mul_right _ hlf
      have hin : InR o.length f.1 := fun t ht => by
        obtain ⟨j, hj⟩ := List.mem_iff_getElem?.1 ht
        have := hOk j (List.getElem?_eq_some_iff.1 hj).1 t.1 t.2 hj
        exact ⟨this.1, by omega⟩
      have hE := pev_c (n := n + 5) (f := f) (X := o) hBf.t h2 hBf.k (by omega) hBf.l (by omega) (by omega)
      rw [(evR_in hin).1, ← evV_eq] at hE
      have hHv : H (evV o f) ≤ a + f.1.length * (a + bndV a l b i + 1) := (eval_ok (n := n) (f := f) (X := o) hBf.t h2 hBf.k (by omega) hBf.l (by omega) (by omega) hin).2
      have hM := pmax0_c (n := n + 5) (q := evV o f) (by omega)
      have hH := max0_H (evV o f)
      unfold valS
      dsimp only
      refine ⟨grn_r9_1 (r8 := evV o f) (by omega) hi hE (by omega) hM (by omega) ⟨by omega, by omega⟩, by rw [List.length_append, h1]; rfl, fun q hq => ?_, hlt, by rw [List.length_append, h4]; rfl⟩
      rcases List.mem_append.1 hq with h | h
      · exact Nat.le_trans (h2 q h) (bndV_mono a l b (by omega))
      · rw [List.mem_singleton.1 h]; omega)
    (fun o hI => grn_x9_1 (by omega))).1
  obtain ⟨e1, e2⟩ := valS_fold g.Units 0 X [] 0 (hG.back hX)
  rw [e1, e2, List.nil_append] at L2
  exact grn_f3 K rfl hX L1 L2
theorem gvalues_c {n : Nat} {g : TGraph} {X : List Rat} {a l b : Nat} (hG : OkGr g) (hB : BdG a g) (ha : a ≤ 1000000) (hl : ∀ f ∈ g.Units, f.1.length ≤ l) (hX : (X.length : Int) = g.Inputs) (hb : ∀ q ∈ X, H q ≤ b) (hbnd : bndV a l b g.Units.length ≤ 100000000) :
    run (n + 7) 32 [graphV g, .sl 3 (X.map ratC)] = some (.tup [.sl 3 ((valV g.Units X).map ratC), .lit (.int .i64 0)]) := gVa_f1 (grun_c (n := n) hG hB ha hl hX hb hbnd)
theorem gpre_c {n : Nat} {g : TGraph} {X : List Rat} {a l b : Nat} (hG : OkGr g) (hB : BdG a g) (ha : a ≤ 1000000) (hl : ∀ f ∈ g.Units, f.1.length ≤ l) (hX : (X.length : Int) = g.Inputs) (hb : ∀ q ∈ X, H q ≤ b) (hbnd : bndV a l b g.Units.length ≤ 100000000) :
    run (n + 7) 33 [graphV g, .sl 3 (X.map ratC)] = some (.tup [.sl 3 ((g.Units.map fun f => evV (valV g.Units X) f).map ratC), .lit (.int .i64 0)]) := gPr_f1 (grun_c (n := n) hG hB ha hl hX hb hbnd)
theorem fpre_c {n : Nat} {g : TGraph} {X : List Rat} {a l b : Nat} (hG : OkGr g) (hB : BdG a g) (ha : a ≤ 1000000) (hl : ∀ f ∈ g.Units, f.1.length ≤ l) (hX : (X.length : Int) = g.Inputs) (hb : ∀ q ∈ X, H q ≤ b) (hbnd : bndV a l b (g.Units.length + 1) ≤ 100000000) :
    run (n + 5) 36 [graphV g, .sl 3 (X.map ratC)] = some (.tup [.sl 3 ((g.Units.map fun f => evV (valV g.Units X) f).map ratC), .lit (.int .i64 0)]) ∧ ∀ f ∈ g.Units, H (evV (valV g.Units X) f) ≤ bndV a l b (g.Units.length + 1) := by
  have h := forms_c (n := n) (L := g.Units) hG hB ha hl hX hb hbnd (by have := hG.u; omega) (fun f hf => ⟨hB.u f hf, hl f hf, fun t ht => by
    obtain ⟨i, hi⟩ := List.mem_iff_getElem?.1 hf
    have hlt := (List.getElem?_eq_some_iff.1 hi).1
    have := (hG.back hX) i f hi t ht
    exact ⟨this.1, by omega⟩⟩)
  exact ⟨pr_f1 h.1, h.2⟩
/-! a small graph's bounds -/
theorem GrOk.lu {g : TGraph} (h : GrOk g) : ∀ f ∈ g.Units, f.1.length ≤ 7 := fun f hf => by
  obtain ⟨i, hi⟩ := List.mem_iff_getElem?.1 hf
  have hlt := (List.getElem?_eq_some_iff.1 hi).1
  have := (h.un i f hi).l.len
  have := h.i1
  have := h.u
  omega
theorem GrOk.lo {g : TGraph} (h : GrOk g) : ∀ f ∈ g.Outputs, f.1.length ≤ 7 := fun f hf => by
  have := (h.ou f hf).l.len
  have := h.i1
  have := h.u
  omega
theorem GrOk.bnd {g : TGraph} (h : GrOk g) : bndV 2 7 2 (g.Units.length + 1) ≤ 1000000 := by
  have := h.u
  exact Nat.le_trans (bndV_mono 2 7 2 (i := g.Units.length + 1) (j := 5) (by omega)) (by decide)
end Go.Proofs.YtlpmemelhlnfbaaGreatDoor
set_option linter.all false
set_option maxRecDepth 100000
set_option maxHeartbeats 6400000
namespace Go.Proofs.YtlpmemelhlnfbaaGreatDoor
open Go.RowKit
attribute [local irreducible] run runL loopG exec gun

theorem valV_at : ∀ {U : List Form} {X : List Rat} {i : Nat} {f : Form}, Back X.length U → U[i]? = some f → (valV U X)[X.length + i]? = some (max0 (evV (valV U X) f))
  | g :: U, X, 0, f, h, hf => by
    have e : g = f := by simpa using hf
    subst e
    obtain ⟨R, hR, _⟩ := valV_ext U (X ++ [max0 (evV X g)])
    have e2 : evV (valV (g :: U) X) g = evV X g := by rw [valV_step, hR, List.append_assoc, evV_app h.head]
    rw [e2, valV_step, hR, List.append_assoc, List.getElem?_append_right (by omega)]
    simp
  | g :: U, X, i + 1, f, h, hf => by
    have ht := h.tail
    have h2 := valV_at (U := U) (X := X ++ [max0 (evV X g)]) (i := i) (f := f) (by rw [List.length_append]; exact ht) (by simpa using hf)
    rw [valV_step]
    rw [List.length_append] at h2
    rwa [show X.length + (i + 1) = X.length + [max0 (evV X g)].length + i from by rw [List.length_singleton]; omega]
theorem max0_le (q : Rat) : 0 ≤ max0 q ∧ q ≤ max0 q ∧ (0 < max0 q → max0 q = q) := by
  unfold max0
  split <;> refine ⟨?_, ?_, ?_⟩ <;> grind
theorem units_true {n : Nat} {bs ps : List Int} (hbs : ∀ x ∈ bs, 0 ≤ x ∧ x < 256) (hps : ∀ x ∈ ps, 0 ≤ x ∧ x < 256) : gun n [.sl 1 (bs.map intU8C), .sl 1 (ps.map intU8C)] = some (.lit (.bool true)) := by
  by_cases c1 : 400 < (bs.length : Int)
  · exact gun_f1 c1
  by_cases c2 : 40 < (ps.length : Int)
  · exact gun_f2 c1 c2
  obtain ⟨g, K3, hg⟩ := small15_c (n := n + 4) ⟨by omega, hbs⟩ (by omega)
  have := hg.i0
  have := hg.i1
  have hu := hg.u
  obtain ⟨X, K4, hX, hXb⟩ := point_c (n := n + 7) ⟨by omega, hps⟩ (by omega) (I := g.Inputs) (by omega) (by omega)
  have hb := hg.bnd
  have hb2 : bndV 2 7 2 g.Units.length ≤ 1000000 := Nat.le_trans (bndV_mono 2 7 2 (by omega)) hb
  have K5 := gvalues_c (n := n + 2) hg.ok hg.bd (by omega) hg.lu hX hXb (by omega)
  have K6 := gpre_c (n := n + 2) hg.ok hg.bd (by omega) hg.lu hX hXb (by omega)
  obtain ⟨_, hV, hVl⟩ := values_c (n := n) hg.ok hg.bd (by omega) hg.lu hX hXb (by omega)
  have hP := (fpre_c (n := n) hg.ok hg.bd (by omega) hg.lu hX hXb (by omega)).2
  have hB := hg.ok.back hX
  generalize hv : valV g.Units X = V at *
  have L12 := (loopG_I (O := gunT n) (P := Tryz.prog) (m := 0) (N := 105) (lives := livesOf 7) (r := 12) (C := gun_C12) (L := g.Units) (f := fun _ (b : Unit) _ => b) (enc := fun i _ => gun_h12 V (g.Units.map fun f => evV V f) i g) (exN := .exit 0) (out := fun _ => gun_o12b) (Inv := fun _ _ => True) () trivial (by omega) (by simp)
    (fun i f b hi hI => by
      have hlt := (List.getElem?_eq_some_iff.1 hi).1
      have hf := List.mem_of_getElem? hi
      have h1 := valV_at hB hi
      rw [hv] at h1
      have e : (g.Inputs + (i : Int)).toNat = X.length + i := by omega
      have h2 : (g.Units.map fun f => evV V f)[i]? = some (evV V f) := by rw [List.getElem?_map, hi]; rfl
      have h3 := hP f hf
      have h4 := max0_H (evV V f)
      obtain ⟨m1, m2, m3⟩ := max0_le (evV V f)
      have C1 : (i : Int) < ((g.Units.map fun f => evV V f).length : Int) := by rw [List.length_map]; omega
      have s1 : ¬ sgR (max0 (evV V f)) < 0 := by have := sgq_nonneg.2 m1; omega
      have s2 : ¬ sgR (max0 (evV V f) - evV V f) < 0 := by
        have : 0 ≤ max0 (evV V f) - evV V f := by grind
        have := sgq_nonneg.2 this
        omega
      refine ⟨?_, trivial⟩
      by_cases hp : 0 < max0 (evV V f)
      · refine gun_r12_1 C1 ⟨by omega, by omega⟩ (by rw [e]; exact h1) (by omega) (by omega) s1 h2 (by omega) s2 (sgq_pos.2 hp) ?_ ⟨by omega, by omega⟩
        rw [m3 hp]
        exact sgR_eq_zero.2 (by grind)
      · exact gun_r12_2 C1 ⟨by omega, by omega⟩ (by rw [e]; exact h1) (by omega) (by omega) s1 h2 (by omega) s2 (fun h => hp (sgq_pos.1 h)) ⟨by omega, by omega⟩)
    (fun b hI => gun_x12_4 (by rw [List.length_map]; omega))).1
  exact gun_f8 c1 c2 K3 K4 K5 K6 rfl rfl ⟨by omega, by omega⟩ (by omega) (by rw [List.length_map]) L12
end Go.Proofs.YtlpmemelhlnfbaaGreatDoor
