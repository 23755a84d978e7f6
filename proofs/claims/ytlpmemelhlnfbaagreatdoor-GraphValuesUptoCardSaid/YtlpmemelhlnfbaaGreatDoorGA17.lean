/- Values of sums and multiples of forms; bounds. linear.Eval, Coef, copied; relucertref07.Coef: what they return. linear.Valid, graph.Valid: what the calls return. relucertref15.Small, Point, Outputs, Pre: what the calls return. graph.run, Values, Pre, Outputs: what the calls return. -/
import Derived.Test.YtlpmemelhlnfbaaGreatDoorGA16
import Derived.Test.YtlpmemelhlnfbaaGreatDoorGA9
import Derived.Test.YtlpmemelhlnfbaaGreatDoorGA8
import Derived.Test.YtlpmemelhlnfbaaGreatDoorGA7
import Derived.Test.YtlpmemelhlnfbaaGreatDoorGA10
set_option linter.all false
set_option linter.all false
namespace Go.Proofs.YtlpmemelhlnfbaaGreatDoor
open Go.RowKit

/-- what the terms are worth together -/
def evS (X : List Rat) : List (Int × Rat) → Rat
  | [] => 0
  | t :: F => t.2 * X.getD t.1.toNat 0 + evS X F
theorem evS_fold (X : List Rat) : ∀ (F : List (Int × Rat)) (s : Rat), F.foldl (fun s t => s + t.2 * X.getD t.1.toNat 0) s = s + evS X F
  | [], s => by rw [List.foldl_nil, evS]; grind
  | t :: F, s => by rw [List.foldl_cons, evS_fold X F, evS]; grind
/-- the variables lie in range -/
def InR (k : Nat) (F : List (Int × Rat)) : Prop := ∀ t ∈ F, 0 ≤ t.1 ∧ t.1 < (k : Int)
theorem InR.app {k : Nat} {F G : List (Int × Rat)} (h : InR k F) (g : InR k G) : InR k (F ++ G) := fun t ht => (List.mem_append.1 ht).elim (h t) (g t)
theorem InR.put {k : Nat} {v : Int} {q : Rat} (h : 0 ≤ v ∧ v < (k : Int)) : InR k (put1 v q) := fun t ht => by
  obtain ⟨rfl, _⟩ := put1_mem ht
  exact h
theorem InR.plus {k : Nat} {v : Int} {c : Rat} (hv : 0 ≤ v ∧ v < (k : Int)) : ∀ {d : Bool} {F : List (Int × Rat)}, InR k F → InR k (plusV d F v c)
  | d, [], _ => by
    rw [plusV]
    split
    · exact fun t ht => by cases ht
    · exact InR.put hv
  | d, t :: F, h => by
    have ht : 0 ≤ t.1 ∧ t.1 < (k : Int) := h t (by simp)
    have hF : InR k F := fun u hu => h u (by simp [hu])
    rw [plusV]
    split
    · exact (InR.put ht).app (InR.plus hv hF)
    · split
      · exact (InR.put hv).app ((InR.put ht).app (InR.plus hv hF))
      · exact (InR.put ht).app (InR.plus hv hF)
theorem InR.add {k : Nat} : ∀ {G F : List (Int × Rat)}, InR k F → InR k G → InR k (addV F G)
  | [], F, h, _ => h
  | t :: G, F, h, g => by
    have e : addV F (t :: G) = addV (plusV false F t.1 t.2) G := rfl
    rw [e]
    exact InR.add (InR.plus (g t (by simp)) h) fun u hu => g u (by simp [hu])
theorem evR_in {X : List Rat} {f : Form} (h : InR X.length f.1) : evR X f = .tup [ratV (f.2 + evS X f.1), .lit (.int .i64 0)] ∧ foldE (evF X) 0 f.2 f.1 = .ok (f.2 + evS X f.1) := by
  have e := evF_ok (X := X) (F := f.1) 0 f.2 h
  rw [evS_fold] at e
  refine ⟨?_, e⟩
  unfold evR
  rw [e]
theorem TmB.add {b : Nat} : ∀ {G F : List (Int × Rat)} {m : Nat}, TmB m F → TmB b G → TmB (m + (b + 1) * G.length) (addV F G)
  | [], F, m, h, _ => h
  | t :: G, F, m, h, g => by
    have e : addV F (t :: G) = addV (plusV false F t.1 t.2) G := rfl
    rw [e]
    refine (TmB.add (TmB.plus (g t (by simp)).2 h) fun u hu => g u (by simp [hu])).mono ?_
    rw [List.length_cons, Nat.mul_add]
    omega
theorem TmB.bd {m : Nat} {f : Form} (h : TmB m f.1) (hl : f.1.length ≤ 100000000) (hk : H f.2 ≤ m) : BdF m f := ⟨hl, fun t ht => (h t ht).2, hk⟩
end Go.Proofs.YtlpmemelhlnfbaaGreatDoor
set_option linter.all false
set_option maxRecDepth 100000
set_option maxHeartbeats 6400000
namespace Go.Proofs.YtlpmemelhlnfbaaGreatDoor
open Go.RowKit
attribute [local irreducible] run runL loopG exec

theorem pev_c {n : Nat} {f : Form} {X : List Rat} {a b k : Nat} (ha : ∀ t ∈ f.1, H t.2 ≤ a) (hb : ∀ q ∈ X, H q ≤ b) (hk : H f.2 ≤ k) (hX : X.length ≤ 100000000) (hF : f.1.length ≤ 100000000) (hs : k + f.1.length * (a + b + 1) ≤ 17179869184) (hab : a + b ≤ 17179869184) :
    run n 97 [formV f, .sl 3 (X.map ratC)] = some (evR X f) := by
  have L := loopG_E (O := tab n) (P := Tryz.prog) (m := 0) (N := 42) (lives := livesOf 97) (r := 3) (C := lev_C3) (L := f.1) (f := evF X) (enc := fun i s => lev_h3 f X i s) (exN := .exit 0) (exE := .ret) (out := lev_o3b) (outE := lev_o3a) (Inv := fun i s => H s ≤ k + i * (a + b + 1) ∧ i ≤ f.1.length) f.2 ⟨by omega, by omega⟩ (by omega) (fun h => by cases h) (fun h => by cases h)
    (fun i t s hi hI => by
      obtain ⟨v, c⟩ := t
      obtain ⟨hI, hle⟩ := hI
      have hlt := (List.getElem?_eq_some_iff.1 hi).1
      have hm : (i + 1) * (a + b + 1) ≤ f.1.length * (a + b + 1) := Nat.mul_le_mul_right _ hlt
      rw [Nat.add_mul, Nat.one_mul] at hm
      have C1 : (i : Int) < (f.1.length : Int) := by omega
      have W : InI ((i : Int) + 1) := ⟨by omega, by omega⟩
      unfold evF
      by_cases hv : v < 0 ∨ (X.length : Int) ≤ v
      · rw [if_pos hv]
        by_cases h0 : v < 0
        · exact lev_x3_1 C1 hi h0
        · exact lev_x3_2 C1 hi h0 (by omega)
      · rw [if_neg hv]
        have hl : v.toNat < X.length := by omega
        have h1 : X[v.toNat]? = some (X.getD v.toNat 0) := by rw [List.getD_eq_getElem?_getD, List.getElem?_eq_getElem hl]; rfl
        have hc : H c ≤ a := ha _ (List.mem_of_getElem? hi)
        have hq : H (X.getD v.toNat 0) ≤ b := hb _ (List.mem_of_getElem? h1)
        have h2 := H_mul c (X.getD v.toNat 0)
        have h3 := H_add s (c * X.getD v.toNat 0)
        dsimp only
        refine ⟨lev_r3_1 C1 hi (by omega) (by omega) h1 (by omega) (by omega) (by omega) (by omega) (by omega) W, ?_, hlt⟩
        rw [Nat.add_mul, Nat.one_mul]
        omega)
    (fun b hI => lev_x3_3 (by omega))
  unfold evR
  cases hE : foldE (evF X) 0 f.2 f.1 with
  | ok s =>
    have hB := (L.2 s hE).1
    rw [hE] at L; exact lev_f2 L.1 (by omega)
  | error s => rw [hE] at L; exact lev_f1 L.1
end Go.Proofs.YtlpmemelhlnfbaaGreatDoor
set_option linter.all false
set_option maxRecDepth 100000
set_option maxHeartbeats 6400000
namespace Go.Proofs.YtlpmemelhlnfbaaGreatDoor
open Go.RowKit
attribute [local irreducible] run runL loopG exec

theorem lvalid_c {n : Nat} {f : Form} {vars : Int} (hB : BdF 17179869184 f) : run n 60 [formV f, .lit (.int .i64 vars)] = some (.lit (.bool (tv (OkFm f vars)))) := by
  have hl := hB.l
  have L := loopG_all (O := tab n) (P := Tryz.prog) (m := 0) (N := 56) (lives := livesOf 60) (r := 2) (C := lva_C2) (M := f.1.length) (enc := lva_h2 f vars) (p := fun i => tv (OkTm f.1 vars i)) (exN := .exit 0) (exE := .ret) (out := lva_o2b f) (outE := lva_o2a f) (by omega) (by simp) (by simp)
    (fun i hi hI => by
      have hx : f.1[i]? = some f.1[i] := List.getElem?_eq_getElem hi
      generalize f.1[i] = t at hx
      obtain ⟨v, c⟩ := t
      have hc : H c ≤ 17179869184 := hB.t _ (List.mem_of_getElem? hx)
      have C1 : (i : Int) < (f.1.length : Int) := by omega
      have W : InI ((i : Int) + 1) := ⟨by omega, by omega⟩
      have W2 : InI ((i : Int) - 1) := ⟨by omega, by omega⟩
      have hs : sgR c = 0 ↔ c = 0 := sgR_eq_zero
      by_cases h0 : 0 < i
      · have hy : f.1[i - 1]? = some (f.1[i - 1]'(by omega)) := List.getElem?_eq_getElem _
        generalize f.1[i - 1]'(by omega) = t at hy
        obtain ⟨v', c'⟩ := t
        refine ⟨fun hp => ?_, fun hp => ?_⟩
        · obtain ⟨a1, a2, a3, a4⟩ := tv_true hp v c hx
          have a5 := a4 v' c' h0 hy
          exact lva_r2_1 C1 hx (by omega) (by omega) (by omega) W2 hy (by omega) (by omega) hc (fun h => a3 (hs.1 h)) W
        · by_cases b1 : v < 0
          · exact lva_x2_1 C1 hx b1
          · by_cases b2 : vars ≤ v
            · exact lva_x2_2 C1 hx b1 b2
            · by_cases b3 : v ≤ v'
              · exact lva_x2_3 C1 hx b1 b2 (by omega) W2 hy (by omega) b3
              · by_cases b4 : c = 0
                · exact lva_x2_4 C1 hx b1 b2 (by omega) W2 hy (by omega) b3 hc (hs.2 b4)
                · refine absurd (fun u d hu => ?_) (tv_false hp)
                  rw [hx] at hu; cases hu
                  exact ⟨by omega, by omega, b4, fun v2 c2 _ h2 => by rw [hy] at h2; cases h2; omega⟩
      · refine ⟨fun hp => ?_, fun hp => ?_⟩
        · obtain ⟨a1, a2, a3, a4⟩ := tv_true hp v c hx
          exact lva_r2_2 C1 hx (by omega) (by omega) (by omega) hc (fun h => a3 (hs.1 h)) W
        · by_cases b1 : v < 0
          · exact lva_x2_1 C1 hx b1
          · by_cases b2 : vars ≤ v
            · exact lva_x2_2 C1 hx b1 b2
            · by_cases b4 : c = 0
              · exact lva_x2_5 C1 hx b1 b2 (by omega) hc (hs.2 b4)
              · refine absurd (fun u d hu => ?_) (tv_false hp)
                rw [hx] at hu; cases hu
                exact ⟨by omega, by omega, b4, fun v2 c2 h2 => absurd h2 h0⟩)
    (lva_x2_6 (by omega))
  by_cases h : OkFm f vars
  · rw [if_pos (fun i hi => tv_t (h i hi))] at L
    rw [tv_t h]
    exact lva_f2 L hB.k
  · rw [if_neg (fun h2 => h fun i hi => tv_true (h2 i hi))] at L
    rw [tv_f h]
    exact lva_f1 L
theorem gvc_c {n : Nat} {f : Form} {vars : Int} (hB : BdF 17179869184 f) : run (n + 1) 171 [formV f, .mem [.lit (.int .i64 vars)]] = some (.lit (.bool (!tv (OkFm f vars)))) := gvc_f1 (lvalid_c (n := n) hB)
theorem ifg_c {n : Nat} {L : List Form} {vars : Int} (hl : L.length ≤ 100000000) (hB : ∀ f ∈ L, BdF 17179869184 f) : ∃ r : Int, run (n + 2) 207 [.sl 4 (L.map formC), .clo 171 [.mem [.lit (.int .i64 vars)]]] = some (.lit (.int .i64 r)) ∧ (0 ≤ r ↔ ¬ ∀ f ∈ L, OkFm f vars) := by
  obtain ⟨ex, t, h1, h2⟩ := loopG_Q (β := Unit) (P := Tryz.prog) (O := tab (n + 2)) (m := 0) (N := 19) (lives := livesOf 207) (r := 2) (C := ifg_C2) (M := L.length) (enc := fun i _ => ifg_h2 L vars i)
    (fun i _ => ∀ j f, j < i → L[j]? = some f → OkFm f vars) (fun ex t => (ex = .exit 0 ∧ t = ifg_o2b ∧ ∀ f ∈ L, OkFm f vars) ∨ (ex = .ret ∧ ∃ i : Nat, t = ifg_o2a i ∧ ¬ ∀ f ∈ L, OkFm f vars)) () (fun j f hj => by omega) (by omega)
    (fun i b hi hI => by
      have hx : L[i]? = some L[i] := List.getElem?_eq_getElem hi
      generalize L[i] = f at hx
      have K := gvc_c (n := n) (vars := vars) (hB f (List.mem_of_getElem? hx))
      by_cases h : OkFm f vars
      · rw [tv_t h] at K
        refine .inl ⟨(), ifg_r2_1 (by omega) hx K rfl ⟨by omega, by omega⟩, fun j g hj hg => ?_⟩
        rcases Nat.lt_succ_iff_lt_or_eq.1 hj with h2 | rfl
        · exact hI j g h2 hg
        · rw [hx] at hg; cases hg; exact h
      · rw [tv_f h] at K
        exact .inr ⟨_, _, by simp, ifg_x2_1 (by omega) hx K rfl, .inr ⟨rfl, i, rfl, fun h2 => h (h2 f (List.mem_of_getElem? hx))⟩⟩)
    (fun b hI => ⟨_, _, by simp, ifg_x2_2 (by omega), .inl ⟨rfl, rfl, fun f hf => by
      obtain ⟨j, hj⟩ := List.mem_iff_getElem?.1 hf
      exact hI j f (List.getElem?_eq_some_iff.1 hj).1 hj⟩⟩)
  rcases h2 with ⟨rfl, rfl, h3⟩ | ⟨rfl, i, rfl, h3⟩
  · exact ⟨-1, ifg_f2 h1, fun h => by omega, fun h => absurd h3 h⟩
  · exact ⟨(i : Int), ifg_f1 h1, fun _ => h3, fun _ => by omega⟩
theorem gvs_c {n : Nat} {L : List Form} {vars : Int} (hl : L.length ≤ 100000000) (hB : ∀ f ∈ L, BdF 17179869184 f) : run (n + 4) 104 [.sl 4 (L.map formC), .lit (.int .i64 vars)] = some (.lit (.bool (tv (∀ f ∈ L, OkFm f vars)))) := by
  obtain ⟨r, h1, h2⟩ := ifg_c (n := n) (vars := vars) hl hB
  have h3 := gva_f1 (n := n) (cfg_f1 (n := n) h1)
  rw [h3]
  by_cases h : ∀ f ∈ L, OkFm f vars
  · rw [tv_t h, decide_eq_false (fun h4 => (h2.1 h4) h)]; rfl
  · rw [tv_f h, decide_eq_true (h2.2 h)]; rfl
theorem gvalid_c {n : Nat} {g : TGraph} (hB : BdG 17179869184 g) : run (n + 5) 41 [graphV g] = some (.lit (.bool (tv (OkGr g)))) := by
  have hlu := hB.lu
  have hlo := hB.lo
  by_cases c1 : g.Inputs < 1
  · rw [tv_f (fun h => by have := h.i0; omega)]; exact gV_f1 c1
  by_cases c2 : 256 < g.Inputs
  · rw [tv_f (fun h => by have := h.i1; omega)]; exact gV_f2 c1 c2
  by_cases c3 : 1024 < (g.Units.length : Int)
  · rw [tv_f (fun h => by have := h.u; omega)]; exact gV_f3 c1 c2 c3
  by_cases c4 : (g.Outputs.length : Int) < 1
  · rw [tv_f (fun h => by have := h.o0; omega)]; exact gV_f4 c1 c2 c3 c4
  by_cases c5 : 256 < (g.Outputs.length : Int)
  · rw [tv_f (fun h => by have := h.o1; omega)]; exact gV_f5 c1 c2 c3 c4 c5
  have hG := loopG_all (O := tab (n + 5)) (P := Tryz.prog) (m := 0) (N := 56) (lives := livesOf 41) (r := 4) (C := gV_C4) (M := g.Units.length) (enc := gV_h4 g) (p := fun i => tv (∀ f, g.Units[i]? = some f → OkFm f (g.Inputs + (i : Int)))) (exN := .exit 0) (exE := .ret) (out := gV_o4b g) (outE := gV_o4a g) (by omega) (by simp) (by simp)
    (fun i hi hI => by
      have hx : g.Units[i]? = some g.Units[i] := List.getElem?_eq_getElem hi
      generalize g.Units[i] = f at hx
      have C1 : (i : Int) < (g.Units.length : Int) := by omega
      have W : InI ((i : Int) + 1) := ⟨by omega, by omega⟩
      have W2 : InI (g.Inputs + (i : Int)) := ⟨by omega, by omega⟩
      have K := lvalid_c (n := n + 4) (vars := g.Inputs + (i : Int)) (hB.u f (List.mem_of_getElem? hx))
      have e : tv (∀ f, g.Units[i]? = some f → OkFm f (g.Inputs + (i : Int))) = tv (OkFm f (g.Inputs + (i : Int))) := tv_iff ⟨fun h => h f hx, fun h g hg => by rw [hx] at hg; cases hg; exact h⟩
      rw [e]
      exact ⟨fun hp => gV_r4_1 C1 hx W2 K hp W, fun hp => gV_x4_1 C1 hx W2 K hp⟩)
    (gV_x4_2 (by omega))
  by_cases h : ∀ i, i < g.Units.length → ∀ f, g.Units[i]? = some f → OkFm f (g.Inputs + (i : Int))
  · rw [if_pos (fun i hi => tv_t (h i hi))] at hG
    have K := gvs_c (n := n) (vars := g.Inputs + (g.Units.length : Int)) hlo hB.o
    have e : tv (OkGr g) = tv (∀ f ∈ g.Outputs, OkFm f (g.Inputs + (g.Units.length : Int))) := tv_iff ⟨fun k => k.ou, fun k => ⟨by omega, by omega, by omega, by omega, by omega, h, k⟩⟩
    rw [e]
    exact gV_f7 c1 c2 c3 c4 c5 hG ⟨by omega, by omega⟩ K
  · rw [if_neg (fun h2 => h fun i hi => tv_true (h2 i hi))] at hG
    rw [tv_f (fun k => h k.un)]
    exact gV_f6 c1 c2 c3 c4 c5 hG
end Go.Proofs.YtlpmemelhlnfbaaGreatDoor
set_option linter.all false
set_option maxRecDepth 100000
set_option maxHeartbeats 6400000
namespace Go.Proofs.YtlpmemelhlnfbaaGreatDoor
open Go.RowKit

attribute [local irreducible] run runL loopG exec
/-! values, plainly -/
theorem evV_eq (X : List Rat) (f : Form) : evV X f = f.2 + evS X f.1 := evS_fold X f.1 f.2
theorem evS_ext {X Y : List Rat} : ∀ {F : List (Int × Rat)}, (∀ t ∈ F, X.getD t.1.toNat 0 = Y.getD t.1.toNat 0) → evS X F = evS Y F
  | [], _ => rfl
  | t :: F, h => by
    unfold evS
    rw [h t (by simp), evS_ext fun u hu => h u (by simp [hu])]
theorem evV_app {X R : List Rat} {f : Form} (h : InR X.length f.1) : evV (X ++ R) f = evV X f := by
  rw [evV_eq, evV_eq, evS_ext fun t ht => ?_]
  have := h t ht
  rw [List.getD_eq_getElem?_getD, List.getD_eq_getElem?_getD, List.getElem?_append_left (by omega)]
def valS (_ : Nat) (o : List Rat × List Rat × Nat) (f : Form) : List Rat × List Rat × Nat := (o.1 ++ [max0 (evV o.1 f)], o.2.1 ++ [evV o.1 f], o.1.length)
theorem valV_step {X : List Rat} {U : List Form} {f : Form} : valV (f :: U) X = valV U (X ++ [max0 (evV X f)]) := by
  have key : ∀ (U : List Form) (i j : Nat) (o : List Rat), foldI (fun _ out f => out ++ [max0 (evV out f)]) i o U = foldI (fun _ out f => out ++ [max0 (evV out f)]) j o U := fun U => by
    induction U with
    | nil => intro i j o; rfl
    | cons f U ih => intro i j o; exact ih _ _ _
  exact key U 1 0 _
theorem valV_ext : ∀ (U : List Form) (X : List Rat), ∃ R, valV U X = X ++ R ∧ R.length = U.length
  | [], X => ⟨[], by simp [valV, foldI], rfl⟩
  | f :: U, X => by
    obtain ⟨R, h, hl⟩ := valV_ext U (X ++ [max0 (evV X f)])
    exact ⟨max0 (evV X f) :: R, by rw [valV_step, h, List.append_assoc]; rfl, by simp [hl]⟩
/-- the forms of the units look back only -/
def Back (k : Nat) (U : List Form) : Prop := ∀ i f, U[i]? = some f → InR (k + i) f.1
theorem Back.tail {k : Nat} {f : Form} {U : List Form} (h : Back k (f :: U)) : Back (k + 1) U := fun i g hg => by
  have := h (i + 1) g (by simpa using hg)
  rwa [show k + (i + 1) = k + 1 + i from by omega] at this
theorem Back.head {k : Nat} {f : Form} {U : List Form} (h : Back k (f :: U)) : InR k f.1 := h 0 f rfl
theorem valS_fold : ∀ (U : List Form) (i : Nat) (X P : List Rat) (z : Nat), Back X.length U →
    (foldI valS i (X, P, z) U).1 = valV U X ∧ (foldI valS i (X, P, z) U).2.1 = P ++ U.map fun f => evV (valV U X) f
  | [], i, X, P, z, h => ⟨rfl, by simp [foldI]⟩
  | f :: U, i, X, P, z, h => by
    have ht := h.tail
    obtain ⟨h1, h2⟩ := valS_fold U (i + 1) (X ++ [max0 (evV X f)]) (P ++ [evV X f]) X.length (by rw [List.length_append]; exact ht)
    rw [foldI]
    refine ⟨by rw [valV_step]; exact h1, ?_⟩
    refine h2.trans ?_
    rw [valV_step, List.append_assoc, List.map_cons]
    congr 1
    obtain ⟨R, hR, _⟩ := valV_ext U (X ++ [max0 (evV X f)])
    rw [hR, List.append_assoc, evV_app h.head]
    rfl
theorem OkGr.back {g : TGraph} {X : List Rat} (h : OkGr g) (hX : (X.length : Int) = g.Inputs) : Back X.length g.Units := fun i f hf t ht => by
  have hlt := (List.getElem?_eq_some_iff.1 hf).1
  obtain ⟨j, hj⟩ := List.mem_iff_getElem?.1 ht
  have := h.un i hlt f hf j (List.getElem?_eq_some_iff.1 hj).1 t.1 t.2 hj
  exact ⟨this.1, by omega⟩
theorem OkGr.out {g : TGraph} (h : OkGr g) {f : Form} (hf : f ∈ g.Outputs) : ∀ t ∈ f.1, 0 ≤ t.1 ∧ t.1 < g.Inputs + (g.Units.length : Int) := fun t ht => by
  obtain ⟨j, hj⟩ := List.mem_iff_getElem?.1 ht
  have := h.ou f hf j (List.getElem?_eq_some_iff.1 hj).1 t.1 t.2 hj
  exact ⟨this.1, this.2.1⟩

/-! a small graph's bounds -/
theorem GrOk.lu {g : TGraph} (h : GrOk g) : ∀ f ∈ g.Units, f.1.length ≤ 7 := fun f hf => by
  obtain ⟨i, hi⟩ := List.mem_iff_getElem?.1 hf
  have hlt := (List.getElem?_eq_some_iff.1 hi).1
  have := (h.un i f hi).l.len
  have := h.i1
  have := h.u
  omega
theorem GrOk.lo {g : TGraph} (h : GrOk g) : ∀ f ∈ g.Outputs, f.1.length ≤ 7 := fun f hf => by
  have := (h.ou f hf).l.len
  have := h.i1
  have := h.u
  omega
end Go.Proofs.YtlpmemelhlnfbaaGreatDoor
set_option linter.all false
set_option maxRecDepth 100000
set_option maxHeartbeats 6400000
namespace Go.Proofs.YtlpmemelhlnfbaaGreatDoor
open Go.RowKit
attribute [local irreducible] run runL loopG exec

/-! the program's values -/
theorem pmax0_c {n : Nat} {q : Rat} (hq : H q ≤ 17179869184) : run n 165 [.agg [.lit (.bool false), .sl 1 [], .sl 1 []], ratV q] = some (ratV (max0 q)) := by
  have e : ratV 0 = .agg [.lit (.bool false), .sl 1 [], .sl 1 []] := by simp
  have h0 : H 0 ≤ 17179869184 := by decide
  rw [← e]
  have hs : (0 ≤ sgR (0 - q)) ↔ q ≤ 0 := by
    rw [sgq_nonneg]
    constructor <;> intro h <;> grind
  unfold max0
  by_cases h : q ≤ 0
  · have e2 : (if 0 ≤ q then q else 0) = 0 := by split <;> grind
    rw [e2]
    exact pmx_f1 h0 hq (hs.2 h)
  · rw [if_pos (by grind)]
    exact pmx_f2 h0 hq fun h2 => h (hs.1 h2)
end Go.Proofs.YtlpmemelhlnfbaaGreatDoor
