/- Values of sums and multiples of forms; bounds. linear.Eval, Coef, copied; relucertref07.Coef: what they return. linear.Valid, graph.Valid: what the calls return. relucertref15.Small, Point, Outputs, Pre: what the calls return. linear.Substitute, relucertref07.Substitute: what they return. -/
import Derived.Test.YtlpmemelhlnfbaaGreatDoorGA15
import Derived.Test.YtlpmemelhlnfbaaGreatDoorGA9
import Derived.Test.YtlpmemelhlnfbaaGreatDoorGA8
import Derived.Test.YtlpmemelhlnfbaaGreatDoorGA7
import Derived.Test.YtlpmemelhlnfbaaGreatDoorGA11
set_option linter.all false
set_option linter.all false
namespace Go.Proofs.YtlpmemelhlnfbaaGreatDoor
open Go.RowKit

/-- what the terms are worth together -/
def evS (X : List Rat) : List (Int × Rat) → Rat
  | [] => 0
  | t :: F => t.2 * X.getD t.1.toNat 0 + evS X F
theorem evS_fold (X : List Rat) : ∀ (F : List (Int × Rat)) (s : Rat), F.foldl (fun s t => s + t.2 * X.getD t.1.toNat 0) s = s + evS X F
  | [], s => by rw [List.foldl_nil, evS]; grind
  | t :: F, s => by rw [List.foldl_cons, evS_fold X F, evS]; grind
theorem evS_app (X : List Rat) : ∀ (F G : List (Int × Rat)), evS X (F ++ G) = evS X F + evS X G
  | [], G => by rw [List.nil_append, evS]; grind
  | t :: F, G => by rw [List.cons_append, evS, evS_app X F G, evS]; grind
theorem evS_put (X : List Rat) (v : Int) (q : Rat) : evS X (put1 v q) = q * X.getD v.toNat 0 := by
  unfold put1
  split
  · rename_i h; rw [h, evS]; grind
  · rw [evS, evS]; grind
theorem evS_plus {X : List Rat} {v : Int} {c : Rat} : ∀ {F : List (Int × Rat)}, Srt F → evS X (plusV false F v c) = evS X F + c * X.getD v.toNat 0
  | [], _ => by
    have e : plusV false [] v c = put1 v c := rfl
    rw [e, evS_put, evS]; grind
  | t :: F, h => by
    have hd := h.head
    rcases Int.lt_trichotomy t.1 v with h1 | h1 | h1
    · rw [plusV_lt (by omega) (.inr h1), evS_app, evS_put, evS_plus h.tail, evS]; grind
    · rw [plusV_eq h1, plus_done (by rw [← h1]; exact hd) h.tail.2, evS_app, evS_put, evS, h1]; grind
    · rw [plusV_gt h1, plus_done (hd.mono (by omega)) h.tail.2, evS_app, evS_app, evS_put, evS_put, evS]; grind
theorem evS_add {X : List Rat} : ∀ {G F : List (Int × Rat)}, Srt F → Srt G → evS X (addV F G) = evS X F + evS X G
  | [], F, _, _ => by
    have e : addV F [] = F := rfl
    rw [e, evS]; grind
  | t :: G, F, hf, hg => by
    have e : addV F (t :: G) = addV (plusV false F t.1 t.2) G := rfl
    rw [e, evS_add (plus_srt hf).1 hg.tail, evS_plus hf, evS]; grind
theorem evS_scl (X : List Rat) (c : Rat) : ∀ (F : List (Int × Rat)), evS X (sclV F c) = evS X F * c
  | [] => by
    have e : sclV [] c = [] := rfl
    rw [e, evS]; grind
  | t :: F => by
    have e : sclV (t :: F) c = put1 t.1 (t.2 * c) ++ sclV F c := rfl
    rw [e, evS_app, evS_put, evS_scl X c F, evS]; grind
/-- the variables lie in range -/
def InR (k : Nat) (F : List (Int × Rat)) : Prop := ∀ t ∈ F, 0 ≤ t.1 ∧ t.1 < (k : Int)
theorem InR.app {k : Nat} {F G : List (Int × Rat)} (h : InR k F) (g : InR k G) : InR k (F ++ G) := fun t ht => (List.mem_append.1 ht).elim (h t) (g t)
theorem InR.put {k : Nat} {v : Int} {q : Rat} (h : 0 ≤ v ∧ v < (k : Int)) : InR k (put1 v q) := fun t ht => by
  obtain ⟨rfl, _⟩ := put1_mem ht
  exact h
theorem InR.plus {k : Nat} {v : Int} {c : Rat} (hv : 0 ≤ v ∧ v < (k : Int)) : ∀ {d : Bool} {F : List (Int × Rat)}, InR k F → InR k (plusV d F v c)
  | d, [], _ => by
    rw [plusV]
    split
    · exact fun t ht => by cases ht
    · exact InR.put hv
  | d, t :: F, h => by
    have ht : 0 ≤ t.1 ∧ t.1 < (k : Int) := h t (by simp)
    have hF : InR k F := fun u hu => h u (by simp [hu])
    rw [plusV]
    split
    · exact (InR.put ht).app (InR.plus hv hF)
    · split
      · exact (InR.put hv).app ((InR.put ht).app (InR.plus hv hF))
      · exact (InR.put ht).app (InR.plus hv hF)
theorem InR.add {k : Nat} : ∀ {G F : List (Int × Rat)}, InR k F → InR k G → InR k (addV F G)
  | [], F, h, _ => h
  | t :: G, F, h, g => by
    have e : addV F (t :: G) = addV (plusV false F t.1 t.2) G := rfl
    rw [e]
    exact InR.add (InR.plus (g t (by simp)) h) fun u hu => g u (by simp [hu])
theorem InR.scl {k : Nat} {c : Rat} {F : List (Int × Rat)} (h : InR k F) : InR k (sclV F c) := fun t ht => by
  simp only [sclV, List.mem_flatMap] at ht
  obtain ⟨u, hu, h1⟩ := ht
  obtain ⟨rfl, _⟩ := put1_mem h1
  exact h u hu
theorem TmB.add {b : Nat} : ∀ {G F : List (Int × Rat)} {m : Nat}, TmB m F → TmB b G → TmB (m + (b + 1) * G.length) (addV F G)
  | [], F, m, h, _ => h
  | t :: G, F, m, h, g => by
    have e : addV F (t :: G) = addV (plusV false F t.1 t.2) G := rfl
    rw [e]
    refine (TmB.add (TmB.plus (g t (by simp)).2 h) fun u hu => g u (by simp [hu])).mono ?_
    rw [List.length_cons, Nat.mul_add]
    omega
theorem addV_len : ∀ (G F : List (Int × Rat)), (addV F G).length ≤ F.length + G.length
  | [], F => by have e : addV F [] = F := rfl; rw [e]; simp
  | t :: G, F => by
    have e : addV F (t :: G) = addV (plusV false F t.1 t.2) G := rfl
    have h1 := addV_len G (plusV false F t.1 t.2)
    have h2 := plusV_len false F t.1 t.2
    rw [e, List.length_cons]
    omega
theorem TmB.scl {m b : Nat} {c : Rat} {F : List (Int × Rat)} (h : TmB m F) (hc : H c ≤ b) : TmB (m + b) (sclV F c) := fun t ht => by
  simp only [sclV, List.mem_flatMap] at ht
  obtain ⟨u, hu, h1⟩ := ht
  obtain ⟨rfl, h2⟩ := put1_mem h1
  have h3 := H_mul u.2 c
  have h4 := (h u hu).2
  exact ⟨h2, by dsimp only; omega⟩
theorem TmB.bd {m : Nat} {f : Form} (h : TmB m f.1) (hl : f.1.length ≤ 100000000) (hk : H f.2 ≤ m) : BdF m f := ⟨hl, fun t ht => (h t ht).2, hk⟩
end Go.Proofs.YtlpmemelhlnfbaaGreatDoor
set_option linter.all false
set_option maxRecDepth 100000
set_option maxHeartbeats 6400000
namespace Go.Proofs.YtlpmemelhlnfbaaGreatDoor
open Go.RowKit
attribute [local irreducible] run runL loopG exec

def cofE (v : Int) (_ : Nat) (_ : Unit) (t : Int × Rat) : Except Rat Unit := if t.1 = v then .error t.2 else .ok ()
theorem cofE_cof {v : Int} : ∀ {l : List (Int × Rat)} (i : Nat), foldE (cofE v) i () l = (match foldE (cofE v) i () l with | .ok _ => .ok () | .error _ => .error (cof l v)) ∧ ((∃ u, foldE (cofE v) i () l = .ok u) → cof l v = 0)
  | [], i => ⟨rfl, fun _ => rfl⟩
  | t :: l, i => by
    obtain ⟨h1, h2⟩ := cofE_cof (v := v) (l := l) (i + 1)
    by_cases e : t.1 = v
    · have e1 : cofE v i () t = .error t.2 := if_pos e
      have e2 : foldE (cofE v) i () (t :: l) = .error t.2 := by rw [foldE, e1]
      rw [e2]
      exact ⟨by rw [cof, if_pos e], fun ⟨u, h⟩ => by cases h⟩
    · have e1 : cofE v i () t = .ok () := if_neg e
      have e2 : foldE (cofE v) i () (t :: l) = foldE (cofE v) (i + 1) () l := by rw [foldE, e1]
      have e3 : cof (t :: l) v = cof l v := by rw [cof, if_neg e]
      rw [e2, e3]
      exact ⟨h1, h2⟩
theorem cof_H {b : Nat} {l : List (Int × Rat)} {v : Int} (h : ∀ t ∈ l, H t.2 ≤ b) (hb : 1 ≤ b) : H (cof l v) ≤ b := by
  induction l with
  | nil => rw [cof_nil, H_zero]; exact hb
  | cons t l ih =>
    rw [cof]
    split
    · exact h t (by simp)
    · exact ih fun u hu => h u (by simp [hu])
theorem fco_c {n : Nat} {f : Form} {v : Int} (hl : f.1.length ≤ 100000000) : run n 175 [formV f, .lit (.int .i64 v)] = some (ratV (cof f.1 v)) := by
  have L := loopG_E (O := tab n) (P := Tryz.prog) (m := 0) (N := 28) (lives := livesOf 175) (r := 2) (C := fco_C2) (L := f.1) (f := cofE v) (enc := fun i _ => fco_h2 f v i) (exN := .exit 0) (exE := .ret) (out := fun _ => fco_o2b) (outE := fco_o2a) (Inv := fun _ _ => True) () trivial (by omega) (fun h => by cases h) (fun h => by cases h)
    (fun i t s hi hI => by
      obtain ⟨u, c⟩ := t
      have hlt := (List.getElem?_eq_some_iff.1 hi).1
      unfold cofE
      by_cases e : u = v
      · rw [if_pos e]
        exact fco_x2_1 (by omega) hi e
      · rw [if_neg e]
        exact ⟨fco_r2_1 (by omega) hi e ⟨by omega, by omega⟩, trivial⟩)
    (fun b hI => fco_x2_2 (by omega))
  obtain ⟨h1, h2⟩ := cofE_cof (v := v) (l := f.1) 0
  have L := L.1
  cases hE : foldE (cofE v) 0 () f.1 with
  | ok s =>
    rw [hE] at L
    rw [h2 ⟨s, hE⟩]
    have h := fco_f2 (a1 := v) L
    simpa using h
  | error s =>
    rw [hE] at L h1
    cases h1
    exact fco_f1 L
end Go.Proofs.YtlpmemelhlnfbaaGreatDoor
set_option linter.all false
set_option maxRecDepth 100000
set_option maxHeartbeats 6400000
namespace Go.Proofs.YtlpmemelhlnfbaaGreatDoor
open Go.RowKit
attribute [local irreducible] run runL loopG exec

theorem lvalid_c {n : Nat} {f : Form} {vars : Int} (hB : BdF 17179869184 f) : run n 60 [formV f, .lit (.int .i64 vars)] = some (.lit (.bool (tv (OkFm f vars)))) := by
  have hl := hB.l
  have L := loopG_all (O := tab n) (P := Tryz.prog) (m := 0) (N := 56) (lives := livesOf 60) (r := 2) (C := lva_C2) (M := f.1.length) (enc := lva_h2 f vars) (p := fun i => tv (OkTm f.1 vars i)) (exN := .exit 0) (exE := .ret) (out := lva_o2b f) (outE := lva_o2a f) (by omega) (by simp) (by simp)
    (fun i hi hI => by
      have hx : f.1[i]? = some f.1[i] := List.getElem?_eq_getElem hi
      generalize f.1[i] = t at hx
      obtain ⟨v, c⟩ := t
      have hc : H c ≤ 17179869184 := hB.t _ (List.mem_of_getElem? hx)
      have C1 : (i : Int) < (f.1.length : Int) := by omega
      have W : InI ((i : Int) + 1) := ⟨by omega, by omega⟩
      have W2 : InI ((i : Int) - 1) := ⟨by omega, by omega⟩
      have hs : sgR c = 0 ↔ c = 0 := sgR_eq_zero
      by_cases h0 : 0 < i
      · have hy : f.1[i - 1]? = some (f.1[i - 1]'(by omega)) := List.getElem?_eq_getElem _
        generalize f.1[i - 1]'(by omega) = t at hy
        obtain ⟨v', c'⟩ := t
        refine ⟨fun hp => ?_, fun hp => ?_⟩
        · obtain ⟨a1, a2, a3, a4⟩ := tv_true hp v c hx
          have a5 := a4 v' c' h0 hy
          exact lva_r2_1 C1 hx (by omega) (by omega) (by omega) W2 hy (by omega) (by omega) hc (fun h => a3 (hs.1 h)) W
        · by_cases b1 : v < 0
          · exact lva_x2_1 C1 hx b1
          · by_cases b2 : vars ≤ v
            · exact lva_x2_2 C1 hx b1 b2
            · by_cases b3 : v ≤ v'
              · exact lva_x2_3 C1 hx b1 b2 (by omega) W2 hy (by omega) b3
              · by_cases b4 : c = 0
                · exact lva_x2_4 C1 hx b1 b2 (by omega) W2 hy (by omega) b3 hc (hs.2 b4)
                · refine absurd (fun u d hu => ?_) (tv_false hp)
                  rw [hx] at hu; cases hu
                  exact ⟨by omega, by omega, b4, fun v2 c2 _ h2 => by rw [hy] at h2; cases h2; omega⟩
      · refine ⟨fun hp => ?_, fun hp => ?_⟩
        · obtain ⟨a1, a2, a3, a4⟩ := tv_true hp v c hx
          exact lva_r2_2 C1 hx (by omega) (by omega) (by omega) hc (fun h => a3 (hs.1 h)) W
        · by_cases b1 : v < 0
          · exact lva_x2_1 C1 hx b1
          · by_cases b2 : vars ≤ v
            · exact lva_x2_2 C1 hx b1 b2
            · by_cases b4 : c = 0
              · exact lva_x2_5 C1 hx b1 b2 (by omega) hc (hs.2 b4)
              · refine absurd (fun u d hu => ?_) (tv_false hp)
                rw [hx] at hu; cases hu
                exact ⟨by omega, by omega, b4, fun v2 c2 h2 => absurd h2 h0⟩)
    (lva_x2_6 (by omega))
  by_cases h : OkFm f vars
  · rw [if_pos (fun i hi => tv_t (h i hi))] at L
    rw [tv_t h]
    exact lva_f2 L hB.k
  · rw [if_neg (fun h2 => h fun i hi => tv_true (h2 i hi))] at L
    rw [tv_f h]
    exact lva_f1 L
theorem gvc_c {n : Nat} {f : Form} {vars : Int} (hB : BdF 17179869184 f) : run (n + 1) 171 [formV f, .mem [.lit (.int .i64 vars)]] = some (.lit (.bool (!tv (OkFm f vars)))) := gvc_f1 (lvalid_c (n := n) hB)
theorem ifg_c {n : Nat} {L : List Form} {vars : Int} (hl : L.length ≤ 100000000) (hB : ∀ f ∈ L, BdF 17179869184 f) : ∃ r : Int, run (n + 2) 207 [.sl 4 (L.map formC), .clo 171 [.mem [.lit (.int .i64 vars)]]] = some (.lit (.int .i64 r)) ∧ (0 ≤ r ↔ ¬ ∀ f ∈ L, OkFm f vars) := by
  obtain ⟨ex, t, h1, h2⟩ := loopG_Q (β := Unit) (P := Tryz.prog) (O := tab (n + 2)) (m := 0) (N := 19) (lives := livesOf 207) (r := 2) (C := ifg_C2) (M := L.length) (enc := fun i _ => ifg_h2 L vars i)
    (fun i _ => ∀ j f, j < i → L[j]? = some f → OkFm f vars) (fun ex t => (ex = .exit 0 ∧ t = ifg_o2b ∧ ∀ f ∈ L, OkFm f vars) ∨ (ex = .ret ∧ ∃ i : Nat, t = ifg_o2a i ∧ ¬ ∀ f ∈ L, OkFm f vars)) () (fun j f hj => by omega) (by omega)
    (fun i b hi hI => by
      have hx : L[i]? = some L[i] := List.getElem?_eq_getElem hi
      generalize L[i] = f at hx
      have K := gvc_c (n := n) (vars := vars) (hB f (List.mem_of_getElem? hx))
      by_cases h : OkFm f vars
      · rw [tv_t h] at K
        refine .inl ⟨(), ifg_r2_1 (by omega) hx K rfl ⟨by omega, by omega⟩, fun j g hj hg => ?_⟩
        rcases Nat.lt_succ_iff_lt_or_eq.1 hj with h2 | rfl
        · exact hI j g h2 hg
        · rw [hx] at hg; cases hg; exact h
      · rw [tv_f h] at K
        exact .inr ⟨_, _, by simp, ifg_x2_1 (by omega) hx K rfl, .inr ⟨rfl, i, rfl, fun h2 => h (h2 f (List.mem_of_getElem? hx))⟩⟩)
    (fun b hI => ⟨_, _, by simp, ifg_x2_2 (by omega), .inl ⟨rfl, rfl, fun f hf => by
      obtain ⟨j, hj⟩ := List.mem_iff_getElem?.1 hf
      exact hI j f (List.getElem?_eq_some_iff.1 hj).1 hj⟩⟩)
  rcases h2 with ⟨rfl, rfl, h3⟩ | ⟨rfl, i, rfl, h3⟩
  · exact ⟨-1, ifg_f2 h1, fun h => by omega, fun h => absurd h3 h⟩
  · exact ⟨(i : Int), ifg_f1 h1, fun _ => h3, fun _ => by omega⟩
theorem gvs_c {n : Nat} {L : List Form} {vars : Int} (hl : L.length ≤ 100000000) (hB : ∀ f ∈ L, BdF 17179869184 f) : run (n + 4) 104 [.sl 4 (L.map formC), .lit (.int .i64 vars)] = some (.lit (.bool (tv (∀ f ∈ L, OkFm f vars)))) := by
  obtain ⟨r, h1, h2⟩ := ifg_c (n := n) (vars := vars) hl hB
  have h3 := gva_f1 (n := n) (cfg_f1 (n := n) h1)
  rw [h3]
  by_cases h : ∀ f ∈ L, OkFm f vars
  · rw [tv_t h, decide_eq_false (fun h4 => (h2.1 h4) h)]; rfl
  · rw [tv_f h, decide_eq_true (h2.2 h)]; rfl
theorem gvalid_c {n : Nat} {g : TGraph} (hB : BdG 17179869184 g) : run (n + 5) 41 [graphV g] = some (.lit (.bool (tv (OkGr g)))) := by
  have hlu := hB.lu
  have hlo := hB.lo
  by_cases c1 : g.Inputs < 1
  · rw [tv_f (fun h => by have := h.i0; omega)]; exact gV_f1 c1
  by_cases c2 : 256 < g.Inputs
  · rw [tv_f (fun h => by have := h.i1; omega)]; exact gV_f2 c1 c2
  by_cases c3 : 1024 < (g.Units.length : Int)
  · rw [tv_f (fun h => by have := h.u; omega)]; exact gV_f3 c1 c2 c3
  by_cases c4 : (g.Outputs.length : Int) < 1
  · rw [tv_f (fun h => by have := h.o0; omega)]; exact gV_f4 c1 c2 c3 c4
  by_cases c5 : 256 < (g.Outputs.length : Int)
  · rw [tv_f (fun h => by have := h.o1; omega)]; exact gV_f5 c1 c2 c3 c4 c5
  have hG := loopG_all (O := tab (n + 5)) (P := Tryz.prog) (m := 0) (N := 56) (lives := livesOf 41) (r := 4) (C := gV_C4) (M := g.Units.length) (enc := gV_h4 g) (p := fun i => tv (∀ f, g.Units[i]? = some f → OkFm f (g.Inputs + (i : Int)))) (exN := .exit 0) (exE := .ret) (out := gV_o4b g) (outE := gV_o4a g) (by omega) (by simp) (by simp)
    (fun i hi hI => by
      have hx : g.Units[i]? = some g.Units[i] := List.getElem?_eq_getElem hi
      generalize g.Units[i] = f at hx
      have C1 : (i : Int) < (g.Units.length : Int) := by omega
      have W : InI ((i : Int) + 1) := ⟨by omega, by omega⟩
      have W2 : InI (g.Inputs + (i : Int)) := ⟨by omega, by omega⟩
      have K := lvalid_c (n := n + 4) (vars := g.Inputs + (i : Int)) (hB.u f (List.mem_of_getElem? hx))
      have e : tv (∀ f, g.Units[i]? = some f → OkFm f (g.Inputs + (i : Int))) = tv (OkFm f (g.Inputs + (i : Int))) := tv_iff ⟨fun h => h f hx, fun h g hg => by rw [hx] at hg; cases hg; exact h⟩
      rw [e]
      exact ⟨fun hp => gV_r4_1 C1 hx W2 K hp W, fun hp => gV_x4_1 C1 hx W2 K hp⟩)
    (gV_x4_2 (by omega))
  by_cases h : ∀ i, i < g.Units.length → ∀ f, g.Units[i]? = some f → OkFm f (g.Inputs + (i : Int))
  · rw [if_pos (fun i hi => tv_t (h i hi))] at hG
    have K := gvs_c (n := n) (vars := g.Inputs + (g.Units.length : Int)) hlo hB.o
    have e : tv (OkGr g) = tv (∀ f ∈ g.Outputs, OkFm f (g.Inputs + (g.Units.length : Int))) := tv_iff ⟨fun k => k.ou, fun k => ⟨by omega, by omega, by omega, by omega, by omega, h, k⟩⟩
    rw [e]
    exact gV_f7 c1 c2 c3 c4 c5 hG ⟨by omega, by omega⟩ K
  · rw [if_neg (fun h2 => h fun i hi => tv_true (h2 i hi))] at hG
    rw [tv_f (fun k => h k.un)]
    exact gV_f6 c1 c2 c3 c4 c5 hG
end Go.Proofs.YtlpmemelhlnfbaaGreatDoor
set_option linter.all false
set_option maxRecDepth 100000
set_option maxHeartbeats 6400000
namespace Go.Proofs.YtlpmemelhlnfbaaGreatDoor
open Go.RowKit

theorem newG_c {n : Nat} {bs : List Int} (hl : bs.length ≤ 1000000) : runL n 74 [.sl 1 (bs.map intU8C)] [] = some (.ptr 2 0, [(2, fdB bs 0)]) := by
  unfold runL fnL fdB
  have hr : ∀ b, b ≤ 10000 → roomy bs.length b = true := fun b hb => roomy_s (by omega) hb
  simp +decide [Tryz.f74, hr]
attribute [local irreducible] run runL loopG exec
theorem small15_c {n : Nat} {bs : List Int} (hb : Byt bs) (hl : bs.length ≤ 1000000) : ∃ g : TGraph, run (n + 5) 20 [.sl 1 (bs.map intU8C)] = some (graphV g) ∧ GrOk g := by
  have K1 := newG_c (n := n + 4) hl
  obtain ⟨g, k1, K2, hg, hk⟩ := graph_c (n := n) hb (Nat.zero_le _)
  exact ⟨g, smf_f1 (r := ⟨bs, 0⟩) K1 K2, hg⟩
theorem point_c {n : Nat} {bs : List Int} (hb : Byt bs) (hl : bs.length ≤ 1000000) {I : Int} (h0 : 0 ≤ I) (h1 : I ≤ 1000) : ∃ X : List Rat, run (n + 2) 27 [.sl 1 (bs.map intU8C), .lit (.int .i64 I)] = some (.sl 3 (X.map ratC)) ∧ (X.length : Int) = I ∧ ∀ q ∈ X, H q ≤ 2 := by
  have K1 := newG_c (n := n + 1) hl
  obtain ⟨b, hL, hI1, hI2, hI3⟩ := loopG_R (O := tab (n + 2)) (P := Tryz.prog) (m := 0) (N := 21) (lives := livesOf 27) (r := 4) (C := poi_C4) (exN := .exit 0) (M := I.toNat)
    (enc := fun i (b : List Rat × Nat) => poi_h4 I b.1 i ⟨bs, 0⟩ (b.2 : Int)) (out := fun b => poi_o4a b.1)
    (fun i b => b.2 ≤ bs.length ∧ b.1.length = i ∧ ∀ q ∈ b.1, H q ≤ 2) ([], 0) ⟨Nat.zero_le _, rfl, fun q hq => by cases hq⟩ (by omega) (by simp)
    (fun i b hi hI => by
      obtain ⟨o, k⟩ := b
      obtain ⟨i1, i2, i3⟩ := hI
      dsimp only at i1 i2 i3
      have N1 := num_c (n := n) hb i1
      refine ⟨(o ++ [(numN bs k).1], (numN bs k).2), poi_r4_1 (r := ⟨bs, 0⟩) (by omega) N1 (by dsimp only; omega) ⟨by omega, by omega⟩, numN_le i1, by dsimp only; rw [List.length_append, i2]; rfl, fun q hq => ?_⟩
      rcases List.mem_append.1 hq with h | h
      · exact i3 q h
      · rw [List.mem_singleton.1 h]; exact numN_few bs k)
    (fun b hI => poi_x4_1 (by omega))
  exact ⟨b.1, poi_f1 (r := ⟨bs, 0⟩) K1 hL, by omega, hI3⟩

/-! values, plainly -/
theorem evV_eq (X : List Rat) (f : Form) : evV X f = f.2 + evS X f.1 := evS_fold X f.1 f.2
theorem evS_ext {X Y : List Rat} : ∀ {F : List (Int × Rat)}, (∀ t ∈ F, X.getD t.1.toNat 0 = Y.getD t.1.toNat 0) → evS X F = evS Y F
  | [], _ => rfl
  | t :: F, h => by
    unfold evS
    rw [h t (by simp), evS_ext fun u hu => h u (by simp [hu])]
theorem valV_step {X : List Rat} {U : List Form} {f : Form} : valV (f :: U) X = valV U (X ++ [max0 (evV X f)]) := by
  have key : ∀ (U : List Form) (i j : Nat) (o : List Rat), foldI (fun _ out f => out ++ [max0 (evV out f)]) i o U = foldI (fun _ out f => out ++ [max0 (evV out f)]) j o U := fun U => by
    induction U with
    | nil => intro i j o; rfl
    | cons f U ih => intro i j o; exact ih _ _ _
  exact key U 1 0 _
/-- the forms of the units look back only -/
def Back (k : Nat) (U : List Form) : Prop := ∀ i f, U[i]? = some f → InR (k + i) f.1
theorem Back.tail {k : Nat} {f : Form} {U : List Form} (h : Back k (f :: U)) : Back (k + 1) U := fun i g hg => by
  have := h (i + 1) g (by simpa using hg)
  rwa [show k + (i + 1) = k + 1 + i from by omega] at this
theorem Back.head {k : Nat} {f : Form} {U : List Form} (h : Back k (f :: U)) : InR k f.1 := h 0 f rfl
theorem OkGr.back {g : TGraph} {X : List Rat} (h : OkGr g) (hX : (X.length : Int) = g.Inputs) : Back X.length g.Units := fun i f hf t ht => by
  have hlt := (List.getElem?_eq_some_iff.1 hf).1
  obtain ⟨j, hj⟩ := List.mem_iff_getElem?.1 ht
  have := h.un i hlt f hf j (List.getElem?_eq_some_iff.1 hj).1 t.1 t.2 hj
  exact ⟨this.1, by omega⟩
theorem OkGr.out {g : TGraph} (h : OkGr g) {f : Form} (hf : f ∈ g.Outputs) : ∀ t ∈ f.1, 0 ≤ t.1 ∧ t.1 < g.Inputs + (g.Units.length : Int) := fun t ht => by
  obtain ⟨j, hj⟩ := List.mem_iff_getElem?.1 ht
  have := h.ou f hf j (List.getElem?_eq_some_iff.1 hj).1 t.1 t.2 hj
  exact ⟨this.1, this.2.1⟩

theorem fouts_c {n : Nat} {g : TGraph} {X : List Rat} {a l b : Nat} (hG : OkGr g) (hB : BdG a g) (ha : a ≤ 1000000) (hl : ∀ f ∈ g.Units, f.1.length ≤ l) (hlo : ∀ f ∈ g.Outputs, f.1.length ≤ l) (hX : (X.length : Int) = g.Inputs) (hb : ∀ q ∈ X, H q ≤ b) (hbnd : bndV a l b (g.Units.length + 1) ≤ 100000000) :
    run (n + 5) 37 [graphV g, .sl 3 (X.map ratC)] = some (.tup [.sl 3 ((g.Outputs.map fun f => evV (valV g.Units X) f).map ratC), .lit (.int .i64 0)]) ∧ ∀ f ∈ g.Outputs, H (evV (valV g.Units X) f) ≤ bndV a l b (g.Units.length + 1) := by
  have h := forms_c (n := n) (L := g.Outputs) hG hB ha hl hX hb hbnd hB.lo (fun f hf => ⟨hB.o f hf, hlo f hf, hG.out hf⟩)
  exact ⟨ou_f1 h.1, h.2⟩
/-! a small graph's bounds -/
theorem GrOk.lu {g : TGraph} (h : GrOk g) : ∀ f ∈ g.Units, f.1.length ≤ 7 := fun f hf => by
  obtain ⟨i, hi⟩ := List.mem_iff_getElem?.1 hf
  have hlt := (List.getElem?_eq_some_iff.1 hi).1
  have := (h.un i f hi).l.len
  have := h.i1
  have := h.u
  omega
theorem GrOk.lo {g : TGraph} (h : GrOk g) : ∀ f ∈ g.Outputs, f.1.length ≤ 7 := fun f hf => by
  have := (h.ou f hf).l.len
  have := h.i1
  have := h.u
  omega
theorem GrOk.bnd {g : TGraph} (h : GrOk g) : bndV 2 7 2 (g.Units.length + 1) ≤ 1000000 := by
  have := h.u
  exact Nat.le_trans (bndV_mono 2 7 2 (i := g.Units.length + 1) (j := 5) (by omega)) (by decide)
end Go.Proofs.YtlpmemelhlnfbaaGreatDoor
set_option linter.all false
set_option maxRecDepth 100000
set_option maxHeartbeats 6400000
namespace Go.Proofs.YtlpmemelhlnfbaaGreatDoor
open Go.RowKit
attribute [local irreducible] run runL loopG exec

/-- the terms of the other variables -/
def rst (F : List (Int × Rat)) (v : Int) : List (Int × Rat) := F.filter fun t => decide (t.1 ≠ v)
theorem rst_eq {t : Int × Rat} {F : List (Int × Rat)} {v : Int} (h : t.1 = v) : rst (t :: F) v = rst F v := by unfold rst; rw [List.filter_cons_of_neg]; simp [h]
theorem rst_ne {t : Int × Rat} {F : List (Int × Rat)} {v : Int} (h : t.1 ≠ v) : rst (t :: F) v = t :: rst F v := by unfold rst; rw [List.filter_cons_of_pos]; simp [h]
theorem rst_mem {t : Int × Rat} {F : List (Int × Rat)} {v : Int} (h : t ∈ rst F v) : t ∈ F := (List.mem_filter.1 h).1
theorem rst_len (F : List (Int × Rat)) (v : Int) : (rst F v).length ≤ F.length := List.length_filter_le _ _
theorem rst_srt {F : List (Int × Rat)} {v : Int} (h : Srt F) : Srt (rst F v) := ⟨h.1.filter _, fun t ht => h.2 t (rst_mem ht)⟩
theorem rst_cof (v u : Int) : ∀ (F : List (Int × Rat)), cof (rst F v) u = if u = v then 0 else cof F u
  | [] => by
    have e : rst [] v = [] := rfl
    rw [e, cof_nil]; split <;> rfl
  | t :: F => by
    by_cases h : t.1 = v
    · rw [rst_eq h, rst_cof v u F]
      split
      · rfl
      · rw [cof_tl (by omega)]
    · rw [rst_ne h]
      by_cases h2 : u = t.1
      · rw [cof_hd h2, if_neg (by omega), cof_hd h2]
      · rw [cof_tl h2, rst_cof v u F, cof_tl h2]
theorem rst_plus {F : List (Int × Rat)} {v : Int} (h : Srt F) : plusV false F v (-(cof F v)) = rst F v := by
  obtain ⟨a1, a2, _⟩ := plus_srt (v := v) (c := -(cof F v)) h
  refine srt_ext a1 (rst_srt h) fun u => ?_
  rw [a2, rst_cof]
  split
  · rename_i e; subst e; grind
  · grind
def lstC (v : Int) : Rat → List (Int × Rat) → Rat
  | s, [] => s
  | s, t :: F => lstC v (if t.1 = v then t.2 else s) F
theorem lstC_no {v : Int} : ∀ {F : List (Int × Rat)} {s : Rat}, (∀ t ∈ F, t.1 ≠ v) → lstC v s F = s
  | [], _, _ => rfl
  | t :: F, s, h => by
    rw [lstC, if_neg (h t (by simp))]
    exact lstC_no fun u hu => h u (by simp [hu])
theorem lstC_cof {v : Int} : ∀ {F : List (Int × Rat)}, Srt F → lstC v 0 F = cof F v
  | [], _ => rfl
  | t :: F, h => by
    rw [lstC]
    by_cases e : t.1 = v
    · rw [if_pos e, cof_hd e.symm]
      exact lstC_no fun u hu => by have := h.head u hu; omega
    · rw [if_neg e, cof_tl (by omega)]
      exact lstC_cof h.tail
def sbF (v : Int) (_ : Nat) (b : List (Int × Rat) × Rat) (t : Int × Rat) : List (Int × Rat) × Rat := if t.1 = v then (b.1, t.2) else (b.1 ++ [t], b.2)
theorem sbF_fold {v : Int} : ∀ {F : List (Int × Rat)} {i : Nat} {b : List (Int × Rat) × Rat}, foldI (sbF v) i b F = (b.1 ++ rst F v, lstC v b.2 F)
  | [], i, b => by
    have e : rst [] v = [] := rfl
    rw [foldI, e, List.append_nil, lstC]
  | t :: F, i, b => by
    rw [foldI, sbF_fold, lstC]
    unfold sbF
    by_cases e : t.1 = v
    · rw [if_pos e, if_pos e, rst_eq e]
    · rw [if_neg e, if_neg e, rst_ne e]
      simp
theorem lsb_c {n : Nat} {f g : Form} {v : Int} {b : Nat} (hS : Srt f.1) (hF : ∀ t ∈ f.1, H t.2 ≤ b) (hG : ∀ t ∈ g.1, H t.2 ≤ b) (hb : b ≤ 1000000) (h1 : 1 ≤ b) (hk : H f.2 ≤ 1000000) (hk2 : H g.2 ≤ 1000000) (hlf : f.1.length ≤ 1000000) (hlg : g.1.length ≤ 1000000) :
    run (n + 2) 81 [formV f, .lit (.int .i64 v), formV g] = some (formV (mergeV (rst f.1 v) g.1 (cof f.1 v), f.2 + g.2 * cof f.1 v)) := by
  have L := loopG_I (O := tab (n + 2)) (P := Tryz.prog) (m := 0) (N := 39) (lives := livesOf 81) (r := 4) (C := lsb_C4) (L := f.1) (f := sbF v) (enc := fun i b => lsb_h4 f v g i b.1 b.2) (exN := .exit 0) (out := fun b => lsb_o4a f g b.1 b.2) (Inv := fun i b => b.1.length ≤ i ∧ i ≤ f.1.length) ([], 0) ⟨by simp, by omega⟩ (by omega) (fun h => by cases h)
    (fun i t s hi hI => by
      obtain ⟨u, c⟩ := t
      obtain ⟨hI, _⟩ := hI
      have hlt := (List.getElem?_eq_some_iff.1 hi).1
      unfold sbF
      by_cases e : u = v
      · rw [if_pos e]
        exact ⟨lsb_r4_1 (by omega) hi e ⟨by omega, by omega⟩, by dsimp only; omega, hlt⟩
      · rw [if_neg e]
        exact ⟨lsb_r4_2 (by omega) hi e (by omega) ⟨by omega, by omega⟩, by simp; omega, hlt⟩)
    (fun b hI => lsb_x4_1 (by have := hI.2; omega))
  have L := L.1
  rw [sbF_fold] at L
  dsimp only at L
  rw [List.nil_append, lstC_cof hS] at L
  have hc : H (cof f.1 v) ≤ b := cof_H hF h1
  have hr := rst_len f.1 v
  exact lsb_f1 L (merge_c (n := n) (f := (rst f.1 v, f.2)) (b := b) (fun t ht => hF t (rst_mem ht)) hG hb (by omega) hk hk2 (by dsimp only; omega) hlg)
theorem fsbG_c {n : Nat} {f g : Form} {v : Int} (hS : Srt f.1) (hF : TmB 100 f.1) (hG : TmB 100 g.1) (hk : H f.2 ≤ 100) (hk2 : H g.2 ≤ 100) (hlf : f.1.length ≤ 100) (hlg : g.1.length ≤ 100) :
    run (n + 3) 117 [formV f, .lit (.int .i64 v), formV g] = some (formV (addV (rst f.1 v) (sclV g.1 (cof f.1 v)), f.2 + g.2 * cof f.1 v)) := by
  have hc : H (cof f.1 v) ≤ 100 := cof_H (fun t ht => (hF t ht).2) (by omega)
  have hn := H_neg (cof f.1 v)
  have hm := H_mul g.2 (cof f.1 v)
  have K1 := fco_c (n := n + 2) (f := f) (v := v) (by omega)
  have K3 := plus_c (n := n + 1) (f := f) (v := v) (c := -(cof f.1 v)) (hF.mono (by omega)) (by omega) (by omega)
  rw [rst_plus hS] at K3
  have K4 := scale_c (n := n + 1) (f := g) (c := cof f.1 v) (hG.mono (by omega)) (by omega) (by omega) (by omega)
  have hr := rst_len f.1 v
  have hs := sclV_len (cof f.1 v) g.1
  have tR : TmB 100 (rst f.1 v) := fun t ht => hF t (rst_mem ht)
  have K5 := add_c (n := n) (f := (rst f.1 v, f.2)) (g := (sclV g.1 (cof f.1 v), g.2 * cof f.1 v)) (m := 100) (b := 200) (hG.scl hc) (by dsimp only; omega) tR (by dsimp only; omega) (by dsimp only; omega) (by dsimp only; omega) (by dsimp only; omega)
  exact fsb_f1 K1 (by omega) K3 K4 K5
theorem InR.rst {k : Nat} {v : Int} {F : List (Int × Rat)} (h : InR k F) : InR k (rst F v) := fun t ht => h t (rst_mem ht)
end Go.Proofs.YtlpmemelhlnfbaaGreatDoor
