import Derived.Test.YtlpmemelhlnfbaaGreatDoorGA16
import Derived.Test.YtlpmemelhlnfbaaGreatDoorGA23
import Derived.Test.YtlpmemelhlnfbaaGreatDoorGA21
set_option linter.all false
set_option maxRecDepth 100000
set_option maxHeartbeats 6400000
namespace Go.Proofs.YtlpmemelhlnfbaaGreatDoor
open Go.RowKit
noncomputable def fco_C2 : Code := (loopsOf (bodyOf Tryz.f175)).getD 0 .skip
def fco_h2 (a0 : Form) (a1 : Int) (i_2 : Nat) : St :=
  ⟨[(1, .lit (.int .i64 a1)), (2, .ptr 0 0), (4, .ptr 1 0), (5, .lit (.int .i64 (i_2 : Int)))],
   [(0, some (.box 29 [.sl 4 (a0.1.map termC), .lit (.bool (rawQ a0.2).s), natA (rawQ a0.2).l1, natA (rawQ a0.2).l2] false)),
    (1, some (.box 27 [.lit (.bool false), .nl 1, .nl 1] false))], 2⟩
def fco_o2a (q3 : Rat) : St :=
  ⟨[(4, .ptr 0 0)],
   [(0, some (.box 27 [.lit (.bool (rawQ q3).s), natA (rawQ q3).l1, natA (rawQ q3).l2] false))], 1⟩
def fco_o2b  : St :=
  ⟨[(4, .ptr 0 0)],
   [(0, some (.box 27 [.lit (.bool false), .nl 1, .nl 1] false))], 1⟩
section
variable {a1 : Int} {v3 : Int} {i_2 : Nat} {q3 : Rat} {a0 : Form} {n : Nat}
theorem fco_r2_1 (C1 : (i_2 : Int) < (a0.1.length : Int)) (E2 : a0.1[i_2]? = some (v3, q3)) (C3 : ¬ v3 = a1) (W4 : InI ((i_2 : Int) + 1)) :
    Cont 0 (exec Tryz.prog (tab n) 0 28 (livesOf 175) big fco_C2) (livesOf 175 2) (fco_h2 a0 a1 i_2) (fco_h2 a0 a1 (i_2 + 1)) := by
  have C1_ : i_2 < a0.1.length := by omega
  obtain ⟨EL2, EG2⟩ := List.getElem?_eq_some_iff.1 E2
  have C3_ : (v3 == a1) = false := by simpa using C3
  have C3_n : (v3 != a1) = true := by simpa using C3
  have W4_ : IntKind.i64.wrap ((i_2 : Int) + 1) = (i_2 : Int) + 1 := wr64 W4.1 W4.2
  unfold Cont
  simp +decide [fco_h2, loopsOf, Tryz.f175, fco_C2, C1, C1_, EL2, EG2, E2, C3_, C3_n, W4_]
theorem fco_x2_1 (C1 : (i_2 : Int) < (a0.1.length : Int)) (E2 : a0.1[i_2]? = some (v3, q3)) (C3 : v3 = a1) :
    Leave 0 (exec Tryz.prog (tab n) 0 28 (livesOf 175) big fco_C2) (livesOf 175 (outOf 2)) (fco_h2 a0 a1 i_2) (.ret) (fco_o2a q3) := by
  have C1_ : i_2 < a0.1.length := by omega
  obtain ⟨EL2, EG2⟩ := List.getElem?_eq_some_iff.1 E2
  have C3_ : (v3 == a1) = true := by rw [C3]; simp
  have C3_n : (v3 != a1) = false := by rw [C3]; simp
  unfold Leave
  simp +decide [fco_h2, loopsOf, Tryz.f175, fco_o2a, fco_C2, C1, C1_, EL2, EG2, E2, C3_, C3_n]
theorem fco_x2_2 (C1 : ¬ (i_2 : Int) < (a0.1.length : Int)) :
    Leave 0 (exec Tryz.prog (tab n) 0 28 (livesOf 175) big fco_C2) (livesOf 175 (outOf 2)) (fco_h2 a0 a1 i_2) (.exit 0) (fco_o2b ) := by
  have C1_ : ¬ i_2 < a0.1.length := by omega
  unfold Leave
  simp +decide [fco_h2, loopsOf, Tryz.f175, fco_o2b, fco_C2, C1, C1_]
theorem fco_f1 (L1 : loopG Tryz.prog (tab n) 0 28 (livesOf 175) 2 fco_C2 (fco_h2 a0 a1 0) = some (.ret, fco_o2a q3)) :
    run n 175 [formV a0, .lit (.int .i64 a1)] = some (ratV q3) := by
  unfold run fnP
  simp +decide [Tryz.f175]
  rw [loopX_G (C' := fco_C2) (e := (fco_h2 a0 a1 0)) ?_ ?_, L1]
  rotate_left
  · kernel_rfl
  · simp +decide [fco_h2]
  simp +decide [fco_o2a]
theorem fco_f2 (L1 : loopG Tryz.prog (tab n) 0 28 (livesOf 175) 2 fco_C2 (fco_h2 a0 a1 0) = some (.exit 0, fco_o2b )) :
    run n 175 [formV a0, .lit (.int .i64 a1)] = some (.agg [.lit (.bool false), .sl 1 [], .sl 1 []]) := by
  unfold run fnP
  simp +decide [Tryz.f175]
  rw [loopX_G (C' := fco_C2) (e := (fco_h2 a0 a1 0)) ?_ ?_, L1]
  rotate_left
  · kernel_rfl
  · simp +decide [fco_h2]
  simp +decide [fco_o2b]
end
end Go.Proofs.YtlpmemelhlnfbaaGreatDoor
set_option linter.all false
set_option maxRecDepth 100000
set_option maxHeartbeats 6400000
namespace Go.Proofs.YtlpmemelhlnfbaaGreatDoor
open Go.RowKit
attribute [local irreducible] run runL loopG exec
def cofE (v : Int) (_ : Nat) (_ : Unit) (t : Int × Rat) : Except Rat Unit := if t.1 = v then .error t.2 else .ok ()
theorem cofE_cof {v : Int} : ∀ {l : List (Int × Rat)} (i : Nat), foldE (cofE v) i () l = (match foldE (cofE v) i () l with | .ok _ => .ok () | .error _ => .error (cof l v)) ∧ ((∃ u, foldE (cofE v) i () l = .ok u) → cof l v = 0)
  | [], i => ⟨rfl, fun _ => rfl⟩
  | t :: l, i => by
    obtain ⟨h1, h2⟩ := cofE_cof (v := v) (l := l) (i + 1)
    by_cases e : t.1 = v
    · have e1 : cofE v i () t = .error t.2 := if_pos e
      have e2 : foldE (cofE v) i () (t :: l) = .error t.2 := by rw [foldE, e1]
      rw [e2]
      exact ⟨by rw [cof, if_pos e], fun ⟨u, h⟩ => by cases h⟩
    · have e1 : cofE v i () t = .ok () := if_neg e
      have e2 : foldE (cofE v) i () (t :: l) = foldE (cofE v) (i + 1) () l := by rw [foldE, e1]
      have e3 : cof (t :: l) v = cof l v := by rw [cof, if_neg e]
      rw [e2, e3]
      exact ⟨h1, h2⟩
theorem cof_H {b : Nat} {l : List (Int × Rat)} {v : Int} (h : ∀ t ∈ l, H t.2 ≤ b) (hb : 1 ≤ b) : H (cof l v) ≤ b := by
  induction l with
  | nil => rw [cof_nil, H_zero]; exact hb
  | cons t l ih =>
    rw [cof]
    split
    · exact h t (by simp)
    · exact ih fun u hu => h u (by simp [hu])
theorem fco_c {n : Nat} {f : Form} {v : Int} (hl : f.1.length ≤ 100000000) : run n 175 [formV f, .lit (.int .i64 v)] = some (ratV (cof f.1 v)) := by
  have L := loopG_E (O := tab n) (P := Tryz.prog) (m := 0) (N := 28) (lives := livesOf 175) (r := 2) (C := fco_C2) (L := f.1) (f := cofE v) (enc := fun i _ => fco_h2 f v i) (exN := .exit 0) (exE := .ret) (out := fun _ => fco_o2b) (outE := fco_o2a) (Inv := fun _ _ => True) () trivial (by omega) (fun h => by cases h) (fun h => by cases h)
    (fun i t s hi hI => by
      obtain ⟨u, c⟩ := t
      have hlt := (List.getElem?_eq_some_iff.1 hi).1
      unfold cofE
      by_cases e : u = v
      · rw [if_pos e]
        exact fco_x2_1 (by omega) hi e
      · rw [if_neg e]
        exact ⟨fco_r2_1 (by omega) hi e ⟨by omega, by omega⟩, trivial⟩)
    (fun b hI => fco_x2_2 (by omega))
  obtain ⟨h1, h2⟩ := cofE_cof (v := v) (l := f.1) 0
  have L := L.1
  cases hE : foldE (cofE v) 0 () f.1 with
  | ok s =>
    rw [hE] at L
    rw [h2 ⟨s, hE⟩]
    have h := fco_f2 (a1 := v) L
    simpa using h
  | error s =>
    rw [hE] at L h1
    cases h1
    exact fco_f1 L
end Go.Proofs.YtlpmemelhlnfbaaGreatDoor
set_option linter.all false
namespace Go.Proofs.YtlpmemelhlnfbaaGreatDoor
open Go.RowKit
def evS (X : List Rat) : List (Int × Rat) → Rat
  | [] => 0
  | t :: F => t.2 * X.getD t.1.toNat 0 + evS X F
theorem evS_fold (X : List Rat) : ∀ (F : List (Int × Rat)) (s : Rat), F.foldl (fun s t => s + t.2 * X.getD t.1.toNat 0) s = s + evS X F
  | [], s => by rw [List.foldl_nil, evS]; grind
  | t :: F, s => by rw [List.foldl_cons, evS_fold X F, evS]; grind
theorem evS_app (X : List Rat) : ∀ (F G : List (Int × Rat)), evS X (F ++ G) = evS X F + evS X G
  | [], G => by rw [List.nil_append, evS]; grind
  | t :: F, G => by rw [List.cons_append, evS, evS_app X F G, evS]; grind
theorem evS_put (X : List Rat) (v : Int) (q : Rat) : evS X (put1 v q) = q * X.getD v.toNat 0 := by
  unfold put1
  split
  · rename_i h; rw [h, evS]; grind
  · rw [evS, evS]; grind
theorem evS_plus {X : List Rat} {v : Int} {c : Rat} : ∀ {F : List (Int × Rat)}, Srt F → evS X (plusV false F v c) = evS X F + c * X.getD v.toNat 0
  | [], _ => by
    have e : plusV false [] v c = put1 v c := rfl
    rw [e, evS_put, evS]; grind
  | t :: F, h => by
    have hd := h.head
    rcases Int.lt_trichotomy t.1 v with h1 | h1 | h1
    · rw [plusV_lt (by omega) (.inr h1), evS_app, evS_put, evS_plus h.tail, evS]; grind
    · rw [plusV_eq h1, plus_done (by rw [← h1]; exact hd) h.tail.2, evS_app, evS_put, evS, h1]; grind
    · rw [plusV_gt h1, plus_done (hd.mono (by omega)) h.tail.2, evS_app, evS_app, evS_put, evS_put, evS]; grind
theorem evS_scl (X : List Rat) (c : Rat) : ∀ (F : List (Int × Rat)), evS X (sclV F c) = evS X F * c
  | [] => by
    have e : sclV [] c = [] := rfl
    rw [e, evS]; grind
  | t :: F => by
    have e : sclV (t :: F) c = put1 t.1 (t.2 * c) ++ sclV F c := rfl
    rw [e, evS_app, evS_put, evS_scl X c F, evS]; grind
def InR (k : Nat) (F : List (Int × Rat)) : Prop := ∀ t ∈ F, 0 ≤ t.1 ∧ t.1 < (k : Int)
theorem InR.app {k : Nat} {F G : List (Int × Rat)} (h : InR k F) (g : InR k G) : InR k (F ++ G) := fun t ht => (List.mem_append.1 ht).elim (h t) (g t)
theorem InR.put {k : Nat} {v : Int} {q : Rat} (h : 0 ≤ v ∧ v < (k : Int)) : InR k (put1 v q) := fun t ht => by
  obtain ⟨rfl, _⟩ := put1_mem ht
  exact h
theorem InR.plus {k : Nat} {v : Int} {c : Rat} (hv : 0 ≤ v ∧ v < (k : Int)) : ∀ {d : Bool} {F : List (Int × Rat)}, InR k F → InR k (plusV d F v c)
  | d, [], _ => by
    rw [plusV]
    split
    · exact fun t ht => by cases ht
    · exact InR.put hv
  | d, t :: F, h => by
    have ht : 0 ≤ t.1 ∧ t.1 < (k : Int) := h t (by simp)
    have hF : InR k F := fun u hu => h u (by simp [hu])
    rw [plusV]
    split
    · exact (InR.put ht).app (InR.plus hv hF)
    · split
      · exact (InR.put hv).app ((InR.put ht).app (InR.plus hv hF))
      · exact (InR.put ht).app (InR.plus hv hF)
theorem InR.add {k : Nat} : ∀ {G F : List (Int × Rat)}, InR k F → InR k G → InR k (addV F G)
  | [], F, h, _ => h
  | t :: G, F, h, g => by
    have e : addV F (t :: G) = addV (plusV false F t.1 t.2) G := rfl
    rw [e]
    exact InR.add (InR.plus (g t (by simp)) h) fun u hu => g u (by simp [hu])
theorem InR.scl {k : Nat} {c : Rat} {F : List (Int × Rat)} (h : InR k F) : InR k (sclV F c) := fun t ht => by
  simp only [sclV, List.mem_flatMap] at ht
  obtain ⟨u, hu, h1⟩ := ht
  obtain ⟨rfl, _⟩ := put1_mem h1
  exact h u hu
theorem TmB.add {b : Nat} : ∀ {G F : List (Int × Rat)} {m : Nat}, TmB m F → TmB b G → TmB (m + (b + 1) * G.length) (addV F G)
  | [], F, m, h, _ => h
  | t :: G, F, m, h, g => by
    have e : addV F (t :: G) = addV (plusV false F t.1 t.2) G := rfl
    rw [e]
    refine (TmB.add (TmB.plus (g t (by simp)).2 h) fun u hu => g u (by simp [hu])).mono ?_
    rw [List.length_cons, Nat.mul_add]
    omega
theorem addV_len : ∀ (G F : List (Int × Rat)), (addV F G).length ≤ F.length + G.length
  | [], F => by have e : addV F [] = F := rfl; rw [e]; simp
  | t :: G, F => by
    have e : addV F (t :: G) = addV (plusV false F t.1 t.2) G := rfl
    have h1 := addV_len G (plusV false F t.1 t.2)
    have h2 := plusV_len false F t.1 t.2
    rw [e, List.length_cons]
    omega
theorem TmB.scl {m b : Nat} {c : Rat} {F : List (Int × Rat)} (h : TmB m F) (hc : H c ≤ b) : TmB (m + b) (sclV F c) := fun t ht => by
  simp only [sclV, List.mem_flatMap] at ht
  obtain ⟨u, hu, h1⟩ := ht
  obtain ⟨rfl, h2⟩ := put1_mem h1
  have h3 := H_mul u.2 c
  have h4 := (h u hu).2
  exact ⟨h2, by dsimp only; omega⟩
theorem TmB.bd {m : Nat} {f : Form} (h : TmB m f.1) (hl : f.1.length ≤ 100000000) (hk : H f.2 ≤ m) : BdF m f := ⟨hl, fun t ht => (h t ht).2, hk⟩
end Go.Proofs.YtlpmemelhlnfbaaGreatDoor
set_option linter.all false
set_option maxRecDepth 100000
set_option maxHeartbeats 6400000
namespace Go.Proofs.YtlpmemelhlnfbaaGreatDoor
open Go.RowKit
theorem ou_f1 {n : Nat} {a0 : TGraph} {a1 : List Rat} {r : List Rat} {r2 : Int} (K1 : run (n + 4) 101 [graphV a0, .sl 4 (a0.Outputs.map formC), .sl 3 (a1.map ratC)] = some (.tup [.sl 3 (r.map ratC), .lit (.int .i64 r2)])) :
    run (n + 5) 37 [graphV a0, .sl 3 (a1.map ratC)] = some (.tup [.sl 3 (r.map ratC), .lit (.int .i64 r2)]) := by
  simp only [graphV] at K1
  unfold run fnP
  simp +decide [Tryz.f37, K1]
theorem smf_f1 {n : Nat} {a0 : List Int} {r : TFeed} {r2 : TGraph} {z : Int} (K1 : runL (n + 4) 74 [.sl 1 (a0.map intU8C)] [] = some (.ptr 2 0, [(2, .box 156 [.sl 1 (r.Raw.map intU8C), .lit (.int .i64 (r.At))] false)])) (K2 : runL (n + 4) 75 [.ptr 0 0] [.box 156 [.sl 1 (r.Raw.map intU8C), .lit (.int .i64 (r.At))] false] = some (graphV r2, [(0, .box 156 [.sl 1 (r.Raw.map intU8C), .lit (.int .i64 z)] false)])) :
    run (n + 5) 20 [.sl 1 (a0.map intU8C)] = some (graphV r2) := by
  simp only [graphV] at K2
  unfold run fnP
  simp +decide [Tryz.f20, K1, K2]
noncomputable def poi_C4 : Code := (loopsOf (bodyOf Tryz.f27)).getD 0 .skip
def poi_h4 (a1 : Int) (out_4 : List Rat) (i_4 : Nat) (r : TFeed) (i2_4 : Int) : St :=
  ⟨[(1, .lit (.int .i64 a1)), (5, .ptr 0 0), (6, .own 1 out_4.length), (7, .lit (.int .i64 (i_4 : Int)))],
   [(0, some (.box 156 [.sl 1 (r.Raw.map intU8C), .lit (.int .i64 i2_4)] false)),
    (1, some (.row 27 3 (out_4.map ratC) 0))], 2⟩
def poi_o4a (out_4 : List Rat) : St :=
  ⟨[(6, .own 0 out_4.length)],
   [(0, some (.row 27 3 (out_4.map ratC) 0))], 1⟩
section
variable {a1 : Int} {i_4 : Nat} {i2_4 : Int} {r4 : Rat} {z3 : Int} {out_4 : List Rat} {r : TFeed} {n : Nat} {a0 : List Int}
theorem poi_r4_1 (C1 : (i_4 : Int) < a1) (K2 : runL (n + 1) 92 [.ptr 0 0] [.box 156 [.sl 1 (r.Raw.map intU8C), .lit (.int .i64 i2_4)] false] = some (ratV r4, [(0, .box 156 [.sl 1 (r.Raw.map intU8C), .lit (.int .i64 z3)] false)])) (M3 : out_4.length + 1 ≤ 100000000) (W4 : InI ((i_4 : Int) + 1)) :
    Cont 0 (exec Tryz.prog (tab (n + 2)) 0 21 (livesOf 27) big poi_C4) (livesOf 27 4) (poi_h4 a1 out_4 i_4 r i2_4) (poi_h4 a1 (out_4 ++ [r4]) (i_4 + 1) r z3) := by
  simp only [ratV] at K2
  have M3_ : ∀ b, b ≤ 10000 → roomy (out_4.length + 1) b = true := fun b hb => roomy_s M3 hb
  have W4_ : IntKind.i64.wrap ((i_4 : Int) + 1) = (i_4 : Int) + 1 := wr64 W4.1 W4.2
  unfold Cont
  simp +decide [poi_h4, loopsOf, Tryz.f27, poi_C4, C1, K2, M3_, W4_]
theorem poi_x4_1 (C1 : ¬ (i_4 : Int) < a1) :
    Leave 0 (exec Tryz.prog (tab (n + 2)) 0 21 (livesOf 27) big poi_C4) (livesOf 27 (outOf 4)) (poi_h4 a1 out_4 i_4 r i2_4) (.exit 0) (poi_o4a out_4) := by
  unfold Leave
  simp +decide [poi_h4, loopsOf, Tryz.f27, poi_o4a, poi_C4, C1]
theorem poi_f1 (K1 : runL (n + 1) 74 [.sl 1 (a0.map intU8C)] [] = some (.ptr 2 0, [(2, .box 156 [.sl 1 (r.Raw.map intU8C), .lit (.int .i64 (r.At))] false)])) (L2 : loopG Tryz.prog (tab (n + 2)) 0 21 (livesOf 27) 4 poi_C4 (poi_h4 a1 [] 0 r r.At) = some (.exit 0, poi_o4a out_4)) :
    run (n + 2) 27 [.sl 1 (a0.map intU8C), .lit (.int .i64 a1)] = some (.sl 3 (out_4.map ratC)) := by
  unfold run fnP
  simp +decide [Tryz.f27, K1]
  rw [loopX_G (C' := poi_C4) (e := (poi_h4 a1 [] 0 r r.At)) ?_ ?_, L2]
  rotate_left
  · kernel_rfl
  · simp +decide [poi_h4, K1]
  simp +decide [poi_o4a, K1]
end
end Go.Proofs.YtlpmemelhlnfbaaGreatDoor
set_option linter.all false
set_option maxRecDepth 100000
set_option maxHeartbeats 6400000
namespace Go.Proofs.YtlpmemelhlnfbaaGreatDoor
open Go.RowKit
theorem newG_c {n : Nat} {bs : List Int} (hl : bs.length ≤ 1000000) : runL n 74 [.sl 1 (bs.map intU8C)] [] = some (.ptr 2 0, [(2, fdB bs 0)]) := by
  unfold runL fnL fdB
  have hr : ∀ b, b ≤ 10000 → roomy bs.length b = true := fun b hb => roomy_s (by omega) hb
  simp +decide [Tryz.f74, hr]
attribute [local irreducible] run runL loopG exec
theorem small15_c {n : Nat} {bs : List Int} (hb : Byt bs) (hl : bs.length ≤ 1000000) : ∃ g : TGraph, run (n + 5) 20 [.sl 1 (bs.map intU8C)] = some (graphV g) ∧ GrOk g := by
  have K1 := newG_c (n := n + 4) hl
  obtain ⟨g, k1, K2, hg, hk⟩ := graph_c (n := n) hb (Nat.zero_le _)
  exact ⟨g, smf_f1 (r := ⟨bs, 0⟩) K1 K2, hg⟩
theorem point_c {n : Nat} {bs : List Int} (hb : Byt bs) (hl : bs.length ≤ 1000000) {I : Int} (h0 : 0 ≤ I) (h1 : I ≤ 1000) : ∃ X : List Rat, run (n + 2) 27 [.sl 1 (bs.map intU8C), .lit (.int .i64 I)] = some (.sl 3 (X.map ratC)) ∧ (X.length : Int) = I ∧ ∀ q ∈ X, H q ≤ 2 := by
  have K1 := newG_c (n := n + 1) hl
  obtain ⟨b, hL, hI1, hI2, hI3⟩ := loopG_R (O := tab (n + 2)) (P := Tryz.prog) (m := 0) (N := 21) (lives := livesOf 27) (r := 4) (C := poi_C4) (exN := .exit 0) (M := I.toNat)
    (enc := fun i (b : List Rat × Nat) => poi_h4 I b.1 i ⟨bs, 0⟩ (b.2 : Int)) (out := fun b => poi_o4a b.1)
    (fun i b => b.2 ≤ bs.length ∧ b.1.length = i ∧ ∀ q ∈ b.1, H q ≤ 2) ([], 0) ⟨Nat.zero_le _, rfl, fun q hq => by cases hq⟩ (by omega) (by simp)
    (fun i b hi hI => by
      obtain ⟨o, k⟩ := b
      obtain ⟨i1, i2, i3⟩ := hI
      dsimp only at i1 i2 i3
      have N1 := num_c (n := n) hb i1
      refine ⟨(o ++ [(numN bs k).1], (numN bs k).2), poi_r4_1 (r := ⟨bs, 0⟩) (by omega) N1 (by dsimp only; omega) ⟨by omega, by omega⟩, numN_le i1, by dsimp only; rw [List.length_append, i2]; rfl, fun q hq => ?_⟩
      rcases List.mem_append.1 hq with h | h
      · exact i3 q h
      · rw [List.mem_singleton.1 h]; exact numN_few bs k)
    (fun b hI => poi_x4_1 (by omega))
  exact ⟨b.1, poi_f1 (r := ⟨bs, 0⟩) K1 hL, by omega, hI3⟩
theorem evV_eq (X : List Rat) (f : Form) : evV X f = f.2 + evS X f.1 := evS_fold X f.1 f.2
theorem evS_ext {X Y : List Rat} : ∀ {F : List (Int × Rat)}, (∀ t ∈ F, X.getD t.1.toNat 0 = Y.getD t.1.toNat 0) → evS X F = evS Y F
  | [], _ => rfl
  | t :: F, h => by
    unfold evS
    rw [h t (by simp), evS_ext fun u hu => h u (by simp [hu])]
theorem evV_app {X R : List Rat} {f : Form} (h : InR X.length f.1) : evV (X ++ R) f = evV X f := by
  rw [evV_eq, evV_eq, evS_ext fun t ht => ?_]
  have := h t ht
  rw [List.getD_eq_getElem?_getD, List.getD_eq_getElem?_getD, List.getElem?_append_left (by omega)]
theorem valV_step {X : List Rat} {U : List Form} {f : Form} : valV (f :: U) X = valV U (X ++ [max0 (evV X f)]) := by
  have key : ∀ (U : List Form) (i j : Nat) (o : List Rat), foldI (fun _ out f => out ++ [max0 (evV out f)]) i o U = foldI (fun _ out f => out ++ [max0 (evV out f)]) j o U := fun U => by
    induction U with
    | nil => intro i j o; rfl
    | cons f U ih => intro i j o; exact ih _ _ _
  exact key U 1 0 _
theorem valV_ext : ∀ (U : List Form) (X : List Rat), ∃ R, valV U X = X ++ R ∧ R.length = U.length
  | [], X => ⟨[], by simp [valV, foldI], rfl⟩
  | f :: U, X => by
    obtain ⟨R, h, hl⟩ := valV_ext U (X ++ [max0 (evV X f)])
    exact ⟨max0 (evV X f) :: R, by rw [valV_step, h, List.append_assoc]; rfl, by simp [hl]⟩
def Back (k : Nat) (U : List Form) : Prop := ∀ i f, U[i]? = some f → InR (k + i) f.1
theorem Back.tail {k : Nat} {f : Form} {U : List Form} (h : Back k (f :: U)) : Back (k + 1) U := fun i g hg => by
  have := h (i + 1) g (by simpa using hg)
  rwa [show k + (i + 1) = k + 1 + i from by omega] at this
theorem Back.head {k : Nat} {f : Form} {U : List Form} (h : Back k (f :: U)) : InR k f.1 := h 0 f rfl
theorem OkGr.back {g : TGraph} {X : List Rat} (h : OkGr g) (hX : (X.length : Int) = g.Inputs) : Back X.length g.Units := fun i f hf t ht => by
  have hlt := (List.getElem?_eq_some_iff.1 hf).1
  obtain ⟨j, hj⟩ := List.mem_iff_getElem?.1 ht
  have := h.un i hlt f hf j (List.getElem?_eq_some_iff.1 hj).1 t.1 t.2 hj
  exact ⟨this.1, by omega⟩
theorem OkGr.out {g : TGraph} (h : OkGr g) {f : Form} (hf : f ∈ g.Outputs) : ∀ t ∈ f.1, 0 ≤ t.1 ∧ t.1 < g.Inputs + (g.Units.length : Int) := fun t ht => by
  obtain ⟨j, hj⟩ := List.mem_iff_getElem?.1 ht
  have := h.ou f hf j (List.getElem?_eq_some_iff.1 hj).1 t.1 t.2 hj
  exact ⟨this.1, this.2.1⟩
theorem fouts_c {n : Nat} {g : TGraph} {X : List Rat} {a l b : Nat} (hG : OkGr g) (hB : BdG a g) (ha : a ≤ 1000000) (hl : ∀ f ∈ g.Units, f.1.length ≤ l) (hlo : ∀ f ∈ g.Outputs, f.1.length ≤ l) (hX : (X.length : Int) = g.Inputs) (hb : ∀ q ∈ X, H q ≤ b) (hbnd : bndV a l b (g.Units.length + 1) ≤ 100000000) :
    run (n + 5) 37 [graphV g, .sl 3 (X.map ratC)] = some (.tup [.sl 3 ((g.Outputs.map fun f => evV (valV g.Units X) f).map ratC), .lit (.int .i64 0)]) ∧ ∀ f ∈ g.Outputs, H (evV (valV g.Units X) f) ≤ bndV a l b (g.Units.length + 1) := by
  have h := forms_c (n := n) (L := g.Outputs) hG hB ha hl hX hb hbnd hB.lo (fun f hf => ⟨hB.o f hf, hlo f hf, hG.out hf⟩)
  exact ⟨ou_f1 h.1, h.2⟩
theorem GrOk.lu {g : TGraph} (h : GrOk g) : ∀ f ∈ g.Units, f.1.length ≤ 7 := fun f hf => by
  obtain ⟨i, hi⟩ := List.mem_iff_getElem?.1 hf
  have hlt := (List.getElem?_eq_some_iff.1 hi).1
  have := (h.un i f hi).l.len
  have := h.i1
  have := h.u
  omega
theorem GrOk.lo {g : TGraph} (h : GrOk g) : ∀ f ∈ g.Outputs, f.1.length ≤ 7 := fun f hf => by
  have := (h.ou f hf).l.len
  have := h.i1
  have := h.u
  omega
theorem GrOk.bnd {g : TGraph} (h : GrOk g) : bndV 2 7 2 (g.Units.length + 1) ≤ 1000000 := by
  have := h.u
  exact Nat.le_trans (bndV_mono 2 7 2 (i := g.Units.length + 1) (j := 5) (by omega)) (by decide)
end Go.Proofs.YtlpmemelhlnfbaaGreatDoor
