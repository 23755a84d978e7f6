import Derived.Test.YtjpoanaoaeaneaaGreatDoorGE16
import Derived.Test.YtjpoanaoaeaneaaGreatDoorGE18
set_option linter.all false
set_option maxRecDepth 100000
set_option maxHeartbeats 6400000
namespace Go.Proofs.YtjpoanaoaeaneaaGreatDoor
open Go.RowKit
noncomputable def ad_C3 : Code := (loopsOf (bodyOf Tryz.f179)).getD 0 .skip
def ad_h3 (a1 : Form) (i_3 : Nat) (l_3 : List (Int × Rat)) (s_3 : Rat) : St :=
  ⟨[(3, .ptr 0 0), (4, .ptr 1 0), (5, .ptr 2 0), (6, .lit (.int .i64 (i_3 : Int)))],
   [(0, some (.box 28 [.sl 4 (a1.1.map termC), .lit (.bool (rawQ a1.2).s), natA (rawQ a1.2).l1, natA (rawQ a1.2).l2] false)),
    (1, some (.box 28 [.nl 4, .lit (.bool false), .nl 1, .nl 1] false)),
    (2, some (.box 28 [.sl 4 (l_3.map termC), .lit (.bool (rawQ s_3).s), natA (rawQ s_3).l1, natA (rawQ s_3).l2] false))], 3⟩
def ad_o3a (l_3 : List (Int × Rat)) (s_3 : Rat) : St :=
  ⟨[(4, .ptr 0 0), (5, .ptr 1 0)],
   [(0, some (.box 28 [.nl 4, .lit (.bool false), .nl 1, .nl 1] false)),
    (1, some (.box 28 [.sl 4 (l_3.map termC), .lit (.bool (rawQ s_3).s), natA (rawQ s_3).l1, natA (rawQ s_3).l2] false))], 2⟩
section
variable {v3 : Int} {q3 : Rat} {r3 : Form} {a1 : Form} {s_3 : Rat} {n : Nat} {i_3 : Nat} {l_3 : List (Int × Rat)} {a0 : Form}
theorem ad_r3_1 (C1 : (i_3 : Int) < (a1.1.length : Int)) (E2 : a1.1[i_3]? = some (v3, q3)) (K3 : run (n + 1) 98 [formV (l_3, s_3), .lit (.int .i64 v3), ratV q3] = some (formV r3)) (W4 : InI ((i_3 : Int) + 1)) :
    Cont 0 (exec Tryz.prog (tab (n + 2)) 0 43 (livesOf 179) big ad_C3) (livesOf 179 3) (ad_h3 a1 i_3 l_3 s_3) (ad_h3 a1 (i_3 + 1) r3.1 r3.2) := by
  have C1_ : i_3 < a1.1.length := by omega
  obtain ⟨EL2, EG2⟩ := List.getElem?_eq_some_iff.1 E2
  simp only [ratV, formV] at K3
  have W4_ : IntKind.i64.wrap ((i_3 : Int) + 1) = (i_3 : Int) + 1 := wr64 W4.1 W4.2
  unfold Cont
  simp +decide [ad_h3, loopsOf, Tryz.f179, ad_C3, C1, C1_, EL2, EG2, E2, K3, W4_]
theorem ad_x3_1 (C1 : ¬ (i_3 : Int) < (a1.1.length : Int)) :
    Leave 0 (exec Tryz.prog (tab (n + 2)) 0 43 (livesOf 179) big ad_C3) (livesOf 179 (outOf 3)) (ad_h3 a1 i_3 l_3 s_3) (.exit 0) (ad_o3a l_3 s_3) := by
  have C1_ : ¬ i_3 < a1.1.length := by omega
  unfold Leave
  simp +decide [ad_h3, loopsOf, Tryz.f179, ad_o3a, ad_C3, C1, C1_]
theorem ad_f1 (B1a : H a0.2 ≤ 17179869184) (B1b : H a1.2 ≤ 17179869184) (L2 : loopG Tryz.prog (tab (n + 2)) 0 43 (livesOf 179) 3 ad_C3 (ad_h3 a1 0 a0.1 (a0.2 + a1.2)) = some (.exit 0, ad_o3a l_3 s_3)) (M3 : l_3.length ≤ 100000000) :
    run (n + 2) 179 [formV a0, formV a1] = some (formV (l_3, s_3)) := by
  have K1 := r_add (p := a0.2) (q := a1.2) B1a B1b
  have M3_ : ∀ b, b ≤ 10000 → roomy (l_3.length) b = true := fun b hb => roomy_s M3 hb
  unfold run fnP
  simp +decide [Tryz.f179, K1, M3_]
  rw [loopX_G (C' := ad_C3) (e := (ad_h3 a1 0 a0.1 (a0.2 + a1.2))) ?_ ?_, L2]
  rotate_left
  · kernel_rfl
  · simp +decide [ad_h3, K1, M3_]
  simp +decide [ad_o3a, K1, M3_]
end
noncomputable def sc_C3 : Code := (loopsOf (bodyOf Tryz.f180)).getD 0 .skip
def sc_h3 (a0 : Form) (a1 : Rat) (i_3 : Nat) (out_3 : List (Int × Rat)) : St :=
  ⟨[(2, .ptr 0 0), (3, .ptr 1 0), (4, .ptr 2 0), (5, .ptr 3 0), (6, .lit (.int .i64 (i_3 : Int)))],
   [(0, some (.box 28 [.sl 4 (a0.1.map termC), .lit (.bool (rawQ a0.2).s), natA (rawQ a0.2).l1, natA (rawQ a0.2).l2] false)),
    (1, some (.box 26 [.lit (.bool (rawQ a1).s), natA (rawQ a1).l1, natA (rawQ a1).l2] false)),
    (2, some (.box 28 [.nl 4, .lit (.bool false), .nl 1, .nl 1] false)),
    (3, some (.box 28 [.own 4 out_3.length, .lit (.bool (rawQ (a0.2 * a1)).s), natA (rawQ (a0.2 * a1)).l1, natA (rawQ (a0.2 * a1)).l2] false)),
    (4, some (.row 82 4 (out_3.map termC) 0))], 5⟩
def sc_o3a (a0 : Form) (a1 : Rat) (out_3 : List (Int × Rat)) : St :=
  ⟨[(4, .ptr 0 0), (5, .ptr 1 0)],
   [(0, some (.box 28 [.nl 4, .lit (.bool false), .nl 1, .nl 1] false)),
    (1, some (.box 28 [.own 2 out_3.length, .lit (.bool (rawQ (a0.2 * a1)).s), natA (rawQ (a0.2 * a1)).l1, natA (rawQ (a0.2 * a1)).l2] false)),
    (2, some (.row 82 4 (out_3.map termC) 0))], 3⟩
section
variable {a0 : Form} {v3 : Int} {q3 : Rat} {a1 : Rat} {out_3 : List (Int × Rat)} {n : Nat} {i_3 : Nat} {R3 : List (Int × Rat)}
theorem sc_r3_1 (C1 : (i_3 : Int) < (a0.1.length : Int)) (E2 : a0.1[i_3]? = some (v3, q3)) (B3a : H q3 ≤ 17179869184) (B3b : H a1 ≤ 17179869184) (K4 : runL n 173 [.own 0 out_3.length, .agg [.lit (.int .i64 v3), .lit (.bool (rawQ (q3 * a1)).s), natA (rawQ (q3 * a1)).l1, natA (rawQ (q3 * a1)).l2]] [.row 82 4 (out_3.map termC) 0] = some (.own 0 out_3.length, [(0, .row 82 4 (out_3.map termC) 0)])) (W5 : InI ((i_3 : Int) + 1)) :
    Cont 0 (exec Tryz.prog (tab (n + 1)) 0 39 (livesOf 180) big sc_C3) (livesOf 180 3) (sc_h3 a0 a1 i_3 out_3) (sc_h3 a0 a1 (i_3 + 1) out_3) := by
  have C1_ : i_3 < a0.1.length := by omega
  obtain ⟨EL2, EG2⟩ := List.getElem?_eq_some_iff.1 E2
  have K3 := r_mul (p := q3) (q := a1) B3a B3b
  have W5_ : IntKind.i64.wrap ((i_3 : Int) + 1) = (i_3 : Int) + 1 := wr64 W5.1 W5.2
  unfold Cont
  simp +decide [sc_h3, loopsOf, Tryz.f180, sc_C3, C1, C1_, EL2, EG2, E2, K3, K4, W5_]
theorem sc_r3_2 (C1 : (i_3 : Int) < (a0.1.length : Int)) (E2 : a0.1[i_3]? = some (v3, q3)) (B3a : H q3 ≤ 17179869184) (B3b : H a1 ≤ 17179869184) (K4 : runL n 173 [.own 0 out_3.length, .agg [.lit (.int .i64 v3), .lit (.bool (rawQ (q3 * a1)).s), natA (rawQ (q3 * a1)).l1, natA (rawQ (q3 * a1)).l2]] [.row 82 4 (out_3.map termC) 0] = some (.own 3 R3.length, [(3, .row 82 4 (R3.map termC) 0)])) (W5 : InI ((i_3 : Int) + 1)) :
    Cont 0 (exec Tryz.prog (tab (n + 1)) 0 39 (livesOf 180) big sc_C3) (livesOf 180 3) (sc_h3 a0 a1 i_3 out_3) (sc_h3 a0 a1 (i_3 + 1) R3) := by
  have C1_ : i_3 < a0.1.length := by omega
  obtain ⟨EL2, EG2⟩ := List.getElem?_eq_some_iff.1 E2
  have K3 := r_mul (p := q3) (q := a1) B3a B3b
  have W5_ : IntKind.i64.wrap ((i_3 : Int) + 1) = (i_3 : Int) + 1 := wr64 W5.1 W5.2
  unfold Cont
  simp +decide [sc_h3, loopsOf, Tryz.f180, sc_C3, C1, C1_, EL2, EG2, E2, K3, K4, W5_]
theorem sc_x3_1 (C1 : ¬ (i_3 : Int) < (a0.1.length : Int)) :
    Leave 0 (exec Tryz.prog (tab (n + 1)) 0 39 (livesOf 180) big sc_C3) (livesOf 180 (outOf 3)) (sc_h3 a0 a1 i_3 out_3) (.exit 0) (sc_o3a a0 a1 out_3) := by
  have C1_ : ¬ i_3 < a0.1.length := by omega
  unfold Leave
  simp +decide [sc_h3, loopsOf, Tryz.f180, sc_o3a, sc_C3, C1, C1_]
theorem sc_f1 (B1a : H a0.2 ≤ 17179869184) (B1b : H a1 ≤ 17179869184) (L2 : loopG Tryz.prog (tab (n + 1)) 0 39 (livesOf 180) 3 sc_C3 (sc_h3 a0 a1 0 []) = some (.exit 0, sc_o3a a0 a1 out_3)) :
    run (n + 1) 180 [formV a0, ratV a1] = some (formV (out_3, a0.2 * a1)) := by
  have K1 := r_mul (p := a0.2) (q := a1) B1a B1b
  unfold run fnP
  simp +decide [Tryz.f180, K1]
  rw [loopX_G (C' := sc_C3) (e := (sc_h3 a0 a1 0 [])) ?_ ?_, L2]
  rotate_left
  · kernel_rfl
  · simp +decide [sc_h3, K1]
  simp +decide [sc_o3a, K1]
end
end Go.Proofs.YtjpoanaoaeaneaaGreatDoor
set_option linter.all false
set_option maxRecDepth 100000
set_option maxHeartbeats 6400000
namespace Go.Proofs.YtjpoanaoaeaneaaGreatDoor
open Go.RowKit
theorem nz_same {n : Nat} {F : List (Int × Rat)} {v : Int} {q : Rat} (hq : H q ≤ 17179869184) (h0 : q = 0) :
    runL n 173 [.own 0 F.length, .agg [.lit (.int .i64 v), .lit (.bool (rawQ q).s), natA (rawQ q).l1, natA (rawQ q).l2]] [.row 82 4 (F.map termC) 0] = some (.own 0 F.length, [(0, .row 82 4 (F.map termC) 0)]) := by
  unfold runL fnL
  have hs := r_sign (p := q) hq
  have e2 : (sgR q == 0) = true := by rw [sgR_eq_zero.2 h0]; rfl
  simp +decide [Tryz.f173, hs, e2]
theorem nz_new {n : Nat} {F : List (Int × Rat)} {v : Int} {q : Rat} (hq : H q ≤ 17179869184) (h0 : q ≠ 0) (hF : F.length ≤ 10000000) :
    runL n 173 [.own 0 F.length, .agg [.lit (.int .i64 v), .lit (.bool (rawQ q).s), natA (rawQ q).l1, natA (rawQ q).l2]] [.row 82 4 (F.map termC) 0] = some (.own 3 (F ++ [(v, q)]).length, [(3, .row 82 4 ((F ++ [(v, q)]).map termC) 0)]) := by
  unfold runL fnL
  have hs := r_sign (p := q) hq
  have e2 : (sgR q == 0) = false := by simpa using fun h => h0 (sgR_eq_zero.1 h)
  have hr : ∀ b, b ≤ 10000 → roomy (F.length + 1) b = true := fun b hb => roomy_s (by omega) hb
  simp +decide [Tryz.f173, hs, e2, hr]
def plF (v : Int) (c : Rat) (i : Nat) (b : List (Int × Rat) × Bool) (t : Int × Rat) : List (Int × Rat) × Bool :=
  if t.1 = v then (b.1 ++ put1 t.1 (t.2 + c), true) else if b.2 = false ∧ v < t.1 then (b.1 ++ (put1 v c ++ put1 t.1 t.2), true) else (b.1 ++ put1 t.1 t.2, b.2)
theorem plF_fold (v : Int) (c : Rat) : ∀ (R : List (Int × Rat)) (i : Nat) (out : List (Int × Rat)) (d : Bool), foldI (plF v c) i (out, d) R = (out ++ plO d R v c, plD d R v)
  | [], i, out, d => by simp [foldI, plO, plD]
  | t :: R, i, out, d => by
    rw [foldI, plO, plD, plF]
    split
    · rw [plF_fold]; simp [List.append_assoc]
    · split
      · rw [plF_fold]; simp [List.append_assoc]
      · rw [plF_fold]; simp [List.append_assoc]
theorem pl_step {n : Nat} {f : Form} {v : Int} {c : Rat} (hT : TmB 1000000 f.1) (hF : f.1.length ≤ 400000) (hc : H c ≤ 1000000) {i : Nat} {t : Int × Rat} {b : List (Int × Rat) × Bool} (hi : f.1[i]? = some t) (hb : b.1.length ≤ 2 * i) :
    Cont 0 (exec Tryz.prog (tab (n + 1)) 0 61 (livesOf 98) big pl_C4) (livesOf 98 4) (pl_h4 f v c b.1 b.2 i) (pl_h4 f v c (plF v c i b t).1 (plF v c i b t).2 (i + 1)) := by
  obtain ⟨u, q⟩ := t
  obtain ⟨out, d⟩ := b
  have hlt := (List.getElem?_eq_some_iff.1 hi).1
  have ht := hT _ (List.mem_of_getElem? hi)
  have hq : H q ≤ 1000000 := ht.2
  have hq0 : q ≠ 0 := ht.1
  have hH := H_add q c
  have C1 : (i : Int) < (f.1.length : Int) := by omega
  have W : InI ((i : Int) + 1) := ⟨by omega, by omega⟩
  have hb : out.length ≤ 2 * i := hb
  have e3 : put1 u q = [(u, q)] := if_neg hq0
  unfold plF
  dsimp only
  split
  · rename_i e
    by_cases h0 : q + c = 0
    · have e4 : put1 u (q + c) = [] := if_pos h0
      rw [e4, List.append_nil]
      exact pl_r4_1 C1 hi e (by omega) (by omega) (nz_same (by omega) h0) W
    · have e4 : put1 u (q + c) = [(u, q + c)] := if_neg h0
      rw [e4]
      exact pl_r4_2 C1 hi e (by omega) (by omega) (nz_new (by omega) h0 (by omega)) W
  · rename_i e
    split
    · rename_i e2
      obtain ⟨e2, e5⟩ := e2
      rw [e3]
      by_cases h0 : c = 0
      · have e4 : put1 v c = [] := if_pos h0
        rw [e4, List.nil_append]
        exact pl_r4_4 C1 hi e e2 e5 (by omega) (nz_same (by omega) h0) (nz_new (by omega) hq0 (by omega)) W
      · have e4 : put1 v c = [(v, c)] := if_neg h0
        rw [e4, ← List.append_assoc]
        exact pl_r4_6 C1 hi e e2 e5 (by omega) (nz_new (by omega) h0 (by omega)) (nz_new (by omega) hq0 (by rw [List.length_append]; simp; omega)) W
    · rename_i e2
      rw [e3]
      cases d with
      | true => exact pl_r4_10 C1 hi e rfl (nz_new (by omega) hq0 (by omega)) W
      | false => exact pl_r4_8 C1 hi e rfl (fun h => e2 ⟨rfl, h⟩) (nz_new (by omega) hq0 (by omega)) W
theorem plF_len (v : Int) (c : Rat) (i : Nat) (b : List (Int × Rat) × Bool) (t : Int × Rat) : (plF v c i b t).1.length ≤ b.1.length + 2 := by
  have h1 := put1_len t.1 (t.2 + c)
  have h2 := put1_len v c
  have h3 := put1_len t.1 t.2
  unfold plF
  split
  · rw [List.length_append]; omega
  · split
    · rw [List.length_append, List.length_append]; omega
    · rw [List.length_append]; omega
theorem plus_c {n : Nat} {f : Form} {v : Int} {c : Rat} (hT : TmB 1000000 f.1) (hF : f.1.length ≤ 400000) (hc : H c ≤ 1000000) :
    run (n + 1) 98 [formV f, .lit (.int .i64 v), ratV c] = some (formV (plusV false f.1 v c, f.2)) := by
  have L : loopG Tryz.prog (tab (n + 1)) 0 61 (livesOf 98) 4 pl_C4 (pl_h4 f v c [] false 0) = some (.exit 0, pl_o4a f v c (plO false f.1 v c) (plD false f.1 v)) := by
    have h := (loopG_I (O := tab (n + 1)) (exN := .exit 0) (L := f.1) (enc := fun i b => pl_h4 f v c b.1 b.2 i) (f := plF v c) (Inv := fun i b => b.1.length ≤ 2 * i) (out := fun b => pl_o4a f v c b.1 b.2) ([], false) (by simp) (by omega) (by simp)
      (fun i t b hi hI => ⟨pl_step hT hF hc hi hI, by have := plF_len v c i b t; omega⟩) (fun b hI => pl_x4_1 (by omega))).1
    rw [plF_fold] at h
    exact h
  have hl := plO_len v c false f.1
  rw [plusV_plO]
  cases hd : plD false f.1 v with
  | true =>
    rw [hd] at L
    rw [if_pos rfl, List.append_nil]
    exact pl_f3 L rfl
  | false =>
    rw [hd] at L
    rw [if_neg (by simp)]
    by_cases h0 : c = 0
    · have e : put1 v c = [] := if_pos h0
      rw [e, List.append_nil]
      exact pl_f1 L rfl (by omega) (nz_same (by omega) h0)
    · have e : put1 v c = [(v, c)] := if_neg h0
      rw [e]
      exact pl_f2 L rfl (by omega) (nz_new (by omega) h0 (by omega))
theorem scale_c {n : Nat} {f : Form} {c : Rat} (hT : TmB 1000000 f.1) (hF : f.1.length ≤ 400000) (hk : H f.2 ≤ 1000000) (hc : H c ≤ 1000000) :
    run (n + 1) 180 [formV f, ratV c] = some (formV (sclV f.1 c, f.2 * c)) := by
  have key : ∀ (R : List (Int × Rat)) (i : Nat) (o : List (Int × Rat)), foldI (fun _ b (t : Int × Rat) => b ++ put1 t.1 (t.2 * c)) i o R = o ++ sclV R c := fun R => by
    induction R with
    | nil => intro i o; simp [foldI, sclV]
    | cons t R ih => intro i o; rw [foldI, ih]; simp [sclV, List.append_assoc]
  refine sc_f1 (by omega) (by omega) ?_
  have h := (loopG_I (O := tab (n + 1)) (exN := .exit 0) (L := f.1) (enc := fun i b => sc_h3 f c i b) (f := fun _ b (t : Int × Rat) => b ++ put1 t.1 (t.2 * c)) (Inv := fun i b => b.length ≤ i) (out := fun b => sc_o3a f c b) [] (by simp) (by omega) (by simp)
    (fun i t b hi hI => by
      obtain ⟨u, q⟩ := t
      have hlt := (List.getElem?_eq_some_iff.1 hi).1
      have hq : H q ≤ 1000000 := (hT _ (List.mem_of_getElem? hi)).2
      have hm := H_mul q c
      have C1 : (i : Int) < (f.1.length : Int) := by omega
      have W : InI ((i : Int) + 1) := ⟨by omega, by omega⟩
      have hl := put1_len u (q * c)
      refine ⟨?_, by rw [List.length_append]; dsimp only; omega⟩
      dsimp only
      by_cases h0 : q * c = 0
      · have e : put1 u (q * c) = [] := if_pos h0
        rw [e, List.append_nil]
        exact sc_r3_1 C1 hi (by omega) (by omega) (nz_same (by omega) h0) W
      · have e : put1 u (q * c) = [(u, q * c)] := if_neg h0
        rw [e]
        exact sc_r3_2 C1 hi (by omega) (by omega) (nz_new (by omega) h0 (by omega)) W) (fun b hI => sc_x3_1 (by omega))).1
  rw [key, List.nil_append] at h
  exact h
theorem add_c {n : Nat} {f g : Form} {m b : Nat} (hT : TmB b g.1) (hG : g.1.length ≤ 200000) (hF : TmB m f.1) (hl : f.1.length ≤ 200000) (hm : m + (b + 1) * (g.1.length + 1) ≤ 1000000) (h1 : H f.2 ≤ 1000000) (h2 : H g.2 ≤ 1000000) :
    run (n + 2) 179 [formV f, formV g] = some (formV (addV f.1 g.1, f.2 + g.2)) := by
  have key : ∀ (R : List (Int × Rat)) (i : Nat) (o : List (Int × Rat)), foldI (fun _ b (t : Int × Rat) => plusV false b t.1 t.2) i o R = addV o R := fun R => by
    induction R with
    | nil => intro i o; rfl
    | cons t R ih => intro i o; rw [foldI, ih]; rfl
  have hlen : ∀ (R o : List (Int × Rat)), (addV o R).length ≤ o.length + R.length := fun R => by
    induction R with
    | nil => intro o; simp [addV]
    | cons t R ih =>
      intro o
      have h1 := ih (plusV false o t.1 t.2)
      have h2 := plusV_len false o t.1 t.2
      show (addV (plusV false o t.1 t.2) R).length ≤ _
      rw [List.length_cons]; omega
  refine ad_f1 (by omega) (by omega) ?_ (by have := hlen g.1 f.1; omega)
  have h := (loopG_I (O := tab (n + 2)) (exN := .exit 0) (L := g.1) (enc := fun i o => ad_h3 g i o (f.2 + g.2)) (f := fun _ o (t : Int × Rat) => plusV false o t.1 t.2) (Inv := fun i o => o.length ≤ f.1.length + i ∧ TmB (m + (b + 1) * i) o ∧ i ≤ g.1.length) (out := fun o => ad_o3a o (f.2 + g.2)) f.1 ⟨by omega, by simpa using hF, by omega⟩ (by omega) (by simp)
    (fun i t o hi hI => by
      obtain ⟨u, q⟩ := t
      obtain ⟨hI1, hI2, hI3⟩ := hI
      have hlt := (List.getElem?_eq_some_iff.1 hi).1
      have hq : H q ≤ b := (hT _ (List.mem_of_getElem? hi)).2
      have C1 : (i : Int) < (g.1.length : Int) := by omega
      have W : InI ((i : Int) + 1) := ⟨by omega, by omega⟩
      have hl2 := plusV_len false o u q
      have hmi : (b + 1) * i ≤ (b + 1) * (g.1.length + 1) := Nat.mul_le_mul_left _ (by omega)
      have hb1 : b + 1 ≤ (b + 1) * (g.1.length + 1) := Nat.le_mul_of_pos_right _ (by omega)
      have e : m + (b + 1) * (i + 1) = m + (b + 1) * i + b + 1 := by rw [Nat.mul_succ]; omega
      refine ⟨ad_r3_1 (r3 := (plusV false o u q, f.2 + g.2)) C1 hi (plus_c (f := (o, f.2 + g.2)) (hI2.mono (by omega)) (by dsimp only; omega) (by omega)) W, by dsimp only; omega, ?_, hlt⟩
      rw [e]
      exact hI2.plus hq) (fun b hI => ad_x3_1 (by omega))).1
  rw [key] at h
  exact h
end Go.Proofs.YtjpoanaoaeaneaaGreatDoor
set_option linter.all false
set_option maxRecDepth 100000
set_option maxHeartbeats 6400000
namespace Go.Proofs.YtjpoanaoaeaneaaGreatDoor
open Go.RowKit
end Go.Proofs.YtjpoanaoaeaneaaGreatDoor
set_option linter.all false
set_option maxRecDepth 100000
set_option maxHeartbeats 6400000
namespace Go.Proofs.YtjpoanaoaeaneaaGreatDoor
open Go.RowKit
attribute [local irreducible] run runL loopG exec
theorem sgq_nonneg {q : Rat} : 0 ≤ sgR q ↔ 0 ≤ q := by
  unfold sgR
  rw [← Rat.num_nonneg]
  exact Int.sign_nonneg_iff
noncomputable def tv (p : Prop) : Bool := @decide p (Classical.propDecidable p)
theorem tv_t {p : Prop} (h : p) : tv p = true := @decide_eq_true p (Classical.propDecidable p) h
theorem tv_f {p : Prop} (h : ¬ p) : tv p = false := @decide_eq_false p (Classical.propDecidable p) h
theorem tv_true {p : Prop} (h : tv p = true) : p := @of_decide_eq_true p (Classical.propDecidable p) h
theorem tv_false {p : Prop} (h : tv p = false) : ¬ p := @of_decide_eq_false p (Classical.propDecidable p) h
def OkTm (F : List (Int × Rat)) (vars : Int) (i : Nat) : Prop := ∀ v c, F[i]? = some (v, c) → 0 ≤ v ∧ v < vars ∧ c ≠ 0 ∧ ∀ v' c', 0 < i → F[i - 1]? = some (v', c') → v' < v
def OkFm (f : Form) (vars : Int) : Prop := ∀ i, i < f.1.length → OkTm f.1 vars i
structure BdF (b : Nat) (f : Form) : Prop where
  l : f.1.length ≤ 100000000
  t : ∀ t ∈ f.1, H t.2 ≤ b
  k : H f.2 ≤ b
theorem BdF.mono {b c : Nat} {f : Form} (h : BdF b f) (hb : b ≤ c) : BdF c f := ⟨h.l, fun t ht => Nat.le_trans (h.t t ht) hb, Nat.le_trans h.k hb⟩
end Go.Proofs.YtjpoanaoaeaneaaGreatDoor
set_option linter.all false
set_option maxRecDepth 100000
set_option maxHeartbeats 6400000
namespace Go.Proofs.YtjpoanaoaeaneaaGreatDoor
open Go.RowKit
attribute [local irreducible] run runL loopG exec
def evF (X : List Rat) (i : Nat) (s : Rat) (t : Int × Rat) : Except Rat Rat :=
  if t.1 < 0 ∨ (X.length : Int) ≤ t.1 then .error s else .ok (s + t.2 * X.getD t.1.toNat 0)
theorem evF_ok {X : List Rat} : ∀ {F : List (Int × Rat)} (i : Nat) (s : Rat), (∀ t ∈ F, 0 ≤ t.1 ∧ t.1 < (X.length : Int)) → foldE (evF X) i s F = .ok (F.foldl (fun s t => s + t.2 * X.getD t.1.toNat 0) s)
  | [], i, s, _ => rfl
  | t :: F, i, s, h => by
    have h1 := h t List.mem_cons_self
    have e : evF X i s t = .ok (s + t.2 * X.getD t.1.toNat 0) := if_neg (by omega)
    rw [foldE, e, List.foldl_cons]
    exact evF_ok (i + 1) _ fun u hu => h u (List.mem_cons_of_mem _ hu)
def evR (X : List Rat) (f : Form) : AV :=
  match foldE (evF X) 0 f.2 f.1 with
  | .ok s => .tup [ratV s, .lit (.int .i64 0)]
  | .error _ => .tup [.agg [.lit (.bool false), .sl 1 [], .sl 1 []], .lit (.int .i64 2)]
end Go.Proofs.YtjpoanaoaeaneaaGreatDoor
set_option linter.all false
set_option maxRecDepth 100000
set_option maxHeartbeats 6400000
namespace Go.Proofs.YtjpoanaoaeaneaaGreatDoor
open Go.RowKit
noncomputable def vaR_C2 : Code := (loopsOf (bodyOf Tryz.f17)).getD 0 .skip
def vaR_h2 (a0 : FormR) (a1 : Int) (i_2 : Nat) : St :=
  ⟨[(1, .lit (.int .i64 a1)), (2, .ptr 0 0), (5, .lit (.int .i64 (i_2 : Int)))],
   [(0, some (.box 28 [.sl 4 (a0.1.map termRC), .lit (.bool a0.2.s), natA a0.2.l1, natA a0.2.l2] false))], 1⟩
def vaR_o2a (a0 : FormR) : St :=
  ⟨[(2, .ptr 0 0), (4, .lit (.bool false))],
   [(0, some (.box 28 [.sl 4 (a0.1.map termRC), .lit (.bool a0.2.s), natA a0.2.l1, natA a0.2.l2] false))], 1⟩
def vaR_o2b (a0 : FormR) : St :=
  ⟨[(2, .ptr 0 0), (4, .any)],
   [(0, some (.box 28 [.sl 4 (a0.1.map termRC), .lit (.bool a0.2.s), natA a0.2.l1, natA a0.2.l2] false))], 1⟩
section
variable {a0 : FormR} {v5 : Int} {a1 : Int} {n : Nat} {r4 : Raw} {v4 : Int} {i_2 : Nat} {r5 : Raw}
theorem vaR_r2_1 (C1 : (i_2 : Int) < (a0.1.length : Int)) (E2 : a0.1[i_2]? = some (v4, r4)) (C3 : ¬ v4 < 0) (C4 : ¬ a1 ≤ v4) (C5 : 0 < (i_2 : Int)) (W6 : InI ((i_2 : Int) - 1)) (E7 : a0.1[i_2 - 1]? = some (v5, r5)) (Z7 : 1 ≤ i_2) (C8 : ¬ v4 ≤ v5) (B9a : RawB r4) (C10 : ¬ sgR r4.q = 0) (C12 : RatV r4.s r4.l1 r4.l2) (W13 : InI ((i_2 : Int) + 1)) :
    Cont 0 (exec Tryz.prog (tab n) 0 59 (livesOf 17) big vaR_C2) (livesOf 17 2) (vaR_h2 a0 a1 i_2) (vaR_h2 a0 a1 (i_2 + 1)) := by
  have C1_ : i_2 < a0.1.length := by omega
  obtain ⟨EL2, EG2⟩ := List.getElem?_eq_some_iff.1 E2
  have C5_ : 0 < i_2 := by omega
  have C5_z : (i_2 : Int) ≠ 0 := by omega
  have C5_e : ((i_2 : Int) == 0) = false := by simpa using C5_z
  have C5_g : ((i_2 : Int) != 0) = true := by simpa using C5_z
  have W6_ : IntKind.i64.wrap ((i_2 : Int) - 1) = (i_2 : Int) - 1 := wr64 W6.1 W6.2
  obtain ⟨EL7, EG7⟩ := List.getElem?_eq_some_iff.1 E7
  have Z7_0 : (1 : Int) ≤ (i_2 : Int) := by omega
  have Z7_1 : 0 ≤ (i_2 : Int) - 1 := by omega
  have K9 := rr_sign B9a
  have C10_ : (sgR r4.q == 0) = false := by simpa using C10
  have C10_n : (sgR r4.q != 0) = true := by simpa using C10
  have K11 := rr_valid B9a
  have W13_ : IntKind.i64.wrap ((i_2 : Int) + 1) = (i_2 : Int) + 1 := wr64 W13.1 W13.2
  unfold Cont
  simp +decide [vaR_h2, loopsOf, Tryz.f17, vaR_C2, C1, C1_, EL2, EG2, E2, C3, C4, C5, C5_, C5_e, C5_g, W6_, EL7, EG7, E7, Z7, Z7_0, Z7_1, C8, K9, C10_, C10_n, K11, C12, W13_]
theorem vaR_r2_2 (C1 : (i_2 : Int) < (a0.1.length : Int)) (E2 : a0.1[i_2]? = some (v4, r4)) (C3 : ¬ v4 < 0) (C4 : ¬ a1 ≤ v4) (C5 : ¬ 0 < (i_2 : Int)) (B6a : RawB r4) (C7 : ¬ sgR r4.q = 0) (C9 : RatV r4.s r4.l1 r4.l2) (W10 : InI ((i_2 : Int) + 1)) :
    Cont 0 (exec Tryz.prog (tab n) 0 59 (livesOf 17) big vaR_C2) (livesOf 17 2) (vaR_h2 a0 a1 i_2) (vaR_h2 a0 a1 (i_2 + 1)) := by
  have C1_ : i_2 < a0.1.length := by omega
  obtain ⟨EL2, EG2⟩ := List.getElem?_eq_some_iff.1 E2
  have C5_ : ¬ 0 < i_2 := by omega
  have C5_z : (i_2 : Int) = 0 := by omega
  have C5_e : ((i_2 : Int) == 0) = true := by rw [C5_z]; simp
  have C5_g : ((i_2 : Int) != 0) = false := by rw [C5_z]; simp
  have K6 := rr_sign B6a
  have C7_ : (sgR r4.q == 0) = false := by simpa using C7
  have C7_n : (sgR r4.q != 0) = true := by simpa using C7
  have K8 := rr_valid B6a
  have W10_ : IntKind.i64.wrap ((i_2 : Int) + 1) = (i_2 : Int) + 1 := wr64 W10.1 W10.2
  unfold Cont
  simp +decide [vaR_h2, loopsOf, Tryz.f17, vaR_C2, C1, C1_, EL2, EG2, E2, C3, C4, C5, C5_, C5_e, C5_g, K6, C7_, C7_n, K8, C9, W10_]
theorem vaR_x2_1 (C1 : (i_2 : Int) < (a0.1.length : Int)) (E2 : a0.1[i_2]? = some (v4, r4)) (C3 : v4 < 0) :
    Leave 0 (exec Tryz.prog (tab n) 0 59 (livesOf 17) big vaR_C2) (livesOf 17 (outOf 2)) (vaR_h2 a0 a1 i_2) (.ret) (vaR_o2a a0) := by
  have C1_ : i_2 < a0.1.length := by omega
  obtain ⟨EL2, EG2⟩ := List.getElem?_eq_some_iff.1 E2
  unfold Leave
  simp +decide [vaR_h2, loopsOf, Tryz.f17, vaR_o2a, vaR_C2, C1, C1_, EL2, EG2, E2, C3]
theorem vaR_x2_2 (C1 : (i_2 : Int) < (a0.1.length : Int)) (E2 : a0.1[i_2]? = some (v4, r4)) (C3 : ¬ v4 < 0) (C4 : a1 ≤ v4) :
    Leave 0 (exec Tryz.prog (tab n) 0 59 (livesOf 17) big vaR_C2) (livesOf 17 (outOf 2)) (vaR_h2 a0 a1 i_2) (.ret) (vaR_o2a a0) := by
  have C1_ : i_2 < a0.1.length := by omega
  obtain ⟨EL2, EG2⟩ := List.getElem?_eq_some_iff.1 E2
  unfold Leave
  simp +decide [vaR_h2, loopsOf, Tryz.f17, vaR_o2a, vaR_C2, C1, C1_, EL2, EG2, E2, C3, C4]
theorem vaR_x2_3 (C1 : (i_2 : Int) < (a0.1.length : Int)) (E2 : a0.1[i_2]? = some (v4, r4)) (C3 : ¬ v4 < 0) (C4 : ¬ a1 ≤ v4) (C5 : 0 < (i_2 : Int)) (W6 : InI ((i_2 : Int) - 1)) (E7 : a0.1[i_2 - 1]? = some (v5, r5)) (Z7 : 1 ≤ i_2) (C8 : v4 ≤ v5) :
    Leave 0 (exec Tryz.prog (tab n) 0 59 (livesOf 17) big vaR_C2) (livesOf 17 (outOf 2)) (vaR_h2 a0 a1 i_2) (.ret) (vaR_o2a a0) := by
  have C1_ : i_2 < a0.1.length := by omega
  obtain ⟨EL2, EG2⟩ := List.getElem?_eq_some_iff.1 E2
  have C5_ : 0 < i_2 := by omega
  have C5_z : (i_2 : Int) ≠ 0 := by omega
  have C5_e : ((i_2 : Int) == 0) = false := by simpa using C5_z
  have C5_g : ((i_2 : Int) != 0) = true := by simpa using C5_z
  have W6_ : IntKind.i64.wrap ((i_2 : Int) - 1) = (i_2 : Int) - 1 := wr64 W6.1 W6.2
  obtain ⟨EL7, EG7⟩ := List.getElem?_eq_some_iff.1 E7
  have Z7_0 : (1 : Int) ≤ (i_2 : Int) := by omega
  have Z7_1 : 0 ≤ (i_2 : Int) - 1 := by omega
  unfold Leave
  simp +decide [vaR_h2, loopsOf, Tryz.f17, vaR_o2a, vaR_C2, C1, C1_, EL2, EG2, E2, C3, C4, C5, C5_, C5_e, C5_g, W6_, EL7, EG7, E7, Z7, Z7_0, Z7_1, C8]
theorem vaR_x2_4 (C1 : (i_2 : Int) < (a0.1.length : Int)) (E2 : a0.1[i_2]? = some (v4, r4)) (C3 : ¬ v4 < 0) (C4 : ¬ a1 ≤ v4) (C5 : 0 < (i_2 : Int)) (W6 : InI ((i_2 : Int) - 1)) (E7 : a0.1[i_2 - 1]? = some (v5, r5)) (Z7 : 1 ≤ i_2) (C8 : ¬ v4 ≤ v5) (B9a : RawB r4) (C10 : sgR r4.q = 0) :
    Leave 0 (exec Tryz.prog (tab n) 0 59 (livesOf 17) big vaR_C2) (livesOf 17 (outOf 2)) (vaR_h2 a0 a1 i_2) (.ret) (vaR_o2a a0) := by
  have C1_ : i_2 < a0.1.length := by omega
  obtain ⟨EL2, EG2⟩ := List.getElem?_eq_some_iff.1 E2
  have C5_ : 0 < i_2 := by omega
  have C5_z : (i_2 : Int) ≠ 0 := by omega
  have C5_e : ((i_2 : Int) == 0) = false := by simpa using C5_z
  have C5_g : ((i_2 : Int) != 0) = true := by simpa using C5_z
  have W6_ : IntKind.i64.wrap ((i_2 : Int) - 1) = (i_2 : Int) - 1 := wr64 W6.1 W6.2
  obtain ⟨EL7, EG7⟩ := List.getElem?_eq_some_iff.1 E7
  have Z7_0 : (1 : Int) ≤ (i_2 : Int) := by omega
  have Z7_1 : 0 ≤ (i_2 : Int) - 1 := by omega
  have K9 := rr_sign B9a
  have C10_ : (sgR r4.q == 0) = true := by rw [C10]; simp
  have C10_n : (sgR r4.q != 0) = false := by rw [C10]; simp
  unfold Leave
  simp +decide [vaR_h2, loopsOf, Tryz.f17, vaR_o2a, vaR_C2, C1, C1_, EL2, EG2, E2, C3, C4, C5, C5_, C5_e, C5_g, W6_, EL7, EG7, E7, Z7, Z7_0, Z7_1, C8, K9, C10_, C10_n]
theorem vaR_x2_5 (C1 : (i_2 : Int) < (a0.1.length : Int)) (E2 : a0.1[i_2]? = some (v4, r4)) (C3 : ¬ v4 < 0) (C4 : ¬ a1 ≤ v4) (C5 : 0 < (i_2 : Int)) (W6 : InI ((i_2 : Int) - 1)) (E7 : a0.1[i_2 - 1]? = some (v5, r5)) (Z7 : 1 ≤ i_2) (C8 : ¬ v4 ≤ v5) (B9a : RawB r4) (C10 : ¬ sgR r4.q = 0) (C12 : ¬ (RatV r4.s r4.l1 r4.l2)) :
    Leave 0 (exec Tryz.prog (tab n) 0 59 (livesOf 17) big vaR_C2) (livesOf 17 (outOf 2)) (vaR_h2 a0 a1 i_2) (.ret) (vaR_o2a a0) := by
  have C1_ : i_2 < a0.1.length := by omega
  obtain ⟨EL2, EG2⟩ := List.getElem?_eq_some_iff.1 E2
  have C5_ : 0 < i_2 := by omega
  have C5_z : (i_2 : Int) ≠ 0 := by omega
  have C5_e : ((i_2 : Int) == 0) = false := by simpa using C5_z
  have C5_g : ((i_2 : Int) != 0) = true := by simpa using C5_z
  have W6_ : IntKind.i64.wrap ((i_2 : Int) - 1) = (i_2 : Int) - 1 := wr64 W6.1 W6.2
  obtain ⟨EL7, EG7⟩ := List.getElem?_eq_some_iff.1 E7
  have Z7_0 : (1 : Int) ≤ (i_2 : Int) := by omega
  have Z7_1 : 0 ≤ (i_2 : Int) - 1 := by omega
  have K9 := rr_sign B9a
  have C10_ : (sgR r4.q == 0) = false := by simpa using C10
  have C10_n : (sgR r4.q != 0) = true := by simpa using C10
  have K11 := rr_valid B9a
  unfold Leave
  simp +decide [vaR_h2, loopsOf, Tryz.f17, vaR_o2a, vaR_C2, C1, C1_, EL2, EG2, E2, C3, C4, C5, C5_, C5_e, C5_g, W6_, EL7, EG7, E7, Z7, Z7_0, Z7_1, C8, K9, C10_, C10_n, K11, C12]
theorem vaR_x2_6 (C1 : (i_2 : Int) < (a0.1.length : Int)) (E2 : a0.1[i_2]? = some (v4, r4)) (C3 : ¬ v4 < 0) (C4 : ¬ a1 ≤ v4) (C5 : ¬ 0 < (i_2 : Int)) (B6a : RawB r4) (C7 : sgR r4.q = 0) :
    Leave 0 (exec Tryz.prog (tab n) 0 59 (livesOf 17) big vaR_C2) (livesOf 17 (outOf 2)) (vaR_h2 a0 a1 i_2) (.ret) (vaR_o2a a0) := by
  have C1_ : i_2 < a0.1.length := by omega
  obtain ⟨EL2, EG2⟩ := List.getElem?_eq_some_iff.1 E2
  have C5_ : ¬ 0 < i_2 := by omega
  have C5_z : (i_2 : Int) = 0 := by omega
  have C5_e : ((i_2 : Int) == 0) = true := by rw [C5_z]; simp
  have C5_g : ((i_2 : Int) != 0) = false := by rw [C5_z]; simp
  have K6 := rr_sign B6a
  have C7_ : (sgR r4.q == 0) = true := by rw [C7]; simp
  have C7_n : (sgR r4.q != 0) = false := by rw [C7]; simp
  unfold Leave
  simp +decide [vaR_h2, loopsOf, Tryz.f17, vaR_o2a, vaR_C2, C1, C1_, EL2, EG2, E2, C3, C4, C5, C5_, C5_e, C5_g, K6, C7_, C7_n]
theorem vaR_x2_7 (C1 : (i_2 : Int) < (a0.1.length : Int)) (E2 : a0.1[i_2]? = some (v4, r4)) (C3 : ¬ v4 < 0) (C4 : ¬ a1 ≤ v4) (C5 : ¬ 0 < (i_2 : Int)) (B6a : RawB r4) (C7 : ¬ sgR r4.q = 0) (C9 : ¬ (RatV r4.s r4.l1 r4.l2)) :
    Leave 0 (exec Tryz.prog (tab n) 0 59 (livesOf 17) big vaR_C2) (livesOf 17 (outOf 2)) (vaR_h2 a0 a1 i_2) (.ret) (vaR_o2a a0) := by
  have C1_ : i_2 < a0.1.length := by omega
  obtain ⟨EL2, EG2⟩ := List.getElem?_eq_some_iff.1 E2
  have C5_ : ¬ 0 < i_2 := by omega
  have C5_z : (i_2 : Int) = 0 := by omega
  have C5_e : ((i_2 : Int) == 0) = true := by rw [C5_z]; simp
  have C5_g : ((i_2 : Int) != 0) = false := by rw [C5_z]; simp
  have K6 := rr_sign B6a
  have C7_ : (sgR r4.q == 0) = false := by simpa using C7
  have C7_n : (sgR r4.q != 0) = true := by simpa using C7
  have K8 := rr_valid B6a
  unfold Leave
  simp +decide [vaR_h2, loopsOf, Tryz.f17, vaR_o2a, vaR_C2, C1, C1_, EL2, EG2, E2, C3, C4, C5, C5_, C5_e, C5_g, K6, C7_, C7_n, K8, C9]
theorem vaR_x2_8 (C1 : ¬ (i_2 : Int) < (a0.1.length : Int)) :
    Leave 0 (exec Tryz.prog (tab n) 0 59 (livesOf 17) big vaR_C2) (livesOf 17 (outOf 2)) (vaR_h2 a0 a1 i_2) (.exit 0) (vaR_o2b a0) := by
  have C1_ : ¬ i_2 < a0.1.length := by omega
  unfold Leave
  simp +decide [vaR_h2, loopsOf, Tryz.f17, vaR_o2b, vaR_C2, C1, C1_]
theorem vaR_f1 (L1 : loopG Tryz.prog (tab n) 0 59 (livesOf 17) 2 vaR_C2 (vaR_h2 a0 a1 0) = some (.ret, vaR_o2a a0)) :
    run n 17 [.agg [.sl 4 (a0.1.map termRC), .lit (.bool a0.2.s), natA a0.2.l1, natA a0.2.l2], .lit (.int .i64 a1)] = some (.lit (.bool false)) := by
  unfold run fnP
  simp +decide [Tryz.f17]
  rw [loopX_G (C' := vaR_C2) (e := (vaR_h2 a0 a1 0)) ?_ ?_, L1]
  rotate_left
  · kernel_rfl
  · simp +decide [vaR_h2]
  simp +decide [vaR_o2a]
theorem vaR_f2 (L1 : loopG Tryz.prog (tab n) 0 59 (livesOf 17) 2 vaR_C2 (vaR_h2 a0 a1 0) = some (.exit 0, vaR_o2b a0)) (B2a : RawB a0.2) :
    run n 17 [.agg [.sl 4 (a0.1.map termRC), .lit (.bool a0.2.s), natA a0.2.l1, natA a0.2.l2], .lit (.int .i64 a1)] = some (.lit (.bool (decide (RatV a0.2.s a0.2.l1 a0.2.l2)))) := by
  have K2 := rr_valid B2a
  unfold run fnP
  simp +decide [Tryz.f17, K2]
  rw [loopX_G (C' := vaR_C2) (e := (vaR_h2 a0 a1 0)) ?_ ?_, L1]
  rotate_left
  · kernel_rfl
  · simp +decide [vaR_h2, K2]
  simp +decide [vaR_o2b, K2]
end
end Go.Proofs.YtjpoanaoaeaneaaGreatDoor
