/- program.Dual: what the call returns. relucertref18.SameForm, SmallRat, SmallPoint; relucertlaw27.term: what each call returns. relucertlaw27.example: what the call returns, and what is known of it. the example of the document as plain numbers. relucertlaw27.awake: the call returns true. -/
import Derived.Test.YtledagemcknlcaaGreatK8
import Derived.Test.YtledagemcknlcaaGreatK0
set_option linter.all false
namespace Go.Proofs.YtledagemcknlcaaGreat
open Go.RowKit

theorem OkFD.mono {m M : Nat} {f : FD} (h : OkFD m f) (hm : m ≤ M) : OkFD M f := ⟨fun i t ht => ⟨(h.ts i t ht).1, Nat.le_trans (h.ts i t ht).2 hm⟩, h.k, Nat.le_trans h.kH hm, h.n⟩
structure OkPD (m : Nat) (p : PD) : Prop where
  rows : ∀ (i : Nat) (f : FD), p.rows[i]? = some f → OkFD m f
  obj : OkFD m p.obj
  rn : p.rn ≤ 4096
theorem dual1a_f (w : World) {s1 : Bool} {a1 a2 : Option Addr} {n1 n2 c1 c2 : Nat} {pb m : Nat} {p : PD} (hq : RatC w s1 a1 n1 c1 a2 n2 c2 (-p.obj.k.q)) (hB : Blk w pb 31 #[.int .i64 p.vars, .slice p.ra p.rn p.rc, .slice p.obj.ad p.obj.n p.obj.c, .bool p.obj.k.neg, .slice p.obj.k.a1 p.obj.k.n1 p.obj.k.c1, .slice p.obj.k.a2 p.obj.k.n2 p.obj.k.c2]) (hp : p.In w) (ho : OkPD m p) (hm : m ≤ 65536) :
    Calls Tryz.prog 26 #[.agg #[.bool s1, .slice a1 n1 c1, .slice a2 n2 c2], .func (.func 29) #[] #[], .pointer (some ⟨pb, 0, none⟩)] w (RetFD (m + 1) (dualO p) w) :=
  (dual1a_c w hq (by simpa using hB.cell 1) hB.lt hp.rows ho.rn ho.rows (by omega)).mono fun e w' h => h.fd (Nat.le_trans (colN_len _ _ _) (by have := ho.rn; omega)) (by rw [H_neg]; have := ho.obj.kH; omega)
theorem dual1b_f (w : World) {s1 : Bool} {a1 a2 : Option Addr} {n1 n2 c1 c2 : Nat} {pb m jb j : Nat} {p : PD} (hj : w.cell? ⟨jb, 0, none⟩ = some (.int .i64 (j : Int))) (hjb : jb < w.heap.size) (hq : RatC w s1 a1 n1 c1 a2 n2 c2 (-(coefT p.obj.ts (j : Int)))) (hB : Blk w pb 31 #[.int .i64 p.vars, .slice p.ra p.rn p.rc, .slice p.obj.ad p.obj.n p.obj.c, .bool p.obj.k.neg, .slice p.obj.k.a1 p.obj.k.n1 p.obj.k.c1, .slice p.obj.k.a2 p.obj.k.n2 p.obj.k.c2]) (hp : p.In w) (ho : OkPD m p) (hm : m ≤ 65536) :
    Calls Tryz.prog 26 #[.agg #[.bool s1, .slice a1 n1 c1, .slice a2 n2 c2], .func (.func 32) #[] #[.pointer (some ⟨jb, 0, none⟩)], .pointer (some ⟨pb, 0, none⟩)] w (RetFD (m + 1) (dualF p j) w) :=
  (dual1b_c w hj hjb hq (by simpa using hB.cell 1) hB.lt hp.rows ho.rn ho.rows (by omega)).mono fun e w' h => h.fd (Nat.le_trans (colN_len _ _ _) (by have := ho.rn; omega)) (by rw [H_neg]; exact coefT_H ho.obj.ts _)
theorem fm_len {g : FD} {w : World} {m : Nat} (h : g.In w) (ho : OkFD m g) : (fm g.ts).length ≤ 65536 := by
  have h8 := h.terms.len
  have h9 := ho.n
  have : (fm g.ts).length = g.ts.length := by simp [fm]
  omega
theorem scale_f (w : World) {g : FD} {s1 : Bool} {a1 a2 : Option Addr} {n1 n2 c1 c2 : Nat} {m : Nat} (h : g.In w) (ho : OkFD m g) (hq : RatC w s1 a1 n1 c1 a2 n2 c2 ((-1 : Int) : Rat)) (hm : m ≤ 65537) (h1 : 1 ≤ m) :
    Calls Tryz.prog 33 #[.agg #[.slice g.ad g.n g.c, .bool g.k.neg, .slice g.k.a1 g.k.n1 g.k.c1, .slice g.k.a2 g.k.n2 g.k.c2], .agg #[.bool s1, .slice a1 n1 c1, .slice a2 n2 c2]] w (RetFD (3 * m + 1) (mergeV [] (sem g).1 ((-1 : Int) : Rat), (sem g).2 * ((-1 : Int) : Rat)) w) :=
  (scale_c w h ho hq (by omega) h1 (by rw [H_mone]; exact h1)).mono fun e w' h' => h'.fd (Nat.le_trans (mergeV_len0 _ _) (fm_len h ho)) (by have h3 := H_mul g.k.q ((-1 : Int) : Rat); rw [H_mone] at h3; have := ho.kH; omega)
/-- a variable as a form -/
def unitFD (ad : Option Addr) (i : Nat) (r : RD) : FD := ⟨ad, 1, 1, [⟨(i : Int), r⟩], ⟨false, none, 0, 0, [], none, 0, 0, []⟩⟩
theorem unit_kq {ad : Option Addr} {i : Nat} {r : RD} : (unitFD ad i r).k.q = 0 := rd_zero_q
theorem unit_in {w : World} {b : Nat} {i : Nat} {r : RD} (hB : Blk w b 52 #[.int .i64 (i : Int), .bool r.neg, .slice r.a1 r.n1 r.c1, .slice r.a2 r.n2 r.c2]) (hr : r.In w) : (unitFD (some ⟨b, 0, none⟩) i r).In w := by
  refine ⟨⟨rfl, by show 1 ≤ 1; omega, fun k t ht => ?_, fun _ => ⟨b, 0, rfl, hB.lt, fun k t ht => ?_⟩⟩, ⟨LimR.nil _ _ _, LimR.nil _ _ _⟩⟩
  · match k, ht with
    | 0, ht => cases ht; exact hr
  · match k, ht with
    | 0, ht =>
      cases ht
      exact ⟨by simpa using hB.cell 0, by simpa using hB.cell 1, by simpa using hB.cell 2, by simpa using hB.cell 3⟩
theorem unit_ok {m : Nat} {ad : Option Addr} {i : Nat} {r : RD} (ho : r.Ok) (hH : H r.q ≤ m) (h1 : 1 ≤ m) : OkFD m (unitFD ad i r) :=
  ⟨fun k t ht => by
    match k, ht with
    | 0, ht => cases ht; exact ⟨ho, hH⟩, rd_zero_ok, by rw [unit_kq, H_zero]; exact h1, by show 1 ≤ 65536; omega⟩
theorem unit_sem {ad : Option Addr} {i : Nat} {r : RD} : sem (unitFD ad i r) = ([((i : Int), r.q)], 0) := by
  show ([((i : Int), r.q)], (unitFD ad i r).k.q) = _
  rw [unit_kq]
theorem dualA_succ (i : Nat) : dualA i ++ [([((i : Int), (1 : Rat))], (0 : Rat))] = dualA (i + 1) := by simp [dualA, List.range_succ]
theorem news2 (w : World) (o : Obj) (x0 x1 x2 x3 : Value) (t : TypeId) : ∀ j u, [x0, x1, x2, x3][j]? = some u → ((w.alloc o).alloc (.cells #[x0, x1, x2, x3] t)).cell? ((⟨w.heap.size + 1, 0, none⟩ : Addr).add j) = some u := by
  have e : (w.alloc o).heap.size = w.heap.size + 1 := by simp
  rw [← e]
  exact term_news (w.alloc o) x0 x1 x2 x3 t
theorem dual_step {p : PD} {j : Nat} {f f2 : FD} (h1 : Hid (sem f = dualF p j)) (h2 : Hid (sem f2 = (mergeV [] (sem f).1 ((-1 : Int) : Rat), (sem f).2 * ((-1 : Int) : Rat)))) : (dualA p.rn ++ dualB p j) ++ [f, f2].map sem = dualA p.rn ++ dualB p (j + 1) := by
  have e2 := h2.out
  rw [h1.out] at e2
  simp only [List.map_cons, List.map_nil, h1.out, e2, dualB, List.append_assoc]
  rfl
theorem one_all {w : World} {M : Nat} {u : FD} (h : u.In w) (ho : OkFD M u) : ∀ (i : Nat) (f : FD), [u][i]? = some f → f.In w ∧ OkFD M f := by
  intro i f hf
  match i, hf with
  | 0, hf => cases hf; exact ⟨h, ho⟩
theorem two_all {w : World} {M : Nat} {u v : FD} (h : u.In w) (ho : OkFD M u) (h2 : v.In w) (ho2 : OkFD M v) : ∀ (i : Nat) (f : FD), [u, v][i]? = some f → f.In w ∧ OkFD M f := by
  intro i f hf
  match i, hf with
  | 0, hf => cases hf; exact ⟨h, ho⟩
  | 1, hf => cases hf; exact ⟨h2, ho2⟩
def DCut (X : World) (rn : Nat) (m : Nat) (S : List (Int × Rat) × Rat) (s5 : Value) (wx : World) : Prop :=
  ∃ U B g, s5 = .pointer (some ⟨B, 0, none⟩) ∧ Blk U B 31 #[.int .i64 (rn : Nat), .slice none 0 0, .slice g.ad g.n g.c, .bool g.k.neg, .slice g.k.a1 g.k.n1 g.k.c1, .slice g.k.a2 g.k.n2 g.k.c2] ∧ FD.In g U ∧ OkFD m g ∧ sem g = S ∧ X.heap.size ≤ B ∧ Below X.heap.size X U ∧ U = wx

set_option maxRecDepth 100000 in
set_option maxHeartbeats 3200000 in
theorem dual_no (w : World) (p : PD) (h : p.In w) (hf : FewP p) (hv : ¬ PV p) :
    Calls Tryz.prog 8 #[.agg #[.int .i64 p.vars, .slice p.ra p.rn p.rc, .slice p.obj.ad p.obj.n p.obj.c, .bool p.obj.k.neg, .slice p.obj.k.a1 p.obj.k.n1 p.obj.k.c1, .slice p.obj.k.a2 p.obj.k.n2 p.obj.k.c2]] w (fun e w' => e = .returned (.tuple #[.agg #[.int .i64 0, .slice none 0 0, .slice none 0 0, .bool false, .slice none 0 0, .slice none 0 0], .int .i64 1]) ∧ Below w.heap.size w w') := by
  have hP := Pro2.mk' w #[.int .i64 p.vars, .slice p.ra p.rn p.rc, .slice p.obj.ad p.obj.n p.obj.c, .bool p.obj.k.neg, .slice p.obj.k.a1 p.obj.k.n1 p.obj.k.c1, .slice p.obj.k.a2 p.obj.k.n2 p.obj.k.c2] #[.int .i64 0, .slice none 0 0, .slice none 0 0, .bool false, .slice none 0 0, .slice none 0 0] 31 31
  go_enter Tryz.func8, Tryz.ntmps8
  go_upto_region 1 with (fail)
  generalize (w.alloc (.cells #[.int .i64 p.vars, .slice p.ra p.rn p.rc, .slice p.obj.ad p.obj.n p.obj.c, .bool p.obj.k.neg, .slice p.obj.k.a1 p.obj.k.n1 p.obj.k.c1, .slice p.obj.k.a2 p.obj.k.n2 p.obj.k.c2] 31)).alloc (.cells #[.int .i64 0, .slice none 0 0, .slice none 0 0, .bool false, .slice none 0 0, .slice none 0 0] 31) = W at *
  have hpB := hP.b0
  have hR := hP.b1
  have hPb := hP.below
  have HPS := Lib.hid hP.size
  have pW := h.on hPb
  have k0 := hpB.cell 0
  have k1 := hpB.cell 1
  have k2 := hpB.cell 2
  have k3 := hpB.cell 3
  have k4 := hpB.cell 4
  have k5 := hpB.cell 5
  simp at k0 k1 k2 k3 k4 k5
  have kz := hpB.lt
  clear hP
  go_wp2_with fail
  refine (pvalid_any W p pW hf).mono ?_
  rintro e X ⟨rfl, hbX⟩
  rw [decide_eq_false hv]
  clear hv
  have hRX := hR.on hbX
  have r0 := hRX.cell 0
  have r1 := hRX.cell 1
  have r2 := hRX.cell 2
  have r3 := hRX.cell 3
  have r4 := hRX.cell 4
  have r5 := hRX.cell 5
  simp at r0 r1 r2 r3 r4 r5
  have rz := hRX.lt
  have rf0 := hRX.frozen 0
  have rf1 := hRX.frozen 1
  have rf2 := hRX.frozen 2
  have rf3 := hRX.frozen 3
  have rf4 := hRX.frozen 4
  have rf5 := hRX.frozen 5
  go_wp2_with fail
  exact bodyPost_ret (v := .tuple #[.agg #[.int .i64 0, .slice none 0 0, .slice none 0 0, .bool false, .slice none 0 0, .slice none 0 0], .int .i64 1]) (by simp [results, Tryz.results8, go_sem, *]) rfl
    ⟨rfl, below_set6 (hPb.trans (hbX.mono (by have := HPS.out; omega))) (by omega) _ _ _ _ _ _⟩

set_option maxRecDepth 100000 in
set_option maxHeartbeats 25600000 in
theorem dual_c (w : World) (p : PD) {m : Nat} (h : p.In w) (hf : FewP p) (hv : PV p) (ho : OkPD m p) (hm : m ≤ 65536) (hm1 : 1 ≤ m) (hrn : p.rn ≤ 64) (hvars : p.vars ≤ 64) :
    Calls Tryz.prog 8 #[.agg #[.int .i64 p.vars, .slice p.ra p.rn p.rc, .slice p.obj.ad p.obj.n p.obj.c, .bool p.obj.k.neg, .slice p.obj.k.a1 p.obj.k.n1 p.obj.k.c1, .slice p.obj.k.a2 p.obj.k.n2 p.obj.k.c2]] w (RetDual (3 * (m + 1) + 1) p w) := by
  have hP := Pro2.mk' w #[.int .i64 p.vars, .slice p.ra p.rn p.rc, .slice p.obj.ad p.obj.n p.obj.c, .bool p.obj.k.neg, .slice p.obj.k.a1 p.obj.k.n1 p.obj.k.c1, .slice p.obj.k.a2 p.obj.k.n2 p.obj.k.c2] #[.int .i64 0, .slice none 0 0, .slice none 0 0, .bool false, .slice none 0 0, .slice none 0 0] 31 31
  go_enter Tryz.func8, Tryz.ntmps8
  go_upto_region 1 with (fail)
  generalize (w.alloc (.cells #[.int .i64 p.vars, .slice p.ra p.rn p.rc, .slice p.obj.ad p.obj.n p.obj.c, .bool p.obj.k.neg, .slice p.obj.k.a1 p.obj.k.n1 p.obj.k.c1, .slice p.obj.k.a2 p.obj.k.n2 p.obj.k.c2] 31)).alloc (.cells #[.int .i64 0, .slice none 0 0, .slice none 0 0, .bool false, .slice none 0 0, .slice none 0 0] 31) = W at *
  have hpB := hP.b0
  have hR := hP.b1
  have hPb := hP.below
  have HPS := Lib.hid hP.size
  have pW := h.on hPb
  have k0 := hpB.cell 0
  have k1 := hpB.cell 1
  have k2 := hpB.cell 2
  have k3 := hpB.cell 3
  have k4 := hpB.cell 4
  have k5 := hpB.cell 5
  simp at k0 k1 k2 k3 k4 k5
  have kz := hpB.lt
  clear hP
  go_wp2_with fail
  refine (pvalid_any W p pW hf).mono ?_
  rintro e X ⟨rfl, hbX⟩
  rw [decide_eq_true hv]
  have hv0 : 0 ≤ p.vars := hv.v0
  have HO := Lib.hid ho
  clear hv ho hf
  have d3 : decide (1280 < p.rn) = false := decide_eq_false (by omega)
  have d4 : decide ((1280 : Int) < (p.rn : Int)) = false := decide_eq_false (by omega)
  have d5 : decide ((4096 : Int) < (p.rn : Int) + 2 * p.vars) = false := decide_eq_false (by omega)
  have pX := pW.on hbX
  have hpX := hpB.on hbX
  have hRX := hR.on hbX
  have hwX : Below w.heap.size w X := hPb.trans (hbX.mono (by have := HPS.out; omega))
  clear k0 k1 k2 k3 k4 k5 kz
  have k0 := hpX.cell 0
  have k1 := hpX.cell 1
  have k2 := hpX.cell 2
  have k3 := hpX.cell 3
  have k4 := hpX.cell 4
  have k5 := hpX.cell 5
  simp at k0 k1 k2 k3 k4 k5
  have kz := hpX.lt
  have rz := hRX.lt
  clear pW hpB hR
  go_upto_region 6 with (fail)
  have hqX : Blk (X.alloc (.cells #[.int .i64 0, .slice none 0 0, .slice none 0 0, .bool false, .slice none 0 0, .slice none 0 0] 31)).drew X.heap.size 31 #[.int .i64 0, .slice none 0 0, .slice none 0 0, .bool false, .slice none 0 0, .slice none 0 0] := Blk.new X _ _
  have hxW : Below X.heap.size X X.drew := Below.drew (Below.refl _ _)
  have hxA : Below X.heap.size X (X.alloc (.cells #[.int .i64 0, .slice none 0 0, .slice none 0 0, .bool false, .slice none 0 0, .slice none 0 0] 31)).drew := Below.drew ((Below.refl _ _).alloc (Nat.le_refl _) _)
  have eX0 : w.heap.size ≠ X.heap.size := by omega
  have eX0' := Ne.symm eX0
  have qk := RD.ok_c pX.obj.const HO.out.obj.k
  have hkH := HO.out.obj.kH
  go_cut [5] (fun s5 wx => DCut X p.rn (m + 1) (dualO p) s5 wx)
  case first =>
    go_region_held3 (fun w' => w'.cell? ⟨w.heap.size, 1, none⟩ = some (.slice p.ra p.rn p.rc) ∧ w'.cell? ⟨w.heap.size, 3, none⟩ = some (.bool p.obj.k.neg) ∧ w'.cell? ⟨w.heap.size, 4, none⟩ = some (.slice p.obj.k.a1 p.obj.k.n1 p.obj.k.c1) ∧ w'.cell? ⟨w.heap.size, 5, none⟩ = some (.slice p.obj.k.a2 p.obj.k.n2 p.obj.k.c2))
      (go_keep)
      (first
        | (go_at_call 28; refine (rneg_c _ (RatC.on qk (by first | exact hxW | exact hxA)) (by omega)).mono ?_; rintro e w6 ⟨s6, a6, n6, c6, a7, n7, c7, rfl, g6, hb6'⟩; have hb6 : Below X.heap.size X w6 := (by first | exact hxW.trans hb6' | exact hxA.trans (hb6'.mono hxA.size)); obtain ⟨hc6, hf6⟩ := bcell hb6; have e60 : w.heap.size ≠ w6.heap.size := (by have := hb6.size; omega); have e60' := Ne.symm e60; (try (have hX6 := hqX.on hb6')); have hal6 : Below w6.heap.size w6 (w6.alloc (.cells #[.int .i64 0, .slice none 0 0, .slice none 0 0, .bool false, .slice none 0 0, .slice none 0 0] 31)) := (Below.refl _ _).alloc (Nat.le_refl _) _)
        | (go_at_call 26; refine (dual1a_f _ (by first | exact g6 | exact g6.on hal6) (by first | exact hpX.on hb6 | exact (hpX.on hb6).on hal6) (by first | exact pX.on hb6 | exact (pX.on hb6).on hal6) HO.out hm).mono ?_; rintro e w7 ⟨g, rfl, hg7, hog, hsg, hb7'⟩; have HSG := Lib.hid hsg; clear hsg; have hb7 : Below X.heap.size X w7 := (by first | exact hb6.trans (hb7'.mono hb6.size) | exact (hb6.trans (hal6.mono hb6.size)).trans (hb7'.mono (hb6.trans (hal6.mono hb6.size)).size)); obtain ⟨hc7, hf7⟩ := bcell hb7; have e70 : w.heap.size ≠ w7.heap.size := (by have := hb7.size; omega); have e70' := Ne.symm e70; (first | have hX7 := hX6.on hb7' | have hX7 := (Blk.new w6 31 #[.int .i64 0, .slice none 0 0, .slice none 0 0, .bool false, .slice none 0 0, .slice none 0 0]).on hb7' | skip); try (have x0 := hX7.cell 0; have x1 := hX7.cell 1; have x2 := hX7.cell 2; have x3 := hX7.cell 3; have x4 := hX7.cell 4; have x5 := hX7.cell 5; simp at x0 x1 x2 x3 x4 x5; have xz := hX7.lt; have xf0 := hX7.frozen 0; have xf1 := hX7.frozen 1; have xf2 := hX7.frozen 2; have xf3 := hX7.frozen 3; have xf4 := hX7.frozen 4; have xf5 := hX7.frozen 5)))
    all_goals
      go_wp2_with fail
      go_meet
      first
        | exact ⟨_, _, g, rfl, hX7.set6_ _ _ _ _ _ _, hg7.set6 hX7 _ _ _ _ _ _ _ _ _ _ _ _ _ _, hog, HSG.out, (by first | exact Nat.le_refl _ | exact hb6.size), below_set6 hb7 (by first | exact Nat.le_refl _ | exact hb6.size) _ _ _ _ _ _, rfl⟩
        | exact ⟨_, w7.heap.size, g, rfl, Blk.new _ _ _, hg7.on ((Below.refl _ _).alloc (Nat.le_refl _) _), hog, HSG.out, hb7.size, hb7.alloc hb7.size _, rfl⟩
  case rest =>
    obtain ⟨Y, B, g, rfl, hBY, hgY, hog, hsg, hBge, hbY, rfl⟩ := hcut
    have hD0 : DOut w Y Y.heap.size B (3 * (m + 1) + 1) p p.rn (dualO p) [] none 0 0 [] g := {
      row := Row.nil _ _ _ _ _
      all := fun i f hf => by cases hf
      ok := fun i f hf => by cases hf
      sem := (rfl : List.map sem [] = [])
      box := hBY
      obj := hgY
      objok := hog.mono (by omega)
      objsem := hsg
      pbox := hpX.on hbY
      res := hRX.on hbY
      below := hwX.trans (hbY.mono hwX.size)
      base_le := Nat.le_refl _
      B_lt := hBY.lt
      B_ge := by omega }
    clear hqX hxW hxA qk hBY hgY hog hsg k0 k1 k2 k3 k4 k5 kz hpX hRX hbX pX eX0 eX0' hbY
    have k0 := hD0.pbox.cell 0
    have k1 := hD0.pbox.cell 1
    have k2 := hD0.pbox.cell 2
    have k3 := hD0.pbox.cell 3
    have k4 := hD0.pbox.cell 4
    have k5 := hD0.pbox.cell 5
    simp at k0 k1 k2 k3 k4 k5
    have kz := hD0.pbox.lt
    obtain ⟨i0, hi0, hz0, hz1, hz2⟩ := info_parts Tryz.infoAffine
    have HI := Lib.hid (And.intro hi0 (And.intro hz0 (And.intro hz1 hz2)))
    clear hi0 hz0 hz1 hz2
    go_wp2_with fail
    go_loopw [42] (fun s42 wr => ∃ i ra rc fs, i ≤ p.rn ∧ s42 = .int .i64 (i : Nat) ∧ DOut w wr Y.heap.size B (3 * (m + 1) + 1) p p.rn (dualO p) (dualA i) ra i rc fs g) (fun i _ => p.rn - (intOf i).toNat)
    case atStart => exact ⟨0, _, _, [], by omega, rfl, hD0⟩
    case round =>
      clear hD0 k0 k1 k2 k3 k4 k5 kz
      obtain ⟨i, ra, rc, fs, hi, rfl, hD⟩ := hrel
      by_cases hlt : i < p.rn
      · go_upto_region 10 with (fail)
        have b1 := hD.box.cell 1
        have bz := hD.box.lt
        simp at b1
        have hU0 : Below wr.heap.size wr wr.drew := Below.drew (Below.refl _ _)
        refine wp_region_T 10 (fun w' => w'.cell? ⟨B, 1, none⟩ = some (.slice ra i rc)) (by kernel_rfl) (by (try dsimp only); go_keep) (fun hHeld => ?_)
        refine wpT_take 0 (v := ?_) rfl (by kernel_rfl) (fun _ _ _ h => h) (by rfl) (by assumption) ?_ ?_
        rotate_left
        · (intro w9 hS9; (try dsimp only at hS9); go_simp; try with_reducible rfl)
        try simp only [Act.put, List.setIfInBounds_toArray, List.set_cons_zero, List.set_cons_succ]
        refine wpT_take 1 (v := ?_) rfl (by kernel_rfl) (fun _ _ _ h => h) (by rfl) (by assumption) ?_ ?_
        rotate_left
        · (intro w9 hS9; (try dsimp only at hS9); go_simp; try with_reducible rfl)
        try simp only [Act.put, List.setIfInBounds_toArray, List.set_cons_zero, List.set_cons_succ]
        refine wpT_take 2 (v := ?_) rfl (by kernel_rfl) (fun _ _ _ h => h) (by rfl) (by assumption) ?_ ?_
        rotate_left
        · (intro w9 hS9; (try dsimp only at hS9); go_simp; try with_reducible rfl)
        try simp only [Act.put, List.setIfInBounds_toArray, List.set_cons_zero, List.set_cons_succ]
        refine wpT_only 3 rfl (by kernel_rfl) (fun K hK => ?_)
        go_simp
        go_at_call 30; refine (rof_any _ 1 (by omega) (by omega)).mono ?_; rintro e w5 ⟨s5, a5, n5, c5, a6, n6, c6, rfl, g5, hb5'⟩; have hb5 : Below wr.heap.size wr w5 := hU0.trans hb5'; obtain ⟨hc5, hf5⟩ := bcell hb5; have bz5 := Nat.lt_of_lt_of_le bz hb5.size; have hr5 := RatC.rd g5; have hal1 : Below w5.heap.size w5 (w5.alloc (.cells #[.int .i64 (i : Int), .bool s5, .slice a5 n5 c5, .slice a6 n6 c6] 52)) := (Below.refl _ _).alloc (Nat.le_refl _) _; have hT5 := Blk.new w5 52 #[.int .i64 (i : Int), .bool s5, .slice a5 n5 c5, .slice a6 n6 c6]; have hD6 := ((hD.on hb5).on hal1).on ((Below.refl _ _).alloc (Nat.le_refl _) (.cells #[.slice (some ⟨w5.heap.size, 0, none⟩) 1 1, .bool false, .slice none 0 0, .slice none 0 0] 29)); have hu6 := (unit_in (r := rdOf s5 a5 n5 c5 a6 n6 c6 ((1 : Int) : Rat)) hT5 (hr5.1.on hal1)).on ((Below.refl _ _).alloc (Nat.le_refl _) (.cells #[.slice (some ⟨w5.heap.size, 0, none⟩) 1 1, .bool false, .slice none 0 0, .slice none 0 0] 29))
        go_wp2_with fail
        have hOld := hHeld
        clear hHeld
        refine hK.out _ _ ?_ (fun hHeld => ?_)
        · (try dsimp only); go_keep
        clear hOld hK K
        try simp only [Act.put, List.setIfInBounds_toArray, List.set_cons_zero, List.set_cons_succ]
        refine wpT_take 4 (v := ?_) rfl (by kernel_rfl) (fun _ _ _ h => h) (by rfl) (by assumption) ?_ ?_
        rotate_left
        · (intro w9 hS9; (try dsimp only at hS9); go_simp; try with_reducible rfl)
        try simp only [Act.put, List.setIfInBounds_toArray, List.set_cons_zero, List.set_cons_succ]
        refine wpT_only 5 rfl (by kernel_rfl) (fun K hK => ?_)
        go_simp
        have hOld := hHeld
        clear hHeld
        refine hK.out _ _ ?_ (fun hHeld => ?_)
        · (try dsimp only); go_keep
        clear hOld hK K
        try simp only [Act.put, List.setIfInBounds_toArray, List.set_cons_zero, List.set_cons_succ]
        refine wpT_take 6 (v := ?_) rfl (by kernel_rfl) (fun _ _ _ h => h) (by rfl) (by assumption) ?_ ?_
        rotate_left
        · (intro w9 hS9; (try dsimp only at hS9); go_simp; try with_reducible rfl)
        try simp only [Act.put, List.setIfInBounds_toArray, List.set_cons_zero, List.set_cons_succ]
        refine wpT_only 7 rfl (by kernel_rfl) (fun K hK => ?_)
        go_simp
        have hOld := hHeld
        clear hHeld
        refine hK.out _ _ ?_ (fun hHeld => ?_)
        · (try dsimp only); go_keep
        clear hOld hK K
        try simp only [Act.put, List.setIfInBounds_toArray, List.set_cons_zero, List.set_cons_succ]
        refine wpT_only 8 rfl (by kernel_rfl) (fun K hK => ?_)
        refine step_row _ rfl (.tmp 46) (.tmp 52) _ rfl Y.heap.size 29 i0 (.agg #[.slice none 0 0, .bool false, .slice none 0 0, .slice none 0 0]) 4 80 Tryz.underlying22 HI.out.1 HI.out.2.1 HI.out.2.2.1 HI.out.2.2.2 rfl (by omega) (.slice ra i rc) i (fcells fs) rfl hD6.row ⟨w5.heap.size + 1, 0, none⟩ 1 1 [.slice (some ⟨w5.heap.size, 0, none⟩) 1 1, .bool false, .slice none 0 0, .slice none 0 0] rfl rfl (news2 _ _ _ _ _ _ _) (fcells_one [unitFD (some ⟨w5.heap.size, 0, none⟩) i (rdOf s5 a5 n5 c5 a6 n6 c6 ((1 : Int) : Rat))]) (by simp only [maxLen]; omega) (by omega) hD6.base_le (by omega) affine_zero (fcells_notI [unitFD (some ⟨w5.heap.size, 0, none⟩) i (rdOf s5 a5 n5 c5 a6 n6 c6 ((1 : Int) : Rat))]) ?_; intro v7 w7 hr7 hg7 ho7; obtain ⟨ad7, c7, rfl⟩ := hr7.shape; obtain ⟨hB7, hD7⟩ := hD6.app (gs := [unitFD (some ⟨w5.heap.size, 0, none⟩) i (rdOf s5 a5 n5 c5 a6 n6 c6 ((1 : Int) : Rat))]) (rs' := dualA (i + 1)) hg7 hr7 (one_all hu6 (unit_ok hr5.2.1 (by rw [hr5.2.2]; exact Nat.le_trans (Nat.le_of_eq H_one) (by omega)) (by omega))) (by rw [← dualA_succ]; simp only [List.map_cons, List.map_nil, unit_sem, hr5.2.2]; rfl); have y1 := hB7.cell 1; have yf := hB7.frozen 1; have yz := hB7.lt; simp at y1
        have hOld := hHeld
        clear hHeld
        refine hK.out _ _ ?_ (fun hHeld => ?_)
        · (try dsimp only); go_keep
        clear hOld hK K
        try simp only [Act.put, List.setIfInBounds_toArray, List.set_cons_zero, List.set_cons_succ]
        refine wpT_take 9 (v := ?_) rfl (by kernel_rfl) (fun _ _ _ h => h) (by rfl) (by assumption) ?_ ?_
        rotate_left
        · (intro w9 hS9; (try dsimp only at hS9); go_simp; try with_reducible rfl)
        try simp only [Act.put, List.setIfInBounds_toArray, List.set_cons_zero, List.set_cons_succ]
        refine wpT_last 10 rfl rfl (by kernel_rfl) (fun K hK => ?_)
        go_simp
        refine hK.out _ _ ?_
        clear hK K
        try simp only [Act.put, List.setIfInBounds_toArray, List.set_cons_zero, List.set_cons_succ]
        refine wpT_done (by kernel_rfl) ?_ _
        all_goals
          go_wp2_with fail
          go_roundw
          case rel => exact ⟨i + 1, _, _, _, by omega, by go_num, hD7⟩
          case measure => simp [intOf]; omega
      · have e : i = p.rn := by omega
        have d6 : decide (i < p.rn) = false := decide_eq_false (by omega)
        have d7 : decide ((i : Int) < (p.rn : Int)) = false := decide_eq_false (by omega)
        have hDn : DOut w wr Y.heap.size B (3 * (m + 1) + 1) p p.rn (dualO p) (dualA p.rn ++ dualB p 0) ra p.rn rc fs g := by rw [e] at hD; simpa [dualB] using hD
        clear hD e
        have k0 := hDn.pbox.cell 0
        have k1 := hDn.pbox.cell 1
        have k2 := hDn.pbox.cell 2
        have k3 := hDn.pbox.cell 3
        have k4 := hDn.pbox.cell 4
        have k5 := hDn.pbox.cell 5
        simp at k0 k1 k2 k3 k4 k5
        have kz := hDn.pbox.lt
        go_wp2_with fail
        go_loopw [58] (fun s58 wr => ∃ j ra rn rc fs, j ≤ p.vars.toNat ∧ s58 = .int .i64 (j : Nat) ∧ DOut w wr Y.heap.size B (3 * (m + 1) + 1) p p.rn (dualO p) (dualA p.rn ++ dualB p j) ra rn rc fs g ∧ rn ≤ p.rn + 2 * j) (fun j _ => p.vars.toNat - (intOf j).toNat)
        case atStart => exact ⟨0, _, _, _, _, by omega, rfl, hDn, by omega⟩
        case round =>
          clear hDn k0 k1 k2 k3 k4 k5 kz
          obtain ⟨j, ra, rn, rc, fs, hj, rfl, hD, hrn'⟩ := hrel
          have k0 := hD.pbox.cell 0
          have k1 := hD.pbox.cell 1
          have k2 := hD.pbox.cell 2
          have k3 := hD.pbox.cell 3
          have k4 := hD.pbox.cell 4
          have k5 := hD.pbox.cell 5
          simp at k0 k1 k2 k3 k4 k5
          have kz := hD.pbox.lt
          by_cases hlt : (j : Int) < p.vars
          · have d8 : decide ((j : Int) < p.vars) = true := decide_eq_true hlt
            go_upto_region 15 with (fail)
            have hQ := Pro1.mk' wr #[.int .i64 (j : Int)] 3
            generalize wr.alloc (.cells #[.int .i64 (j : Int)] 3) = U at *
            have hDU := hD.on hQ.below
            have hjB := hQ.b0
            clear hQ hD k0 k1 k2 k3 k4 k5 kz
            have k0 := hDU.pbox.cell 0
            have k1 := hDU.pbox.cell 1
            have k2 := hDU.pbox.cell 2
            have k3 := hDU.pbox.cell 3
            have k4 := hDU.pbox.cell 4
            have k5 := hDU.pbox.cell 5
            simp at k0 k1 k2 k3 k4 k5
            have kz := hDU.pbox.lt
            have u0 := hjB.cell 0
            have uz := hjB.lt
            simp at u0
            have pU := h.on hDU.below
            go_wp2_with fail
            refine (lcoef_c U (j : Int) pU.obj.terms (by have := HO.out.obj.n; omega) (fun i t ht => ⟨(HO.out.obj.ts i t ht).1, by have := (HO.out.obj.ts i t ht).2; omega⟩)).mono ?_
            rintro e w5 ⟨s5, a5, n5, c5, a6, n6, c6, rfl, g5, hb5⟩
            have hcH : H (coefT p.obj.ts (j : Int)) ≤ m + 1 := coefT_H HO.out.obj.ts _
            go_wp2_with fail
            refine (rneg_c w5 g5 (by omega)).mono ?_
            rintro e w6 ⟨s6, a7, n7, c7, a8, n8, c8, rfl, g6, hb6⟩
            have hb56 := hb5.trans (hb6.mono hb5.size)
            have hD6 := hDU.on hb56
            have hj6 := hjB.on hb56
            go_wp2_with fail
            refine (dual1b_f w6 (pb := w.heap.size) (p := p) (j := j) (by simpa using hj6.cell 0) hj6.lt g6 hD6.pbox (h.on hD6.below) HO.out hm).mono ?_
            rintro e w7 ⟨f, rfl, hf7, hof, hsf, hb7⟩
            have HSF := Lib.hid hsf
            have hD7 := hD6.on hb7
            clear hsf hD6 hDU pU k0 k1 k2 k3 k4 k5 kz u0 uz hjB hj6
            go_upto_region 16 with (fail)
            have hQ := Pro1.mk' w7 #[.slice f.ad f.n f.c, .bool f.k.neg, .slice f.k.a1 f.k.n1 f.k.c1, .slice f.k.a2 f.k.n2 f.k.c2] 29
            generalize w7.alloc (.cells #[.slice f.ad f.n f.c, .bool f.k.neg, .slice f.k.a1 f.k.n1 f.k.c1, .slice f.k.a2 f.k.n2 f.k.c2] 29) = V at *
            have hDV := hD7.on hQ.below
            have hQB := hQ.b0
            have HRL : Hid (∀ g, (Value.slice ra rn rc).ownBlock = some g → g < w7.heap.size) := fun g hg => (hD7.row.own.lt g hg).2
            have hfV := hf7.on hQ.below
            have v0 := hQ.b0.cell 0
            have v1 := hQ.b0.cell 1
            have v2 := hQ.b0.cell 2
            have v3 := hQ.b0.cell 3
            have vz := hQ.b0.lt
            simp at v0 v1 v2 v3
            have b1 := hDV.box.cell 1
            have bz := hDV.box.lt
            simp at b1
            have hU0 : Below V.heap.size V V.drew := Below.drew (Below.refl _ _)
            have ebB : B ≠ w7.heap.size := by have := hD7.B_lt; have := hD7.base_le; omega
            clear hQ hD7 hf7
            refine wp_region_T 9 (fun w' => w'.cell? ⟨w7.heap.size, 0, none⟩ = some (.slice f.ad f.n f.c) ∧ w'.cell? ⟨w7.heap.size, 1, none⟩ = some (.bool f.k.neg) ∧ w'.cell? ⟨w7.heap.size, 2, none⟩ = some (.slice f.k.a1 f.k.n1 f.k.c1) ∧ w'.cell? ⟨w7.heap.size, 3, none⟩ = some (.slice f.k.a2 f.k.n2 f.k.c2) ∧ w'.cell? ⟨B, 1, none⟩ = some (.slice ra rn rc)) (by kernel_rfl) (by (try dsimp only); go_keep) (fun hHeld => ?_)
            refine wpT_take 0 (v := ?_) rfl (by kernel_rfl) (fun _ _ _ h => h) (by rfl) (by assumption) ?_ ?_
            rotate_left
            · (intro w9 hS9; (try dsimp only at hS9); go_simp; try with_reducible rfl)
            try simp only [Act.put, List.setIfInBounds_toArray, List.set_cons_zero, List.set_cons_succ]
            refine wpT_take 1 (v := ?_) rfl (by kernel_rfl) (fun _ _ _ h => h) (by rfl) (by assumption) ?_ ?_
            rotate_left
            · (intro w9 hS9; (try dsimp only at hS9); go_simp; try with_reducible rfl)
            try simp only [Act.put, List.setIfInBounds_toArray, List.set_cons_zero, List.set_cons_succ]
            refine wpT_take 2 (v := ?_) rfl (by kernel_rfl) (fun _ _ _ h => h) (by rfl) (by assumption) ?_ ?_
            rotate_left
            · (intro w9 hS9; (try dsimp only at hS9); go_simp; try with_reducible rfl)
            try simp only [Act.put, List.setIfInBounds_toArray, List.set_cons_zero, List.set_cons_succ]
            refine wpT_take 3 (v := ?_) rfl (by kernel_rfl) (fun _ _ _ h => h) (by rfl) (by assumption) ?_ ?_
            rotate_left
            · (intro w9 hS9; (try dsimp only at hS9); go_simp; try with_reducible rfl)
            try simp only [Act.put, List.setIfInBounds_toArray, List.set_cons_zero, List.set_cons_succ]
            refine wpT_only 4 rfl (by kernel_rfl) (fun K hK => ?_)
            go_simp
            go_at_call 30; refine (rof_any _ (-1) (by omega) (by omega)).mono ?_; rintro e w8 ⟨s8, a9, n9, c9, a10, n10, c10, rfl, g8, hb8'⟩; have hb8 : Below V.heap.size V w8 := hU0.trans hb8'; obtain ⟨hc8, hf8⟩ := bcell hb8; have bz8 := Nat.lt_of_lt_of_le bz hb8.size
            go_wp2_with fail
            have hOld := hHeld
            clear hHeld
            refine hK.out _ _ ?_ (fun hHeld => ?_)
            · (try dsimp only); go_keep
            clear hOld hK K
            try simp only [Act.put, List.setIfInBounds_toArray, List.set_cons_zero, List.set_cons_succ]
            refine wpT_only 5 rfl (by kernel_rfl) (fun K hK => ?_)
            go_simp
            go_at_call 33; refine (scale_f _ (hfV.on hb8) hof g8 (by omega) (by omega)).mono ?_; rintro e w9 ⟨f2, rfl, hf9, hof2, hsf2, hb9'⟩; have HSF2 := Lib.hid hsf2; clear hsf2; have hb9 : Below V.heap.size V w9 := hb8.trans (hb9'.mono hb8.size); obtain ⟨hc9, hf9x⟩ := bcell hb9; have bz9 := Nat.lt_of_lt_of_le bz hb9.size; have vz9 := Nat.lt_of_lt_of_le vz hb9.size; have hal : Below w9.heap.size w9 (w9.alloc (.cells #[.slice f.ad f.n f.c, .bool f.k.neg, .slice f.k.a1 f.k.n1 f.k.c1, .slice f.k.a2 f.k.n2 f.k.c2, .slice f2.ad f2.n f2.c, .bool f2.k.neg, .slice f2.k.a1 f2.k.n1 f2.k.c1, .slice f2.k.a2 f2.k.n2 f2.k.c2] 29)) := (Below.refl _ _).alloc (Nat.le_refl _) _; have hD10 := (hDV.on hb9).on hal; have hfa := (hfV.on hb9).on hal; have hfb := hf9.on hal
            go_wp2_with fail
            have hOld := hHeld
            clear hHeld
            refine hK.out _ _ ?_ (fun hHeld => ?_)
            · (try dsimp only); go_keep
            clear hOld hK K
            try simp only [Act.put, List.setIfInBounds_toArray, List.set_cons_zero, List.set_cons_succ]
            refine wpT_only 6 rfl (by kernel_rfl) (fun K hK => ?_)
            go_simp
            have hOld := hHeld
            clear hHeld
            refine hK.out _ _ ?_ (fun hHeld => ?_)
            · (try dsimp only); go_keep
            clear hOld hK K
            try simp only [Act.put, List.setIfInBounds_toArray, List.set_cons_zero, List.set_cons_succ]
            refine wpT_only 7 rfl (by kernel_rfl) (fun K hK => ?_)
            refine step_row _ rfl (.tmp 70) (.tmp 75) _ rfl Y.heap.size 29 i0 (.agg #[.slice none 0 0, .bool false, .slice none 0 0, .slice none 0 0]) 4 80 Tryz.underlying22 HI.out.1 HI.out.2.1 HI.out.2.2.1 HI.out.2.2.2 rfl (by omega) (.slice ra rn rc) rn (fcells fs) rfl hD10.row ⟨w9.heap.size, 0, none⟩ 2 2 [.slice f.ad f.n f.c, .bool f.k.neg, .slice f.k.a1 f.k.n1 f.k.c1, .slice f.k.a2 f.k.n2 f.k.c2, .slice f2.ad f2.n f2.c, .bool f2.k.neg, .slice f2.k.a1 f2.k.n1 f2.k.c1, .slice f2.k.a2 f2.k.n2 f2.k.c2] rfl rfl (cells_news w9 #[.slice f.ad f.n f.c, .bool f.k.neg, .slice f.k.a1 f.k.n1 f.k.c1, .slice f.k.a2 f.k.n2 f.k.c2, .slice f2.ad f2.n f2.c, .bool f2.k.neg, .slice f2.k.a1 f2.k.n1 f2.k.c1, .slice f2.k.a2 f2.k.n2 f2.k.c2] _) (fcells_one [f, f2]) (by simp only [maxLen]; omega) (by omega) hD10.base_le (by omega) affine_zero (fcells_notI [f, f2]) ?_; intro v7 w10 hr7 hg7 ho7; obtain ⟨ad7, c7, rfl⟩ := hr7.shape; obtain ⟨hB7, hD11⟩ := hD10.app (gs := [f, f2]) (rs' := dualA p.rn ++ dualB p (j + 1)) hg7 hr7 (two_all hfa (hof.mono (by omega)) hfb hof2) (dual_step HSF HSF2); have hQ10 := ((hQB.on hb9).alloc (.cells #[.slice f.ad f.n f.c, .bool f.k.neg, .slice f.k.a1 f.k.n1 f.k.c1, .slice f.k.a2 f.k.n2 f.k.c2, .slice f2.ad f2.n f2.c, .bool f2.k.neg, .slice f2.k.a1 f2.k.n1 f2.k.c1, .slice f2.k.a2 f2.k.n2 f2.k.c2] 29)).grown hg7 (fun h9 => by have := HRL.out _ h9.symm; omega); have q0 := hQ10.cell 0; have q1 := hQ10.cell 1; have q2 := hQ10.cell 2; have q3 := hQ10.cell 3; simp at q0 q1 q2 q3; have y1 := hB7.cell 1; have yf := hB7.frozen 1; have yz := hB7.lt; simp at y1
            have hOld := hHeld
            clear hHeld
            refine hK.out _ _ ?_ (fun hHeld => ?_)
            · (try dsimp only); go_keep
            clear hOld hK K
            try simp only [Act.put, List.setIfInBounds_toArray, List.set_cons_zero, List.set_cons_succ]
            refine wpT_take 8 (v := ?_) rfl (by kernel_rfl) (fun _ _ _ h => h) (by rfl) (by assumption) ?_ ?_
            rotate_left
            · (intro w9 hS9; (try dsimp only at hS9); go_simp; try with_reducible rfl)
            try simp only [Act.put, List.setIfInBounds_toArray, List.set_cons_zero, List.set_cons_succ]
            refine wpT_last 9 rfl rfl (by kernel_rfl) (fun K hK => ?_)
            go_simp
            refine hK.out _ _ ?_
            clear hK K
            try simp only [Act.put, List.setIfInBounds_toArray, List.set_cons_zero, List.set_cons_succ]
            refine wpT_done (by kernel_rfl) ?_ _
            all_goals
              go_wp2_with fail
              go_roundw
              case rel => exact ⟨j + 1, _, _, _, _, by omega, by go_num, hD11, by omega⟩
              case measure => simp [intOf]; omega
          · have d8 : decide ((j : Int) < p.vars) = false := decide_eq_false hlt
            have HF := Lib.hid (hD.fin rfl (by rw [show j = p.vars.toNat by omega]))
            clear k0 k1 k2 k3 k4 k5 kz
            have b0 := hD.box.cell 0
            have b1 := hD.box.cell 1
            have b2 := hD.box.cell 2
            have b3 := hD.box.cell 3
            have b4 := hD.box.cell 4
            have b5 := hD.box.cell 5
            simp at b0 b1 b2 b3 b4 b5
            have bz := hD.box.lt
            have r0 := hD.res.cell 0
            have r1 := hD.res.cell 1
            have r2 := hD.res.cell 2
            have r3 := hD.res.cell 3
            have r4 := hD.res.cell 4
            have r5 := hD.res.cell 5
            simp at r0 r1 r2 r3 r4 r5
            have rz := hD.res.lt
            have rf0 := hD.res.frozen 0
            have rf1 := hD.res.frozen 1
            have rf2 := hD.res.frozen 2
            have rf3 := hD.res.frozen 3
            have rf4 := hD.res.frozen 4
            have rf5 := hD.res.frozen 5
            go_wp2_with fail
            exact bodyPost_ret (v := .tuple #[.agg #[.int .i64 (p.rn : Nat), .slice ra rn rc, .slice g.ad g.n g.c, .bool g.k.neg, .slice g.k.a1 g.k.n1 g.k.c1, .slice g.k.a2 g.k.n2 g.k.c2], .int .i64 0]) (by simp [results, Tryz.results8, go_sem, *]) rfl HF.out
end Go.Proofs.YtledagemcknlcaaGreat
namespace Go.Proofs.YtledagemcknlcaaGreat
open Go.RowKit

theorem sgR_sub_zero {p q : Rat} : sgR (p - q) = 0 ↔ p = q := by
  rw [sgR_eq_zero]
  constructor
  · intro h; have h2 : p - q + q = p := Rat.sub_add_cancel; rw [h, Rat.zero_add] at h2; exact h2.symm
  · rintro rfl; exact Rat.sub_self
theorem sem_eq {f g : FD} : sem f = sem g ↔ fm f.ts = fm g.ts ∧ f.k.q = g.k.q := by unfold sem; rw [Prod.mk.injEq]
theorem fm_get (ts : List TD) (i : Nat) : (fm ts)[i]? = ts[i]?.map fun t => (t.v, t.c.q) := by simp [fm]
theorem fm_ext {a b : List TD} (hl : a.length = b.length) (h : ∀ (i : Nat) (t u : TD), a[i]? = some t → b[i]? = some u → t.v = u.v ∧ t.c.q = u.c.q) : fm a = fm b := by
  apply List.ext_getElem?
  intro i
  rw [fm_get, fm_get]
  rcases Nat.lt_or_ge i a.length with h1 | h1
  · have e1 : a[i]? = some (a[i]'h1) := List.getElem?_eq_getElem _
    have e2 : b[i]? = some (b[i]'(by omega)) := List.getElem?_eq_getElem _
    have := h i _ _ e1 e2
    rw [e1, e2]
    simp [this.1, this.2]
  · rw [List.getElem?_eq_none h1, List.getElem?_eq_none (by omega)]
theorem fm_at {a b : List TD} (h : fm a = fm b) {i : Nat} {t u : TD} (h1 : a[i]? = some t) (h2 : b[i]? = some u) : t.v = u.v ∧ t.c.q = u.c.q := by
  have := congrArg (fun l => l[i]?) h
  simp only [fm_get, h1, h2, Option.map_some, Option.some.injEq, Prod.mk.injEq] at this
  exact this
theorem fm_length (ts : List TD) : (fm ts).length = ts.length := by simp [fm]
set_option maxRecDepth 100000 in
set_option maxHeartbeats 6400000 in
theorem same_c (w : World) {f g : FD} {m : Nat} (hf : f.In w) (hg : g.In w) (hof : OkFD m f) (hog : OkFD m g) (hm : m ≤ 274877906944) :
    Calls Tryz.prog 21 #[.agg #[.slice f.ad f.n f.c, .bool f.k.neg, .slice f.k.a1 f.k.n1 f.k.c1, .slice f.k.a2 f.k.n2 f.k.c2], .agg #[.slice g.ad g.n g.c, .bool g.k.neg, .slice g.k.a1 g.k.n1 g.k.c1, .slice g.k.a2 g.k.n2 g.k.c2]] w (RetB (decide (sem f = sem g)) w) := by
  have hP := Pro2.mk' w #[.slice f.ad f.n f.c, .bool f.k.neg, .slice f.k.a1 f.k.n1 f.k.c1, .slice f.k.a2 f.k.n2 f.k.c2] #[.slice g.ad g.n g.c, .bool g.k.neg, .slice g.k.a1 g.k.n1 g.k.c1, .slice g.k.a2 g.k.n2 g.k.c2] 29 29
  go_enter Tryz.func21, Tryz.ntmps21
  go_upto_region 1 with (fail)
  generalize (w.alloc (.cells #[.slice f.ad f.n f.c, .bool f.k.neg, .slice f.k.a1 f.k.n1 f.k.c1, .slice f.k.a2 f.k.n2 f.k.c2] 29)).alloc (.cells #[.slice g.ad g.n g.c, .bool g.k.neg, .slice g.k.a1 g.k.n1 g.k.c1, .slice g.k.a2 g.k.n2 g.k.c2] 29) = W at *
  have hPb := hP.below
  have HPS := Lib.hid hP.size
  have k0 := hP.b0.cell 0
  have k1 := hP.b0.cell 1
  have k2 := hP.b0.cell 2
  have k3 := hP.b0.cell 3
  simp at k0 k1 k2 k3
  have kz := hP.b0.lt
  have l0 := hP.b1.cell 0
  have l1 := hP.b1.cell 1
  have l2 := hP.b1.cell 2
  have l3 := hP.b1.cell 3
  simp at l0 l1 l2 l3
  have lz := hP.b1.lt
  have fW := hf.on hPb
  have gW := hg.on hPb
  have HF := Lib.hid hof
  have HG := Lib.hid hog
  have hnf := hof.n
  have hng := hog.n
  have HLF := Lib.hid fW.terms.len
  have HLG := Lib.hid gW.terms.len
  clear hP hf hg hof hog
  by_cases e1 : f.n = g.n
  rotate_left
  · have HE : Hid (decide (sem f = sem g) = false) := decide_eq_false (fun h => e1 (by have h1 := (sem_eq.1 h).1; have := congrArg List.length h1; rw [fm_length, fm_length, HLF.out, HLG.out] at this; exact this))
    have d1 : ((f.n : Int) != (g.n : Int)) = true := by simp; omega
    clear e1
    go_wp2_with fail
    go_ret
    exact retB_end HE.out.symm hPb
  have d1 : ((f.n : Int) != (g.n : Int)) = false := by simp; omega
  have d1' : (f.n != g.n) = false := by simp; omega
  have HE1 := Lib.hid e1
  clear e1
  by_cases e2 : f.k.q = g.k.q
  rotate_left
  · have HE : Hid (decide (sem f = sem g) = false) := decide_eq_false (fun h => e2 (sem_eq.1 h).2)
    have HD : Hid (sgR (f.k.q - g.k.q) ≠ 0) := fun h => e2 (sgR_sub_zero.1 h)
    clear e2
    go_wp2_with fail
    refine (frcmp_c W (RD.ok_c fW.const HF.out.k) (RD.ok_c gW.const HG.out.k) (by have := HF.out.kH; omega) (by have := HG.out.kH; omega)).mono ?_
    rintro e w5 ⟨rfl, hb5⟩
    have d2 : (sgR (f.k.q - g.k.q) != 0) = true := by simp; exact HD.out
    generalize sgR (f.k.q - g.k.q) = sg at *
    go_wp2_with fail
    go_ret
    exact retB_end HE.out.symm (hPb.trans (hb5.mono (by have := HPS.out; omega)))
  have HE2 := Lib.hid e2
  have HD : Hid (sgR (f.k.q - g.k.q) = 0) := sgR_sub_zero.2 e2
  clear e2
  go_wp2_with fail
  refine (frcmp_c W (RD.ok_c fW.const HF.out.k) (RD.ok_c gW.const HG.out.k) (by have := HF.out.kH; omega) (by have := HG.out.kH; omega)).mono ?_
  rintro e w5 ⟨rfl, hb5⟩
  rw [HD.out]
  obtain ⟨hc5, hf5⟩ := bcell hb5
  go_wp2_with fail
  go_loopw [5] (fun s5 wr => ∃ i, i ≤ f.n ∧ s5 = .int .i64 (i : Nat) ∧ Hid (∀ (j : Nat) (t u : TD), j < i → f.ts[j]? = some t → g.ts[j]? = some u → t.v = u.v ∧ t.c.q = u.c.q) ∧ Below W.heap.size W wr) (fun i _ => f.n - (intOf i).toNat)
  case atStart => exact ⟨0, by omega, rfl, (fun j t u hj => by omega : ∀ (j : Nat) (t u : TD), j < 0 → f.ts[j]? = some t → g.ts[j]? = some u → t.v = u.v ∧ t.c.q = u.c.q), hb5⟩
  case round =>
    clear hb5 hc5 hf5
    obtain ⟨i, hi, rfl, HI, hb⟩ := hrel
    obtain ⟨hcr, hfr⟩ := bcell hb
    have kr := Nat.lt_of_lt_of_le kz hb.size
    have lr := Nat.lt_of_lt_of_le lz hb.size
    by_cases hlt : i < f.n
    · obtain ⟨b, o, t, hfa, hbl, HT, gt, t0, t1, t2, t3⟩ := (fW.on hb).terms.at_ hlt
      obtain ⟨b', o', u, hga, hbl', HU, gu, u0, u1, u2, u3⟩ := (gW.on hb).terms.at_ (i := i) (by have := HE1.out; omega)
      have hlt2 : i < g.n := by have := HE1.out; omega
      obtain ⟨hcx, hfx⟩ := upcell wr
      have hTo := HF.out.ts i t HT.out
      have hUo := HG.out.ts i u HU.out
      have HCM : Hid (∀ x : Up wr, Calls Tryz.prog 17 #[.agg #[.bool t.c.neg, .slice t.c.a1 t.c.n1 t.c.c1, .slice t.c.a2 t.c.n2 t.c.c2], .agg #[.bool u.c.neg, .slice u.c.a1 u.c.n1 u.c.c1, .slice u.c.a2 u.c.n2 u.c.c2]] x.w (RetInt (sgR (t.c.q - u.c.q)) x.w)) := fun x => frcmp_c x.w (RD.ok_c (gt.on x.below) hTo.1) (RD.ok_c (gu.on x.below) hUo.1) (by have := hTo.2; omega) (by have := hUo.2; omega)
      clear hTo hUo gt gu
      go_upto_region 6 with (fail)
      by_cases e3 : t.v = u.v
      rotate_left
      · have HE : Hid (decide (sem f = sem g) = false) := decide_eq_false (fun h => e3 (fm_at (sem_eq.1 h).1 HT.out HU.out).1)
        have d3 : (t.v != u.v) = true := by simp; exact e3
        clear e3
        refine wp_region_up (by kernel_rfl) (by kernel_rfl) ?_
        repeat (go_big_quiet_step ((fail)))
        refine wpQuiet_nil ?_
        intro x
        go_wp2_with fail
        go_ret
        exact retB_end HE.out.symm (hPb.trans ((hb.trans (x.below.mono hb.size)).mono (by have := HPS.out; omega)))
      have d3 : (t.v != u.v) = false := by simp; exact e3
      have HE3 := Lib.hid e3
      clear e3
      by_cases e4 : t.c.q = u.c.q
      rotate_left
      · have HE : Hid (decide (sem f = sem g) = false) := decide_eq_false (fun h => e4 (fm_at (sem_eq.1 h).1 HT.out HU.out).2)
        have d4 : (sgR (t.c.q - u.c.q) != 0) = true := by simp; exact fun h => e4 (sgR_sub_zero.1 h)
        clear e4
        generalize sgR (t.c.q - u.c.q) = sg at *
        refine wp_region_up (by kernel_rfl) (by kernel_rfl) ?_
        repeat (go_big_quiet_step ((go_at_call 17; exact up_i (HCM.out _))))
        refine wpQuiet_nil ?_
        intro x
        go_wp2_with fail
        go_ret
        exact retB_end HE.out.symm (hPb.trans ((hb.trans (x.below.mono hb.size)).mono (by have := HPS.out; omega)))
      have d4 : (sgR (t.c.q - u.c.q) != 0) = false := by simp; exact sgR_sub_zero.2 e4
      have HE4 := Lib.hid e4
      clear e4
      generalize sgR (t.c.q - u.c.q) = sg at *
      refine wp_region_up (by kernel_rfl) (by kernel_rfl) ?_
      repeat (go_big_quiet_step ((go_at_call 17; exact up_i (HCM.out _))))
      refine wpQuiet_nil ?_
      intro x
      go_wp2_with fail
      go_roundw
      case rel => exact ⟨i + 1, by omega, by go_num, (fun j' t' u' hj' ht' hu' => (Nat.lt_or_ge j' i).elim (fun h9 => HI.out j' t' u' h9 ht' hu') (fun h9 => by have e9 : j' = i := (by omega); rw [e9] at ht' hu'; have h8 := HT.out.symm.trans ht'; have h7 := HU.out.symm.trans hu'; cases h8; cases h7; exact ⟨HE3.out, HE4.out⟩) : ∀ (j : Nat) (t u : TD), j < i + 1 → f.ts[j]? = some t → g.ts[j]? = some u → t.v = u.v ∧ t.c.q = u.c.q), hb.trans (x.below.mono hb.size)⟩
      case measure => simp [intOf]; omega
    · have e : i = f.n := by omega
      have HE : Hid (decide (sem f = sem g) = true) := decide_eq_true (sem_eq.2 ⟨fm_ext (by have := HLF.out; have := HLG.out; have := HE1.out; omega) (fun j t u ht hu => HI.out j t u (by have := (List.getElem?_eq_some_iff.1 ht).1; have := HLF.out; omega) ht hu), HE2.out⟩)
      have d6 : decide (i < f.n) = false := decide_eq_false (by omega)
      have d7 : decide ((i : Int) < (f.n : Int)) = false := decide_eq_false (by omega)
      clear e
      go_wp2_with fail
      go_ret
      exact retB_end HE.out.symm (hPb.trans (hb.mono (by have := HPS.out; omega)))

/-- a small number is canonical and has at most two limbs in each part -/
def SmR (r : RD) : Prop := r.n1 ≤ 2 ∧ r.n2 ≤ 2 ∧ r.Ok
noncomputable instance (r : RD) : Decidable (SmR r) := Classical.propDecidable _
set_option maxRecDepth 100000 in
set_option maxHeartbeats 1600000 in
theorem smallrat_c (w : World) (r : RD) (h : r.In w) (hn1 : r.n1 ≤ 9223372036854775807) (hn2 : r.n2 ≤ 9223372036854775807) :
    Calls Tryz.prog 51 #[.agg #[.bool r.neg, .slice r.a1 r.n1 r.c1, .slice r.a2 r.n2 r.c2]] w (RetB (decide (SmR r)) w) := by
  have hP := Pro1.mk' w #[.bool r.neg, .slice r.a1 r.n1 r.c1, .slice r.a2 r.n2 r.c2] 27
  go_enter Tryz.func51, Tryz.ntmps51
  go_upto_region 1 with (fail)
  generalize w.alloc (.cells #[.bool r.neg, .slice r.a1 r.n1 r.c1, .slice r.a2 r.n2 r.c2] 27) = W at *
  have hPb := hP.below
  have k0 := hP.b0.cell 0
  have k1 := hP.b0.cell 1
  have k2 := hP.b0.cell 2
  simp at k0 k1 k2
  have g := h.on hPb
  have HPS := Lib.hid hP.size
  clear hP h
  by_cases e1 : r.n1 ≤ 2
  rotate_left
  · have HE : Hid (decide (SmR r) = false) := decide_eq_false (fun h => e1 h.1)
    have d1 : decide (r.n1 ≤ 2) = false := decide_eq_false e1
    have d2 : decide ((r.n1 : Int) ≤ 2) = false := decide_eq_false (by omega)
    go_wp2_with fail
    go_ret
    exact retB_end HE.out.symm hPb
  have d1 : decide (r.n1 ≤ 2) = true := decide_eq_true e1
  have d2 : decide ((r.n1 : Int) ≤ 2) = true := decide_eq_true (by omega)
  by_cases e2 : r.n2 ≤ 2
  rotate_left
  · have HE : Hid (decide (SmR r) = false) := decide_eq_false (fun h => e2 h.2.1)
    have d3 : decide (r.n2 ≤ 2) = false := decide_eq_false e2
    have d4 : decide ((r.n2 : Int) ≤ 2) = false := decide_eq_false (by omega)
    go_wp2_with fail
    go_ret
    exact retB_end HE.out.symm hPb
  have d3 : decide (r.n2 ≤ 2) = true := decide_eq_true e2
  have d4 : decide ((r.n2 : Int) ≤ 2) = true := decide_eq_true (by omega)
  have HD : Hid (decide (SmR r) = decide (RatV r.neg r.l1 r.l2)) := decide_eq_decide.2 ⟨fun h => h.2.2, fun h => ⟨e1, e2, h⟩⟩
  go_wp2_with fail
  refine (fvalid_any W g.num g.den (by omega) (by omega)).mono ?_
  rintro e w5 ⟨rfl, hb5⟩
  rw [← HD.out]
  go_wp2_with fail
  go_ret
  exact ⟨rfl, hPb.trans (hb5.mono (by have := HPS.out; omega))⟩
/-- at most 8 small numbers -/
def SmP (n : Nat) (xs : List RD) : Prop := n ≤ 8 ∧ ∀ (i : Nat) (r : RD), xs[i]? = some r → SmR r
noncomputable instance (n : Nat) (xs : List RD) : Decidable (SmP n xs) := Classical.propDecidable _
def LenP (xs : List RD) : Prop := ∀ (i : Nat) (r : RD), xs[i]? = some r → r.n1 ≤ 9223372036854775807 ∧ r.n2 ≤ 9223372036854775807
set_option maxRecDepth 100000 in
set_option maxHeartbeats 3200000 in
theorem smallpoint_c (w : World) {ad : Option Addr} {n c : Nat} {xs : List RD} (h : PtR w ad n c xs) (hn : n ≤ 9223372036854775807) (hl : LenP xs) :
    Calls Tryz.prog 14 #[.slice ad n c] w (RetB (decide (SmP n xs)) w) := by
  have HL := Lib.hid h.len
  have HX := Lib.hid hl
  clear hl
  go_enter Tryz.func14, Tryz.ntmps14
  by_cases e1 : 8 < n
  · have HE : Hid (decide (SmP n xs) = false) := decide_eq_false (fun h => by have := h.1; omega)
    have d1 : decide (8 < n) = true := decide_eq_true e1
    have d2 : decide ((8 : Int) < (n : Int)) = true := decide_eq_true (by omega)
    go_wp2_with fail
    go_ret
    exact retB_end HE.out.symm (Below.refl _ _)
  have d1 : decide (8 < n) = false := decide_eq_false e1
  have d2 : decide ((8 : Int) < (n : Int)) = false := decide_eq_false (by omega)
  go_wp2_with fail
  go_loopw [3] (fun s3 wr => ∃ i, i ≤ n ∧ s3 = .int .i64 (i : Nat) ∧ Hid (∀ (j : Nat) (r : RD), j < i → xs[j]? = some r → SmR r) ∧ Below w.heap.size w wr) (fun i _ => n - (intOf i).toNat)
  case atStart => exact ⟨0, by omega, rfl, (fun j t hj => by omega : ∀ (j : Nat) (r : RD), j < 0 → xs[j]? = some r → SmR r), Below.refl _ _⟩
  case round =>
    obtain ⟨i, hi, rfl, HI, hb⟩ := hrel
    by_cases hlt : i < n
    · obtain ⟨b, o, r, rfl, hbl, HR, gr, r0, r1, r2⟩ := (h.on hb).at_ hlt
      have hl := HX.out i r HR.out
      go_wp2_with fail
      refine (smallrat_c wr r gr hl.1 hl.2).mono ?_
      rintro e w5 ⟨rfl, hb5⟩
      by_cases e5 : SmR r
      · have HN := Lib.hid e5
        rw [decide_eq_true e5]
        clear e5
        go_wp2_with fail
        go_roundw
        case rel => exact ⟨i + 1, by omega, by go_num, (fun j' t' hj' ht' => (Nat.lt_or_ge j' i).elim (fun h9 => HI.out j' t' h9 ht') (fun h9 => by have e9 : j' = i := (by omega); rw [e9] at ht'; have := HR.out.symm.trans ht'; cases this; exact HN.out) : ∀ (j : Nat) (r : RD), j < i + 1 → xs[j]? = some r → SmR r), hb.trans (hb5.mono hb.size)⟩
        case measure => simp [intOf]; omega
      · have HE : Hid (decide (SmP n xs) = false) := decide_eq_false (fun h => e5 (h.2 i r HR.out))
        rw [decide_eq_false e5]
        clear e5
        go_wp2_with fail
        go_ret
        exact retB_end HE.out.symm (hb.trans (hb5.mono hb.size))
    · have e : i = n := by omega
      have HE : Hid (decide (SmP n xs) = true) := decide_eq_true ⟨by omega, fun j r hj => HI.out j r (by have := (List.getElem?_eq_some_iff.1 hj).1; have := HL.out; omega) hj⟩
      have d6 : decide (i < n) = false := decide_eq_false (by omega)
      have d7 : decide ((i : Int) < (n : Int)) = false := decide_eq_false (by omega)
      clear e
      go_wp2_with fail
      go_ret
      exact retB_end HE.out.symm hb

/-- The call returns the number q. -/
def RetRD (q : Rat) (w : World) (e : Ending) (w' : World) : Prop :=
  ∃ r : RD, e = .returned (.agg #[.bool r.neg, .slice r.a1 r.n1 r.c1, .slice r.a2 r.n2 r.c2]) ∧ r.In w' ∧ r.Ok ∧ r.q = q ∧ Below w.heap.size w w'
theorem RetR.rd {q : Rat} {w : World} {e : Ending} {w' : World} (h : RetR q w e w') : RetRD q w e w' := by
  obtain ⟨neg, a1, n1, c1, a2, n2, c2, rfl, hr, hb⟩ := h
  have := RatC.rd hr
  exact ⟨rdOf neg a1 n1 c1 a2 n2 c2 q, rfl, this.1, this.2.1, this.2.2, hb⟩
def RetTm (c v : Int) (w : World) (e : Ending) (w' : World) : Prop :=
  ∃ r : RD, e = .returned (.agg #[.int .i64 v, .bool r.neg, .slice r.a1 r.n1 r.c1, .slice r.a2 r.n2 r.c2]) ∧ r.In w' ∧ r.Ok ∧ r.q = (c : Rat) ∧ Below w.heap.size w w'
theorem notUT {v : Int} {x : Bool} {a' a'' : Option Addr} {m' k' m'' k'' : Nat} : ∀ y ∈ (#[.int .i64 v, .bool x, .slice a' m' k', .slice a'' m'' k''] : Array Value), NotU y := by
  intro y hy z
  simp at hy
  rcases hy with rfl | rfl | rfl | rfl <;> simp
set_option maxRecDepth 100000 in
set_option maxHeartbeats 1600000 in
theorem term_c (w : World) (c v : Int) (h0 : -9223372036854775808 ≤ c) (h1 : c ≤ 9223372036854775807) :
    Calls Tryz.prog 22 #[.int .i64 c, .int .i64 v] w (RetTm c v w) := by
  have hP := Pro1.mk' w #[.int .i64 0, .bool false, .slice none 0 0, .slice none 0 0] 52
  go_enter Tryz.func22, Tryz.ntmps22
  go_upto_region 1 with (fail)
  generalize w.alloc (.cells #[.int .i64 0, .bool false, .slice none 0 0, .slice none 0 0] 52) = W at *
  have hPb := hP.below
  have hB := hP.b0
  have HPS := Lib.hid hP.size
  clear hP
  go_wp2_with fail
  refine (frof_any W c h0 h1).mono ?_
  rintro e w5 h5
  obtain ⟨r, rfl, hr, hro, hrq, hb5⟩ := h5.rd
  have HQ := Lib.hid hrq
  clear hrq h5
  have hB5 := hB.on hb5
  have k0 := hB5.cell 0
  have k1 := hB5.cell 1
  have k2 := hB5.cell 2
  have k3 := hB5.cell 3
  simp at k0 k1 k2 k3
  have kz := hB5.lt
  have kf0 := hB5.frozen 0
  have kf1 := hB5.frozen 1
  have kf2 := hB5.frozen 2
  have kf3 := hB5.frozen 3
  go_wp2_with fail
  have b1 : Blk (w5.setCell ⟨w.heap.size, 0, none⟩ (.int .i64 v)) w.heap.size 52 #[.int .i64 v, .bool false, .slice none 0 0, .slice none 0 0] := by simpa using hB5.set_ 0 (.int .i64 v)
  have b2 : Blk ((w5.setCell ⟨w.heap.size, 0, none⟩ (.int .i64 v)).setCell ⟨w.heap.size, 1, none⟩ (.bool r.neg)) w.heap.size 52 #[.int .i64 v, .bool r.neg, .slice none 0 0, .slice none 0 0] := by simpa using b1.set_ 1 (.bool r.neg)
  have b3 : Blk (((w5.setCell ⟨w.heap.size, 0, none⟩ (.int .i64 v)).setCell ⟨w.heap.size, 1, none⟩ (.bool r.neg)).setCell ⟨w.heap.size, 2, none⟩ (.slice r.a1 r.n1 r.c1)) w.heap.size 52 #[.int .i64 v, .bool r.neg, .slice r.a1 r.n1 r.c1, .slice none 0 0] := by simpa using b2.set_ 2 (.slice r.a1 r.n1 r.c1)
  exact bodyPost_ret (v := .agg #[.int .i64 v, .bool r.neg, .slice r.a1 r.n1 r.c1, .slice r.a2 r.n2 r.c2]) (by simp [results, Tryz.results22, go_sem, *]) rfl
    ⟨r, rfl, (((hr.setB hB5 notUT 0 _).setB b1 notUT 1 _).setB b2 notUT 2 _).setB b3 notUT 3 _, hro, HQ.out, below_set4 (hPb.trans (hb5.mono (by have := HPS.out; omega))) (by omega) _ _ _ _⟩
end Go.Proofs.YtledagemcknlcaaGreat
namespace Go.Proofs.YtledagemcknlcaaGreat
open Go.RowKit

theorem OkFD.lim {m : Nat} {f : FD} {w : World} (h : f.In w) (ho : OkFD m f) : LimF m f :=
  ⟨ho.n, fun i t ht => ⟨by have h1 := (RD.ok_c (h.terms.ok i t ht) (ho.ts i t ht).1).n1_le; have := (ho.ts i t ht).2; omega, by have h1 := (RD.ok_c (h.terms.ok i t ht) (ho.ts i t ht).1).n2_le; have := (ho.ts i t ht).2; omega⟩,
    ⟨by have h1 := (RD.ok_c h.const ho.k).n1_le; have := ho.kH; omega, by have h1 := (RD.ok_c h.const ho.k).n2_le; have := ho.kH; omega⟩⟩
/-- a form of one term -/
def oneFD (ad : Option Addr) (v : Int) (r k : RD) : FD := ⟨ad, 1, 1, [⟨v, r⟩], k⟩
theorem one_in {w : World} {b : Nat} {v : Int} {r k : RD} (hB : Blk w b 52 #[.int .i64 v, .bool r.neg, .slice r.a1 r.n1 r.c1, .slice r.a2 r.n2 r.c2]) (hr : r.In w) (hk : k.In w) : (oneFD (some ⟨b, 0, none⟩) v r k).In w := by
  refine ⟨⟨rfl, by show 1 ≤ 1; omega, fun k t ht => ?_, fun _ => ⟨b, 0, rfl, hB.lt, fun k t ht => ?_⟩⟩, hk⟩
  · match k, ht with
    | 0, ht => cases ht; exact hr
  · match k, ht with
    | 0, ht =>
      cases ht
      exact ⟨by simpa using hB.cell 0, by simpa using hB.cell 1, by simpa using hB.cell 2, by simpa using hB.cell 3⟩
theorem one_ok {m : Nat} {ad : Option Addr} {v : Int} {r k : RD} (ho : r.Ok) (hH : H r.q ≤ m) (hk : k.Ok) (hkH : H k.q ≤ m) : OkFD m (oneFD ad v r k) :=
  ⟨fun j t ht => by
    match j, ht with
    | 0, ht => cases ht; exact ⟨ho, hH⟩, hk, hkH, by show 1 ≤ 65536; omega⟩
theorem one_sem {ad : Option Addr} {v : Int} {r k : RD} : sem (oneFD ad v r k) = ([(v, r.q)], k.q) := rfl
theorem one_valid {ad : Option Addr} {v : Int} {r k : RD} {vars : Int} (h0 : 0 ≤ v) (h1 : v < vars) (ho : r.Ok) (hq : r.q ≠ 0) (hk : k.Ok) : FormV (oneFD ad v r k).ts (oneFD ad v r k).k vars :=
  ⟨fun i t ht => by
    match i, ht with
    | 0, ht => cases ht; exact ⟨h0, h1, fun j u hj _ => by omega, fun h => hq (sgR_eq_zero.1 h), ho⟩, hk⟩
theorem rows_two {w : World} {b : Nat} {f g : FD} (hB : Blk w b 29 #[.slice f.ad f.n f.c, .bool f.k.neg, .slice f.k.a1 f.k.n1 f.k.c1, .slice f.k.a2 f.k.n2 f.k.c2, .slice g.ad g.n g.c, .bool g.k.neg, .slice g.k.a1 g.k.n1 g.k.c1, .slice g.k.a2 g.k.n2 g.k.c2]) (hf : f.In w) (hg : g.In w) : RowsR w (some ⟨b, 0, none⟩) 2 2 [f, g] := by
  refine ⟨rfl, by omega, fun i t ht => ?_, fun _ => ⟨b, 0, rfl, hB.lt, fun i t ht => ?_⟩⟩
  · match i, ht with
    | 0, ht => cases ht; exact hf
    | 1, ht => cases ht; exact hg
  · match i, ht with
    | 0, ht =>
      cases ht
      exact ⟨by simpa using hB.cell 0, by simpa using hB.cell 1, by simpa using hB.cell 2, by simpa using hB.cell 3⟩
    | 1, ht =>
      cases ht
      exact ⟨by simpa using hB.cell 4, by simpa using hB.cell 5, by simpa using hB.cell 6, by simpa using hB.cell 7⟩
theorem two_P {P : FD → Prop} {f g : FD} (hf : P f) (hg : P g) : ∀ (i : Nat) (u : FD), [f, g][i]? = some u → P u := by
  intro i u hu
  match i, hu with
  | 0, hu => cases hu; exact hf
  | 1, hu => cases hu; exact hg
theorem two_in {w : World} {f g : FD} (hf : f.In w) (hg : g.In w) : ∀ (i : Nat) (u : FD), [f, g][i]? = some u → u.In w := two_P (P := fun u => u.In w) hf hg
/-- the example of the document -/
structure ExD (d : PD) : Prop where
  vars : d.vars = 1
  rn : d.rn = 2
  ok : OkPD 1 d
  rows : d.rows.map sem = [([((0 : Int), ((1 : Int) : Rat))], ((-1 : Int) : Rat)), ([((0 : Int), ((-1 : Int) : Rat))], ((3 : Int) : Rat))]
  obj : sem d.obj = ([((0 : Int), ((1 : Int) : Rat))], (0 : Rat))
  pv : PV d
theorem ex_in {w5 : World} {B b b1 : Nat} {v1 : Int} {f g h : FD} (hB : Blk w5 B 31 #[.int .i64 0, .slice none 0 0, .slice none 0 0, .bool false, .slice none 0 0, .slice none 0 0]) (hs : (set6 w5 B (.int .i64 v1) (.slice (some ⟨b, 0, none⟩) 2 2) (.slice (some ⟨b1, 0, none⟩) 1 1) (.bool false) (.slice none 0 0) (.slice none 0 0)).heap.size = b)
    (hf : f.In w5) (hg : g.In w5) (hh : h.In w5) : PD.In ⟨v1, some ⟨b, 0, none⟩, 2, 2, [f, g], h⟩ ((set6 w5 B (.int .i64 v1) (.slice (some ⟨b, 0, none⟩) 2 2) (.slice (some ⟨b1, 0, none⟩) 1 1) (.bool false) (.slice none 0 0) (.slice none 0 0)).alloc (.cells #[.slice f.ad f.n f.c, .bool f.k.neg, .slice f.k.a1 f.k.n1 f.k.c1, .slice f.k.a2 f.k.n2 f.k.c2, .slice g.ad g.n g.c, .bool g.k.neg, .slice g.k.a1 g.k.n1 g.k.c1, .slice g.k.a2 g.k.n2 g.k.c2] 29)) := by
  have hal : ∀ (S : World) (o : Obj), Below S.heap.size S (S.alloc o) := fun S o => (Below.refl _ _).alloc (Nat.le_refl _) _
  have hRB := Blk.new (set6 w5 B (.int .i64 v1) (.slice (some ⟨b, 0, none⟩) 2 2) (.slice (some ⟨b1, 0, none⟩) 1 1) (.bool false) (.slice none 0 0) (.slice none 0 0)) 29 #[.slice f.ad f.n f.c, .bool f.k.neg, .slice f.k.a1 f.k.n1 f.k.c1, .slice f.k.a2 f.k.n2 f.k.c2, .slice g.ad g.n g.c, .bool g.k.neg, .slice g.k.a1 g.k.n1 g.k.c1, .slice g.k.a2 g.k.n2 g.k.c2]
  rw [hs] at hRB
  exact ⟨rows_two hRB ((hf.set6 hB _ _ _ _ _ _ _ _ _ _ _ _ _ _).on (hal _ _)) ((hg.set6 hB _ _ _ _ _ _ _ _ _ _ _ _ _ _).on (hal _ _)), (hh.set6 hB _ _ _ _ _ _ _ _ _ _ _ _ _ _).on (hal _ _)⟩
def RetEx (w : World) (e : Ending) (w' : World) : Prop := ∃ d : PD, e = .returned (.agg #[.int .i64 d.vars, .slice d.ra d.rn d.rc, .slice d.obj.ad d.obj.n d.obj.c, .bool d.obj.k.neg, .slice d.obj.k.a1 d.obj.k.n1 d.obj.k.c1, .slice d.obj.k.a2 d.obj.k.n2 d.obj.k.c2]) ∧ d.In w' ∧ ExD d ∧ Below w.heap.size w w'
theorem H_int1 : H ((1 : Int) : Rat) ≤ 1 := Nat.le_of_eq H_one
theorem H_int3 : H ((3 : Int) : Rat) ≤ 1 := by
  unfold H
  rw [Rat.num_intCast, Rat.den_intCast]
  have : (lmb 3).length ≤ 1 := lmb_len_le (by omega)
  simp [lmb_one]
  exact this
theorem zero_in (w : World) : RD.In ⟨false, none, 0, 0, [], none, 0, 0, []⟩ w := ⟨LimR.nil _ _ _, LimR.nil _ _ _⟩

set_option maxRecDepth 100000 in
set_option maxHeartbeats 6400000 in
theorem example_c (w : World) : Calls Tryz.prog 18 #[] w (RetEx w) := by
  have hP := Pro1.mk' w #[.int .i64 0, .slice none 0 0, .slice none 0 0, .bool false, .slice none 0 0, .slice none 0 0] 31
  go_enter Tryz.func18, Tryz.ntmps18
  go_upto_region 1 with (fail)
  generalize w.alloc (.cells #[.int .i64 0, .slice none 0 0, .slice none 0 0, .bool false, .slice none 0 0, .slice none 0 0] 31) = W at *
  have hPb := hP.below
  have hB := hP.b0
  have HPS := Lib.hid hP.size
  clear hP
  go_wp2_with fail
  refine (term_c W 1 0 (by omega) (by omega)).mono ?_
  rintro e w1 ⟨r1, rfl, hr1, ho1, hq1, hb1⟩
  have HQ1 := Lib.hid hq1
  clear hq1
  have hB1 := hB.on hb1
  have hW1 : Below w.heap.size w w1 := hPb.trans (hb1.mono (by have := HPS.out; omega))
  clear hB
  go_wp2_with fail
  have hA1 := Pro1.mk' w1 #[.int .i64 0, .bool r1.neg, .slice r1.a1 r1.n1 r1.c1, .slice r1.a2 r1.n2 r1.c2] 52
  generalize w1.alloc (.cells #[.int .i64 0, .bool r1.neg, .slice r1.a1 r1.n1 r1.c1, .slice r1.a2 r1.n2 r1.c2] 52) = V1 at *
  refine (term_c V1 1 0 (by omega) (by omega)).mono ?_
  rintro e w2 ⟨r2, rfl, hr2, ho2, hq2, hb2⟩
  have HQ2 := Lib.hid hq2
  clear hq2
  have hb12 := hA1.below.trans (hb2.mono hA1.below.size)
  have hB2 := hB1.on hb12
  have hT1 := hA1.b0.on hb2
  have hr1 := (hr1.on hA1.below).on hb2
  have hW2 : Below w.heap.size w w2 := hW1.trans (hb12.mono hW1.size)
  clear hA1 hB1 hb12
  go_wp2_with fail
  have hA2 := Pro1.mk' w2 #[.int .i64 0, .bool r2.neg, .slice r2.a1 r2.n1 r2.c1, .slice r2.a2 r2.n2 r2.c2] 52
  generalize w2.alloc (.cells #[.int .i64 0, .bool r2.neg, .slice r2.a1 r2.n1 r2.c1, .slice r2.a2 r2.n2 r2.c2] 52) = V2 at *
  refine (frof_any V2 (-1) (by omega) (by omega)).mono ?_
  rintro e w3 h3
  obtain ⟨r3, rfl, hr3, ho3, hq3, hb3⟩ := h3.rd
  have HQ3 := Lib.hid hq3
  clear hq3 h3
  have hb23 := hA2.below.trans (hb3.mono hA2.below.size)
  have hB3 := hB2.on hb23
  have hT2 := hA2.b0.on hb3
  have hT1 := hT1.on hb23
  have hr1 := hr1.on hb23
  have hr2 := (hr2.on hA2.below).on hb3
  have hW3 : Below w.heap.size w w3 := hW2.trans (hb23.mono hW2.size)
  clear hA2 hB2
  go_wp2_with fail
  refine (term_c w3 (-1) 0 (by omega) (by omega)).mono ?_
  rintro e w4 ⟨r4, rfl, hr4, ho4, hq4, hb4⟩
  have HQ4 := Lib.hid hq4
  clear hq4
  have hB4 := hB3.on hb4
  have hT1 := hT1.on hb4
  have hT2 := hT2.on hb4
  have hr1 := hr1.on hb4
  have hr2 := hr2.on hb4
  have hr3 := hr3.on hb4
  have hW4 : Below w.heap.size w w4 := hW3.trans (hb4.mono hW3.size)
  clear hB3
  go_wp2_with fail
  have hA4 := Pro1.mk' w4 #[.int .i64 0, .bool r4.neg, .slice r4.a1 r4.n1 r4.c1, .slice r4.a2 r4.n2 r4.c2] 52
  generalize w4.alloc (.cells #[.int .i64 0, .bool r4.neg, .slice r4.a1 r4.n1 r4.c1, .slice r4.a2 r4.n2 r4.c2] 52) = V4 at *
  refine (frof_any V4 3 (by omega) (by omega)).mono ?_
  rintro e w5 h5
  obtain ⟨r5, rfl, hr5, ho5, hq5, hb5⟩ := h5.rd
  have HQ5 := Lib.hid hq5
  clear hq5 h5
  have hb45 := hA4.below.trans (hb5.mono hA4.below.size)
  have hB5 := hB4.on hb45
  have hT1 := hT1.on hb45
  have hT2 := hT2.on hb45
  have hT4 := hA4.b0.on hb5
  have hr1 := hr1.on hb45
  have hr2 := hr2.on hb45
  have hr3 := hr3.on hb45
  have hr4 := (hr4.on hA4.below).on hb5
  have hW5 : Below w.heap.size w w5 := hW4.trans (hb45.mono hW4.size)
  have hsz : (set6 w5 w.heap.size (.int .i64 1) (.slice (some ⟨w5.heap.size, 0, none⟩) 2 2) (.slice (some ⟨w1.heap.size, 0, none⟩) 1 1) (.bool false) (.slice none 0 0) (.slice none 0 0)).heap.size = w5.heap.size := by simp [set6, World.setCell]
  have HSZ := Lib.hid hsz
  clear hsz
  have hzw : w.heap.size < w5.heap.size := Nat.lt_of_lt_of_le hB4.lt hb45.size
  clear hA4 hB4
  have k0 := hB5.cell 0
  have k1 := hB5.cell 1
  have k2 := hB5.cell 2
  have k3 := hB5.cell 3
  have k4 := hB5.cell 4
  have k5 := hB5.cell 5
  simp at k0 k1 k2 k3 k4 k5
  have kz := hB5.lt
  have kf0 := hB5.frozen 0
  have kf1 := hB5.frozen 1
  have kf2 := hB5.frozen 2
  have kf3 := hB5.frozen 3
  have kf4 := hB5.frozen 4
  have kf5 := hB5.frozen 5
  have HEX : Hid (ExD ⟨1, some ⟨w5.heap.size, 0, none⟩, 2, 2, [oneFD (some ⟨w2.heap.size, 0, none⟩) 0 r2 r3, oneFD (some ⟨w4.heap.size, 0, none⟩) 0 r4 r5], oneFD (some ⟨w1.heap.size, 0, none⟩) 0 r1 ⟨false, none, 0, 0, [], none, 0, 0, []⟩⟩) := by
    have q1 := HQ1.out
    have q2 := HQ2.out
    have q3 := HQ3.out
    have q4 := HQ4.out
    have q5 := HQ5.out
    have n1 : ((1 : Int) : Rat) ≠ 0 := by decide
    have n2 : ((-1 : Int) : Rat) ≠ 0 := by decide
    have o2 : OkFD 1 (oneFD (some ⟨w2.heap.size, 0, none⟩) 0 r2 r3) := one_ok ho2 (by rw [q2]; exact H_int1) ho3 (by rw [q3, H_mone]; omega)
    have o4 : OkFD 1 (oneFD (some ⟨w4.heap.size, 0, none⟩) 0 r4 r5) := one_ok ho4 (by rw [q4, H_mone]; omega) ho5 (by rw [q5]; exact H_int3)
    have v2 : FormV (oneFD (some ⟨w2.heap.size, 0, none⟩) 0 r2 r3).ts (oneFD (some ⟨w2.heap.size, 0, none⟩) 0 r2 r3).k 1 := one_valid (by omega) (by omega) ho2 (by rw [q2]; exact n1) ho3
    have v4 : FormV (oneFD (some ⟨w4.heap.size, 0, none⟩) 0 r4 r5).ts (oneFD (some ⟨w4.heap.size, 0, none⟩) 0 r4 r5).k 1 := one_valid (by omega) (by omega) ho4 (by rw [q4]; exact n2) ho5
    exact {
      vars := rfl
      rn := rfl
      ok := { rows := two_P o2 o4, obj := one_ok ho1 (by rw [q1]; exact H_int1) rd_zero_ok (by rw [rd_zero_q, H_zero]; omega), rn := by show 2 ≤ 4096; omega }
      rows := by simp only [List.map_cons, List.map_nil, one_sem, q2, q3, q4, q5]
      obj := by simp only [one_sem, q1, rd_zero_q]
      pv := { v0 := by show (0 : Int) ≤ 1; omega, v1 := by show (1 : Int) ≤ 1280; omega, rn := by show 2 ≤ 4096; omega, obj := one_valid (by omega) (by show (0 : Int) < 1; omega) ho1 (by rw [q1]; exact n1) rd_zero_ok, rows := two_P v2 v4 } }
  go_wp2_with fail
  exact bodyPost_ret (v := .agg #[.int .i64 1, .slice (some ⟨w5.heap.size, 0, none⟩) 2 2, .slice (some ⟨w1.heap.size, 0, none⟩) 1 1, .bool false, .slice none 0 0, .slice none 0 0]) (by simp [results, Tryz.results18, go_sem, *]) rfl
    ⟨⟨1, some ⟨w5.heap.size, 0, none⟩, 2, 2, [oneFD (some ⟨w2.heap.size, 0, none⟩) 0 r2 r3, oneFD (some ⟨w4.heap.size, 0, none⟩) 0 r4 r5], oneFD (some ⟨w1.heap.size, 0, none⟩) 0 r1 ⟨false, none, 0, 0, [], none, 0, 0, []⟩⟩, rfl,
      ex_in hB5 HSZ.out (one_in hT2 hr2 hr3) (one_in hT4 hr4 hr5) (one_in hT1 hr1 (zero_in _)), HEX.out, (below_set6 hW5 (Nat.le_refl _) _ _ _ _ _ _).alloc (by rw [HSZ.out]; exact hW5.size) _⟩
end Go.Proofs.YtledagemcknlcaaGreat
namespace Go.Proofs.YtledagemcknlcaaGreat
open Go.RowKit

theorem evN_fm (ts : List TD) (xs : List RD) (q0 : Rat) (i : Nat) : evN ts xs q0 i = ((fm ts).take i).foldl (fun s vq => s + vq.2 * ptq xs vq.1) q0 := by
  induction i with
  | zero => rfl
  | succ i ih =>
    rw [evN, ih, List.take_add_one, List.foldl_append]
    have e := fm_get ts i
    rcases h : ts[i]? with _ | t
    · rw [h] at e; simp only [Option.map_none] at e; rw [e]; simp [Rat.add_zero]
    · rw [h] at e; simp only [Option.map_some] at e; rw [e]; rfl
theorem fev_sem {f : FD} {w : World} (h : f.In w) (xs : List RD) : fev f xs = (sem f).1.foldl (fun s vq => s + vq.2 * ptq xs vq.1) (sem f).2 := by
  have h1 := h.terms.len
  unfold fev sem
  rw [evN_fm, List.take_of_length_le (by rw [fm_length]; omega)]
theorem coefT_fm (ts : List TD) (v : Int) : coefT ts v = coefV (fm ts) v := by
  induction ts with
  | nil => rfl
  | cons t ts ih =>
    show (if t.v = v then t.c.q else coefT ts v) = if t.v = v then t.c.q else coefV (fm ts) v
    rw [ih]
theorem ex_rows {d : PD} (h : ExD d) : ∃ f g, d.rows = [f, g] ∧ sem f = ([((0 : Int), ((1 : Int) : Rat))], ((-1 : Int) : Rat)) ∧ sem g = ([((0 : Int), ((-1 : Int) : Rat))], ((3 : Int) : Rat)) := by
  have hr := h.rows
  rcases hd : d.rows with _ | ⟨f, _ | ⟨g, _ | ⟨x, l⟩⟩⟩ <;> rw [hd] at hr <;> simp at hr
  exact ⟨f, g, rfl, hr.1, hr.2⟩
theorem ex_len {d : PD} (r : RD) (h : ExD d) : (([r] : List RD).length : Int) = d.vars := by rw [h.vars]; rfl
theorem ptq_one (r : RD) : ptq [r] 0 = r.q := rfl
theorem ex_feas {d : PD} {w : World} {r : RD} (hd : d.In w) (h : ExD d) (hr : r.q = ((1 : Int) : Rat)) : FeasS d [r] := by
  obtain ⟨f, g, e, hf, hg⟩ := ex_rows h
  refine ⟨h.pv, ex_len r h, ?_⟩
  have hin := hd.rows.ok
  rw [e] at hin ⊢
  have hfi := hin 0 f rfl
  have hgi := hin 1 g rfl
  intro i u hu
  match i, hu with
  | 0, hu => cases hu; rw [fev_sem hfi, hf]; simp only [List.foldl_cons, List.foldl_nil, ptq_one, hr]; decide +kernel
  | 1, hu => cases hu; rw [fev_sem hgi, hg]; simp only [List.foldl_cons, List.foldl_nil, ptq_one, hr]; decide +kernel
theorem ex_valQ {d : PD} {w : World} {r : RD} (hd : d.In w) (h : ExD d) (hr : r.q = ((1 : Int) : Rat)) : valQ d [r] = ((1 : Int) : Rat) := by
  unfold valQ
  rw [if_pos ⟨h.pv, ex_len r h⟩, fev_sem hd.obj, h.obj]
  simp only [List.foldl_cons, List.foldl_nil, ptq_one, hr]
  decide +kernel
theorem ex_valE {d : PD} {r : RD} (h : ExD d) : valE d [r] = 0 := by
  unfold valE
  rw [if_pos h.pv, if_pos (ex_len r h)]
theorem ex_dualO {d : PD} (h : ExD d) : dualO d = ([((0 : Int), ((-1 : Int) : Rat)), ((1 : Int), ((3 : Int) : Rat))], (0 : Rat)) := by
  obtain ⟨f, g, e, hf, hg⟩ := ex_rows h
  have h1 : f.k.q = ((-1 : Int) : Rat) := congrArg Prod.snd hf
  have h2 : g.k.q = ((3 : Int) : Rat) := congrArg Prod.snd hg
  have h3 : d.obj.k.q = 0 := congrArg Prod.snd h.obj
  unfold dualO
  rw [h.rn, e, h3]
  simp only [colN, List.getElem?_cons_zero, List.getElem?_cons_succ, Option.map_some, Option.getD_some, h1, h2]
  decide +kernel
theorem ex_dualF {d : PD} (h : ExD d) : dualF d 0 = ([((0 : Int), ((1 : Int) : Rat)), ((1 : Int), ((-1 : Int) : Rat))], ((-1 : Int) : Rat)) := by
  obtain ⟨f, g, e, hf, hg⟩ := ex_rows h
  have h1 : fm f.ts = [((0 : Int), ((1 : Int) : Rat))] := congrArg Prod.fst hf
  have h2 : fm g.ts = [((0 : Int), ((-1 : Int) : Rat))] := congrArg Prod.fst hg
  have h3 : fm d.obj.ts = [((0 : Int), ((1 : Int) : Rat))] := congrArg Prod.fst h.obj
  unfold dualF
  rw [h.rn, e]
  simp only [colN, coefT_fm, List.getElem?_cons_zero, List.getElem?_cons_succ, Option.map_some, Option.getD_some, h1, h2, h3]
  decide +kernel
theorem ex_dual_rows {d dd : PD} {w : World} (h : ExD d) (hi : dd.In w) (hr : dd.rows.map sem = dualA d.rn ++ dualB d d.vars.toNat) : dd.rn = 4 ∧ ∃ f, dd.rows[2]? = some f ∧ sem f = dualF d 0 := by
  rw [h.rn, h.vars] at hr
  have e : dualA 2 ++ dualB d (1 : Int).toNat = [([((0 : Int), (1 : Rat))], (0 : Rat)), ([((1 : Int), (1 : Rat))], (0 : Rat)), dualF d 0, dualG d 0] := rfl
  rw [e] at hr
  have hl := congrArg List.length hr
  simp at hl
  refine ⟨by rw [← hi.rows.len]; exact hl, ?_⟩
  have h2 := congrArg (fun l => l[2]?) hr
  simp only [List.getElem?_map] at h2
  rcases hx : dd.rows[2]? with _ | f
  · rw [hx] at h2; simp at h2
  · rw [hx] at h2; simp at h2; exact ⟨f, rfl, h2⟩
end Go.Proofs.YtledagemcknlcaaGreat
namespace Go.Proofs.YtledagemcknlcaaGreat
open Go.RowKit

theorem ex_lim {d : PD} {w : World} (h : d.In w) (hx : ExD d) : LimP 1 d := ⟨OkFD.lim h.obj hx.ok.obj, fun i f hf => OkFD.lim (h.rows.ok i f hf) (hx.ok.rows i f hf)⟩
/-- a form of two terms -/
def twoFD (ad : Option Addr) (r s k : RD) : FD := ⟨ad, 2, 2, [⟨0, r⟩, ⟨1, s⟩], k⟩
theorem twofd_in {w : World} {b : Nat} {ra rb k : RD} (hB : Blk w b 52 #[.int .i64 0, .bool ra.neg, .slice ra.a1 ra.n1 ra.c1, .slice ra.a2 ra.n2 ra.c2, .int .i64 1, .bool rb.neg, .slice rb.a1 rb.n1 rb.c1, .slice rb.a2 rb.n2 rb.c2]) (hr : ra.In w) (hs : rb.In w) (hk : k.In w) : (twoFD (some ⟨b, 0, none⟩) ra rb k).In w := by
  refine ⟨⟨rfl, by show 2 ≤ 2; omega, fun k t ht => ?_, fun _ => ⟨b, 0, rfl, hB.lt, fun k t ht => ?_⟩⟩, hk⟩
  · match k, ht with
    | 0, ht => cases ht; exact hr
    | 1, ht => cases ht; exact hs
  · match k, ht with
    | 0, ht => cases ht; exact ⟨by simpa using hB.cell 0, by simpa using hB.cell 1, by simpa using hB.cell 2, by simpa using hB.cell 3⟩
    | 1, ht => cases ht; exact ⟨by simpa using hB.cell 4, by simpa using hB.cell 5, by simpa using hB.cell 6, by simpa using hB.cell 7⟩
theorem twofd_ok {m : Nat} {ad : Option Addr} {r s k : RD} (hr : r.Ok) (hrH : H r.q ≤ m) (hs : s.Ok) (hsH : H s.q ≤ m) (hk : k.Ok) (hkH : H k.q ≤ m) : OkFD m (twoFD ad r s k) :=
  ⟨fun j t ht => by
    match j, ht with
    | 0, ht => cases ht; exact ⟨hr, hrH⟩
    | 1, ht => cases ht; exact ⟨hs, hsH⟩, hk, hkH, by show 2 ≤ 65536; omega⟩
theorem twofd_sem {ad : Option Addr} {r s k : RD} : sem (twoFD ad r s k) = ([((0 : Int), r.q), ((1 : Int), s.q)], k.q) := rfl
theorem pt_one {w : World} {b : Nat} {r : RD} (hB : Blk w b 27 #[.bool r.neg, .slice r.a1 r.n1 r.c1, .slice r.a2 r.n2 r.c2]) (hr : r.In w) : PtR w (some ⟨b, 0, none⟩) 1 1 [r] := by
  refine ⟨rfl, by omega, fun i u hu => ?_, fun _ => ⟨b, 0, rfl, hB.lt, fun i u hu => ?_⟩⟩
  · match i, hu with
    | 0, hu => cases hu; exact hr
  · match i, hu with
    | 0, hu => cases hu; exact ⟨by simpa using hB.cell 0, by simpa using hB.cell 1, by simpa using hB.cell 2⟩
theorem okp_one {r : RD} (ho : r.Ok) (hq : r.q = ((1 : Int) : Rat)) : OkP 2 [r] := fun i u hu => by
  match i, hu with
  | 0, hu => cases hu; exact ⟨ho, by rw [hq]; have := H_int1; omega⟩
theorem below_next {X c w' : World} (h : Below X.heap.size X c) (h' : Below c.heap.size c w') : Below X.heap.size X w' := h.trans (h'.mono h.size)
theorem below_al {X c : World} (h : Below X.heap.size X c) (o : Obj) : Below X.heap.size X (c.alloc o) := h.alloc h.size o
theorem self_al (c : World) (o : Obj) : Below c.heap.size c (c.alloc o) := (Below.refl _ _).alloc (Nat.le_refl _) o

set_option maxRecDepth 100000 in
set_option maxHeartbeats 25600000 in
theorem awake_c (w : World) : Calls Tryz.prog 6 #[] w (RetB true w) := by
  go_enter Tryz.func6, Tryz.ntmps6
  go_wp2_with fail
  refine (example_c w).mono ?_
  rintro e w1 ⟨d, rfl, hd, hx, hb1⟩
  go_wp2_with fail
  refine (dual_c w1 d (m := 1) hd ((ex_lim hd hx).few (by omega)) hx.pv hx.ok (by omega) (by omega) (by rw [hx.rn]; omega) (by rw [hx.vars]; omega)).mono ?_
  rintro e w2 ⟨dd, rfl, hdd, hrows, hobjok, hvars, hsem, hobj, hb2⟩
  obtain ⟨hrn, f2, hf2, hs2⟩ := ex_dual_rows hx hdd hsem
  have HV : Hid (dd.vars = 2) := by rw [hvars, hx.rn]; rfl
  have HRN := Lib.hid hrn
  have HF2 := Lib.hid hf2
  have HS2 : Hid (sem f2 = ([((0 : Int), ((1 : Int) : Rat)), ((1 : Int), ((-1 : Int) : Rat))], ((-1 : Int) : Rat))) := hs2.trans (ex_dualF hx)
  have HDO : Hid (sem dd.obj = ([((0 : Int), ((-1 : Int) : Rat)), ((1 : Int), ((3 : Int) : Rat))], (0 : Rat))) := hobj.trans (ex_dualO hx)
  have hok2 := hrows 2 f2 hf2
  have hw2 : Below w.heap.size w w2 := hb1.trans (hb2.mono hb1.size)
  clear hvars hsem hobj hrn hf2 hs2 hrows hd hx hb1 hb2
  go_upto_region 2 with (fail)
  have hQ1 := Pro1.mk' w2 #[.int .i64 dd.vars, .slice dd.ra dd.rn dd.rc, .slice dd.obj.ad dd.obj.n dd.obj.c, .bool dd.obj.k.neg, .slice dd.obj.k.a1 dd.obj.k.n1 dd.obj.k.c1, .slice dd.obj.k.a2 dd.obj.k.n2 dd.obj.k.c2] 31
  generalize w2.alloc (.cells #[.int .i64 dd.vars, .slice dd.ra dd.rn dd.rc, .slice dd.obj.ad dd.obj.n dd.obj.c, .bool dd.obj.k.neg, .slice dd.obj.k.a1 dd.obj.k.n1 dd.obj.k.c1, .slice dd.obj.k.a2 dd.obj.k.n2 dd.obj.k.c2] 31) = V1 at *
  go_wp2_with fail
  refine (frof_any V1 1 (by omega) (by omega)).mono ?_
  rintro e w3 h3
  obtain ⟨r, rfl, hr, hro, hrq, hb3⟩ := h3.rd
  have HRQ := Lib.hid hrq
  clear hrq h3
  have hD1 := hQ1.b0.on hb3
  have hw13 := hQ1.below.trans (hb3.mono hQ1.below.size)
  have hdd3 := hdd.on hw13
  have hw3 : Below w.heap.size w w3 := hw2.trans (hw13.mono hw2.size)
  clear hQ1 hdd
  go_upto_region 3 with (fail)
  have hQ2 := Pro1.mk' w3 #[.bool r.neg, .slice r.a1 r.n1 r.c1, .slice r.a2 r.n2 r.c2] 27
  generalize w3.alloc (.cells #[.bool r.neg, .slice r.a1 r.n1 r.c1, .slice r.a2 r.n2 r.c2] 27) = V2 at *
  go_wp2_with fail
  refine (example_c V2).mono ?_
  rintro e w4 ⟨d2, rfl, hd2, hx2, hb4⟩
  have hP4 := hQ2.b0.on hb4
  have hr4 := (hr.on hQ2.below).on hb4
  have hw24 := hQ2.below.trans (hb4.mono hQ2.below.size)
  have hD4 := hD1.on hw24
  have hdd4 := hdd3.on hw24
  have hw4 : Below w.heap.size w w4 := hw3.trans (hw24.mono hw3.size)
  clear hQ2 hD1 hdd3 hr
  go_wp2_with fail
  refine (pvalue_c w4 d2 (m := 1) hd2 (ex_lim hd2 hx2) (by omega) (pt_one hP4 hr4) (okp_one hro HRQ.out) (by omega)).mono ?_
  rintro e w5 h5
  rw [ex_valQ hd2 hx2 HRQ.out, ex_valE hx2] at h5
  obtain ⟨s5, a5, n5, c5, a6, n6, c6, rfl, q5, hb5⟩ := h5
  go_upto_region 4 with (fail)
  have hQ3 := Pro1.mk' w5 #[.bool s5, .slice a5 n5 c5, .slice a6 n6 c6] 27
  generalize w5.alloc (.cells #[.bool s5, .slice a5 n5 c5, .slice a6 n6 c6] 27) = X at *
  have hw5X := hb5.trans (hQ3.below.mono hb5.size)
  have hPX := hP4.on hw5X
  have hr := hr4.on hw5X
  have hDX := hD4.on hw5X
  have hddX := hdd4.on hw5X
  have qv := q5.on hQ3.below
  have hwX : Below w.heap.size w X := hw4.trans (hw5X.mono hw4.size)
  have k0 := hDX.cell 0
  have k1 := hDX.cell 1
  have k2 := hDX.cell 2
  have k3 := hDX.cell 3
  have k4 := hDX.cell 4
  have k5 := hDX.cell 5
  simp at k0 k1 k2 k3 k4 k5
  have kz := hDX.lt
  have l0 := hPX.cell 0
  have l1 := hPX.cell 1
  have l2 := hPX.cell 2
  simp at l0 l1 l2
  have lz := hPX.lt
  have m0 := hQ3.b0.cell 0
  have m1 := hQ3.b0.cell 1
  have m2 := hQ3.b0.cell 2
  simp at m0 m1 m2
  have mz := hQ3.b0.lt
  have hpt := pt_one hPX hr
  obtain ⟨b, o, f2', hra', hbl, HF2', hf2X, r0, r1, r2, r3⟩ := hddX.rows.at_ (i := 2) (by have := HRN.out; omega)
  have e2 : f2' = f2 := by have := HF2'.out.symm.trans HF2.out; cases this; rfl
  rw [e2] at hf2X r0 r1 r2 r3
  have hcur : Below X.heap.size X X.drew := Below.drew (Below.refl _ _)
  have i4 : ((dd.rn : Int) == 4) = true := by have := HRN.out; simp; omega
  have i5 : (dd.vars == 2) = true := by have := HV.out; simp; omega
  have i6 : (2 : Int) < (dd.rn : Int) := by have := HRN.out; omega
  have i7 : 2 < dd.rn := by have := HRN.out; omega
  clear hQ3 hP4 hr4 hD4 hdd4 q5 e2 HF2' hd2 hx2
  simp only [Nat.reduceMul, Nat.add_assoc, Nat.reduceAdd] at r0 r1 r2 r3
  go_region_held3 (fun w' => w'.cell? ⟨w2.heap.size, 0, none⟩ = some (.int .i64 dd.vars) ∧ w'.cell? ⟨w2.heap.size, 1, none⟩ = some (.slice dd.ra dd.rn dd.rc) ∧ w'.cell? ⟨w2.heap.size, 2, none⟩ = some (.slice dd.obj.ad dd.obj.n dd.obj.c) ∧ w'.cell? ⟨w2.heap.size, 3, none⟩ = some (.bool dd.obj.k.neg) ∧ w'.cell? ⟨w2.heap.size, 4, none⟩ = some (.slice dd.obj.k.a1 dd.obj.k.n1 dd.obj.k.c1) ∧ w'.cell? ⟨w2.heap.size, 5, none⟩ = some (.slice dd.obj.k.a2 dd.obj.k.n2 dd.obj.k.c2) ∧ w'.cell? ⟨w3.heap.size, 0, none⟩ = some (.bool r.neg) ∧ w'.cell? ⟨w3.heap.size, 1, none⟩ = some (.slice r.a1 r.n1 r.c1) ∧ w'.cell? ⟨w3.heap.size, 2, none⟩ = some (.slice r.a2 r.n2 r.c2) ∧ w'.cell? ⟨w5.heap.size, 0, none⟩ = some (.bool s5) ∧ w'.cell? ⟨w5.heap.size, 1, none⟩ = some (.slice a5 n5 c5) ∧ w'.cell? ⟨w5.heap.size, 2, none⟩ = some (.slice a6 n6 c6) ∧ w'.cell? ⟨b, o + 8, none⟩ = some (.slice f2.ad f2.n f2.c) ∧ w'.cell? ⟨b, o + 9, none⟩ = some (.bool f2.k.neg) ∧ w'.cell? ⟨b, o + 10, none⟩ = some (.slice f2.k.a1 f2.k.n1 f2.k.c1) ∧ w'.cell? ⟨b, o + 11, none⟩ = some (.slice f2.k.a2 f2.k.n2 f2.k.c2))
    (go_keep)
    (first
      | (go_at_call 18; refine (example_c _).mono ?_; rintro e w7 ⟨d3, rfl, hd3, hx3, hb'⟩; have hcur : Below X.heap.size X w7 := (by first | exact below_next hcur hb' | exact below_next (below_al hcur _) hb'); obtain ⟨hc, hf⟩ := bcell hcur)
      | (go_at_call 20; refine (pvalid_any _ d3 hd3 ((ex_lim hd3 hx3).few (by omega))).mono ?_; rintro e w8 ⟨rfl, hb'⟩; rw [decide_eq_true hx3.pv]; have hcur : Below X.heap.size X w8 := (by first | exact below_next hcur hb' | exact below_next (below_al hcur _) hb'); obtain ⟨hc, hf⟩ := bcell hcur)
      | (go_at_call 15; refine (pfeas_c _ d3 (m := 1) hd3 (ex_lim hd3 hx3) (by omega) (hpt.on hcur) (okp_one hro HRQ.out) (by omega)).mono ?_; rintro e w9 ⟨rfl, hb'⟩; rw [decide_eq_true (ex_feas hd3 hx3 HRQ.out)]; have hcur : Below X.heap.size X w9 := (by first | exact below_next hcur hb' | exact below_next (below_al hcur _) hb'); obtain ⟨hc, hf⟩ := bcell hcur)
      | (go_at_call 17; refine (frcmp_c _ (qv.on hcur) (RD.ok_c (hr.on hcur) hro) (by have := H_int1; omega) (by rw [HRQ.out]; have := H_int1; omega)).mono ?_; rintro e w10 ⟨rfl, hb'⟩; rw [sgR_sub_zero.2 HRQ.out.symm]; have hcur : Below X.heap.size X w10 := (by first | exact below_next hcur hb' | exact below_next (below_al hcur _) hb'); obtain ⟨hc, hf⟩ := bcell hcur)
      | (go_at_call_of 22 (Value.int IntKind.i64 0); refine (term_c _ _ 0 (by omega) (by omega)).mono ?_; rintro e w11 ⟨ra, rfl, hra, hroa, hrqa, hb'⟩; have HA := Lib.hid hrqa; clear hrqa; have hcur : Below X.heap.size X w11 := (by first | exact below_next hcur hb' | exact below_next (below_al hcur _) hb'); obtain ⟨hc, hf⟩ := bcell hcur)
      | (go_at_call 22; refine (term_c _ _ 1 (by omega) (by omega)).mono ?_; rintro e w12 ⟨rb, rfl, hrb, hrob, hrqb, hb'⟩; have HB := Lib.hid hrqb; clear hrqb; have hra2 := hra.on hb'; have hcur : Below X.heap.size X w12 := (by first | exact below_next hcur hb' | exact below_next (below_al hcur _) hb'); obtain ⟨hc, hf⟩ := bcell hcur)
      | (go_at_call 19; refine (frof_any _ (-1) (by omega) (by omega)).mono ?_; rintro e w13 h13; obtain ⟨rk, rfl, hrk, hrok, hrqk, hb'⟩ := h13.rd; have HK := Lib.hid hrqk; clear hrqk h13; (first | (have hra3 := hra2.on hb'; have hrb3 := hrb.on hb') | (have hra3 := (hra2.on (self_al w12 _)).on hb'; have hrb3 := (hrb.on (self_al w12 _)).on hb'; have hT3 := (Blk.new w12 52 #[.int .i64 0, .bool ra.neg, .slice ra.a1 ra.n1 ra.c1, .slice ra.a2 ra.n2 ra.c2, .int .i64 1, .bool rb.neg, .slice rb.a1 rb.n1 rb.c1, .slice rb.a2 rb.n2 rb.c2]).on hb')); have hcur : Below X.heap.size X w13 := (by first | exact below_next hcur hb' | exact below_next (below_al hcur _) hb'); obtain ⟨hc, hf⟩ := bcell hcur)
      | (go_at_call_of 21 (Value.slice dd.obj.ad dd.obj.n dd.obj.c); refine (same_c _ (f := dd.obj) (g := twoFD (some ⟨w12.heap.size, 0, none⟩) ra rb ⟨false, none, 0, 0, [], none, 0, 0, []⟩) (m := 7) ((hddX.obj.on hcur).on (self_al _ _)) (twofd_in (Blk.new w12 _ _) (hra2.on (self_al _ _)) (hrb.on (self_al _ _)) (zero_in _)) hobjok (twofd_ok hroa (by rw [HA.out, H_mone]; omega) hrob (by rw [HB.out]; have := H_int3; omega) rd_zero_ok (by rw [rd_zero_q, H_zero]; omega)) (by omega)).mono ?_; rintro e w14 ⟨rfl, hb'⟩; rw [decide_eq_true (by rw [HDO.out, twofd_sem, HA.out, HB.out, rd_zero_q])]; have hcur : Below X.heap.size X w14 := (by first | exact below_next hcur hb' | exact below_next (below_al hcur _) hb'); obtain ⟨hc, hf⟩ := bcell hcur)
      | (go_at_call 21; (first | refine (same_c _ (f := f2) (g := twoFD (some ⟨w12.heap.size, 0, none⟩) ra rb rk) (m := 7) (hf2X.on hcur) (twofd_in hT3 hra3 hrb3 hrk) hok2 (twofd_ok hroa (by rw [HA.out]; have := H_int1; omega) hrob (by rw [HB.out, H_mone]; omega) hrok (by rw [HK.out, H_mone]; omega)) (by omega)).mono ?_ | refine (same_c _ (f := f2) (g := twoFD (some ⟨w13.heap.size, 0, none⟩) ra rb rk) (m := 7) ((hf2X.on hcur).on (self_al _ _)) (twofd_in (Blk.new w13 _ _) (hra3.on (self_al _ _)) (hrb3.on (self_al _ _)) (hrk.on (self_al _ _))) hok2 (twofd_ok hroa (by rw [HA.out]; have := H_int1; omega) hrob (by rw [HB.out, H_mone]; omega) hrok (by rw [HK.out, H_mone]; omega)) (by omega)).mono ?_); rintro e w15 ⟨rfl, hb'⟩; rw [decide_eq_true (by rw [HS2.out, twofd_sem, HA.out, HB.out, HK.out])]; have hcur : Below X.heap.size X w15 := (by first | exact below_next hcur hb' | exact below_next (below_al hcur _) hb'); obtain ⟨hc, hf⟩ := bcell hcur))
  all_goals
    go_wp2_with fail
    go_ret
    exact ⟨rfl, hwX.trans (hcur.mono hwX.size)⟩
end Go.Proofs.YtledagemcknlcaaGreat
