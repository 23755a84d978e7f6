/- lists of forms and programs in memory; program.Valid, relucertref27.Valid: what each call returns. Feasible and Value of the program and of the reference: what each call returns. the closures of program.Dual: what each call returns. linear.Scale; lists of forms of the call's own: what stays. what program.Dual returns, as plain numbers; forms and lists of forms under way. -/
import Derived.Test.YtledagemcknlcaaGreatK6
import Derived.Test.YtledagemcknlcaaGreatK7
set_option linter.all false
namespace Go.Proofs.YtledagemcknlcaaGreat
open Go.RowKit

/-- a form in memory -/
structure FD where
  ad : Option Addr
  n : Nat
  c : Nat
  ts : List TD
  k : RD
structure FD.In (f : FD) (w : World) : Prop where
  terms : TermsR w f.ad f.n f.c f.ts
  const : f.k.In w
theorem FD.In.on {f : FD} {w w' : World} (h : f.In w) (hb : Below w.heap.size w w') : f.In w' := ⟨h.terms.on hb, h.const.on hb⟩
/-- the slice reads as the forms fs -/
structure RowsR (w : World) (ad : Option Addr) (n c : Nat) (fs : List FD) : Prop where
  len : fs.length = n
  cap : n ≤ c
  ok : ∀ (i : Nat) (f : FD), fs[i]? = some f → f.In w
  cells : 0 < n → ∃ b o, ad = some ⟨b, o, none⟩ ∧ b < w.heap.size ∧ ∀ (i : Nat) (f : FD), fs[i]? = some f →
    w.cell? ⟨b, o + i * 4, none⟩ = some (.slice f.ad f.n f.c) ∧ w.cell? ⟨b, o + i * 4 + 1, none⟩ = some (.bool f.k.neg) ∧
    w.cell? ⟨b, o + i * 4 + 2, none⟩ = some (.slice f.k.a1 f.k.n1 f.k.c1) ∧ w.cell? ⟨b, o + i * 4 + 3, none⟩ = some (.slice f.k.a2 f.k.n2 f.k.c2)
theorem RowsR.on {w w' : World} {ad : Option Addr} {n c : Nat} {fs : List FD} (h : RowsR w ad n c fs) (hb : Below w.heap.size w w') : RowsR w' ad n c fs :=
  ⟨h.len, h.cap, fun i t ht => (h.ok i t ht).on hb, fun h0 => by
    obtain ⟨b, o, e, hlt, hc⟩ := h.cells h0
    refine ⟨b, o, e, Nat.lt_of_lt_of_le hlt hb.size, fun i t ht => ?_⟩
    obtain ⟨e0, e1, e2, e3⟩ := hc i t ht
    have f := fun k => hb.cell (p := ⟨b, k, none⟩) hlt
    exact ⟨(f _).trans e0, (f _).trans e1, (f _).trans e2, (f _).trans e3⟩⟩
theorem RowsR.at_ {w : World} {ad : Option Addr} {n c : Nat} {fs : List FD} (h : RowsR w ad n c fs) {i : Nat} (hi : i < n) :
    ∃ b o f, ad = some ⟨b, o, none⟩ ∧ b < w.heap.size ∧ Hid (fs[i]? = some f) ∧ f.In w ∧ w.cell? ⟨b, o + i * 4, none⟩ = some (.slice f.ad f.n f.c) ∧ w.cell? ⟨b, o + i * 4 + 1, none⟩ = some (.bool f.k.neg) ∧
    w.cell? ⟨b, o + i * 4 + 2, none⟩ = some (.slice f.k.a1 f.k.n1 f.k.c1) ∧ w.cell? ⟨b, o + i * 4 + 3, none⟩ = some (.slice f.k.a2 f.k.n2 f.k.c2) := by
  obtain ⟨b, o, e, hb, hc⟩ := h.cells (by omega)
  have hl := h.len
  have ht : fs[i]? = some (fs[i]'(by omega)) := List.getElem?_eq_getElem _
  exact ⟨b, o, _, e, hb, ht, h.ok _ _ ht, hc _ _ ht⟩
/-- few limbs and terms -/
structure FewF (f : FD) : Prop where
  n : f.n ≤ 17592186044416
  ts : ∀ (i : Nat) (t : TD), f.ts[i]? = some t → Few 1099511627776 t.c
  k : Few 1099511627776 f.k
/-- a program in memory -/
structure PD where
  vars : Int
  ra : Option Addr
  rn : Nat
  rc : Nat
  rows : List FD
  obj : FD
structure PD.In (p : PD) (w : World) : Prop where
  rows : RowsR w p.ra p.rn p.rc p.rows
  obj : p.obj.In w
theorem PD.In.on {p : PD} {w w' : World} (h : p.In w) (hb : Below w.heap.size w w') : p.In w' := ⟨h.rows.on hb, h.obj.on hb⟩
structure FewP (p : PD) : Prop where
  obj : FewF p.obj
  rows : ∀ (i : Nat) (f : FD), p.rows[i]? = some f → FewF f
/-- the program is valid -/
structure PV (p : PD) : Prop where
  v0 : 0 ≤ p.vars
  v1 : p.vars ≤ 1280
  rn : p.rn ≤ 4096
  obj : FormV p.obj.ts p.obj.k p.vars
  rows : ∀ (i : Nat) (f : FD), p.rows[i]? = some f → FormV f.ts f.k p.vars
noncomputable instance (p : PD) : Decidable (PV p) := Classical.propDecidable _
theorem fd_valid {f : FD} {vars : Int} (hf : FewF f) {w : World} (h : f.In w) :
    Calls Tryz.prog 55 #[.agg #[.slice f.ad f.n f.c, .bool f.k.neg, .slice f.k.a1 f.k.n1 f.k.c1, .slice f.k.a2 f.k.n2 f.k.c2], .int .i64 vars] w (RetB (decide (FormV f.ts f.k vars)) w) := lvalid_any w h.terms h.const hf.n hf.ts hf.k
theorem fd_fvalid {f : FD} {vars : Int} (hf : FewF f) {w : World} (h : f.In w) :
    Calls Tryz.prog 56 #[.agg #[.slice f.ad f.n f.c, .bool f.k.neg, .slice f.k.a1 f.k.n1 f.k.c1, .slice f.k.a2 f.k.n2 f.k.c2], .int .i64 vars] w (RetB (decide (FormV f.ts f.k vars)) w) := fvalidf_any w h.terms h.const hf.n hf.ts hf.k

set_option maxRecDepth 100000 in
set_option maxHeartbeats 6400000 in
theorem pvalid_any_aux (w : World) (p : PD) (ra : Option Addr) (hro : RowsR w ra p.rn p.rc p.rows) (hob : p.obj.In w) (hf : FewP p) :
    Calls Tryz.prog 20 #[.agg #[.int .i64 p.vars, .slice ra p.rn p.rc, .slice p.obj.ad p.obj.n p.obj.c, .bool p.obj.k.neg, .slice p.obj.k.a1 p.obj.k.n1 p.obj.k.c1, .slice p.obj.k.a2 p.obj.k.n2 p.obj.k.c2]] w (RetB (decide (PV p)) w) := by
  have hP := Pro1.mk' w #[.int .i64 p.vars, .slice ra p.rn p.rc, .slice p.obj.ad p.obj.n p.obj.c, .bool p.obj.k.neg, .slice p.obj.k.a1 p.obj.k.n1 p.obj.k.c1, .slice p.obj.k.a2 p.obj.k.n2 p.obj.k.c2] 31
  go_enter Tryz.func20, Tryz.ntmps20
  go_upto_region 1 with (fail)
  generalize w.alloc (.cells #[.int .i64 p.vars, .slice ra p.rn p.rc, .slice p.obj.ad p.obj.n p.obj.c, .bool p.obj.k.neg, .slice p.obj.k.a1 p.obj.k.n1 p.obj.k.c1, .slice p.obj.k.a2 p.obj.k.n2 p.obj.k.c2] 31) = W at *
  have k00 := hP.b0.cell 0
  have k01 := hP.b0.cell 1
  have k02 := hP.b0.cell 2
  have k03 := hP.b0.cell 3
  have k04 := hP.b0.cell 4
  have k05 := hP.b0.cell 5
  simp at k00 k01 k02 k03 k04 k05
  have z0 := hP.b0.lt
  have hPb := hP.below
  have HPS := Lib.hid hP.size
  have HF := Lib.hid hf
  have HL := Lib.hid hro.len
  have gr := hro.on hPb
  have go := hob.on hPb
  clear hP hro hob hf
  by_cases e1 : p.vars < 0
  · have HE : Hid (decide (PV p) = false) := decide_eq_false (fun h => by have := h.v0; omega)
    have d1 : decide (p.vars < 0) = true := decide_eq_true e1
    go_wp2_with fail
    go_ret
    exact retB_end HE.out.symm hPb
  have d1 : decide (p.vars < 0) = false := decide_eq_false e1
  by_cases e2 : 1280 < p.vars
  · have HE : Hid (decide (PV p) = false) := decide_eq_false (fun h => by have := h.v1; omega)
    have d2 : decide (1280 < p.vars) = true := decide_eq_true e2
    go_wp2_with fail
    go_ret
    exact retB_end HE.out.symm hPb
  have d2 : decide (1280 < p.vars) = false := decide_eq_false e2
  by_cases e3 : 4096 < p.rn
  · have HE : Hid (decide (PV p) = false) := decide_eq_false (fun h => by have := h.rn; omega)
    have d3 : decide (4096 < p.rn) = true := decide_eq_true e3
    have d4 : decide ((4096 : Int) < (p.rn : Int)) = true := decide_eq_true (by omega)
    go_wp2_with fail
    go_ret
    exact retB_end HE.out.symm hPb
  have d3 : decide (4096 < p.rn) = false := decide_eq_false e3
  have d4 : decide ((4096 : Int) < (p.rn : Int)) = false := decide_eq_false (by omega)
  by_cases e4 : FormV p.obj.ts p.obj.k p.vars
  rotate_left
  · have HE : Hid (decide (PV p) = false) := decide_eq_false (fun h => e4 h.obj)
    have HD := Lib.hid (decide_eq_false e4)
    clear e4
    go_wp2_with fail
    refine (fd_valid HF.out.obj go).mono ?_
    rintro e w5 ⟨rfl, hb5⟩
    rw [HD.out]
    go_wp2_with fail
    go_ret
    exact retB_end HE.out.symm (hPb.trans (hb5.mono (by have := HPS.out; omega)))
  have HD := Lib.hid (decide_eq_true e4)
  have HO := Lib.hid e4
  clear e4
  go_wp2_with fail
  refine (fd_valid HF.out.obj go).mono ?_
  rintro e w5 ⟨rfl, hb5⟩
  rw [HD.out]
  obtain ⟨hc5, hf5⟩ := bcell hb5
  go_wp2_with fail
  go_loopw [30] (fun s10 wr => ∃ i, i ≤ p.rn ∧ s10 = .int .i64 (i : Nat) ∧ Hid (∀ (j : Nat) (f : FD), j < i → p.rows[j]? = some f → FormV f.ts f.k p.vars) ∧ Below W.heap.size W wr) (fun i _ => p.rn - (intOf i).toNat)
  case atStart => exact ⟨0, by omega, rfl, (fun j t hj => by omega : ∀ (j : Nat) (f : FD), j < 0 → p.rows[j]? = some f → FormV f.ts f.k p.vars), hb5⟩
  case round =>
    clear hb5 hc5 hf5
    obtain ⟨i, hi, rfl, HI, hb⟩ := hrel
    obtain ⟨hcr, hfr⟩ := bcell hb
    have zr := Nat.lt_of_lt_of_le z0 hb.size
    by_cases hlt : i < p.rn
    · obtain ⟨b, o, f, rfl, hbl, HR, gf, r0, r1, r2, r3⟩ := gr.at_ hlt
      have gfr := gf.on hb
      have zb := Nat.lt_of_lt_of_le hbl hb.size
      have HFF := Lib.hid (HF.out.rows i f HR.out)
      by_cases e5 : FormV f.ts f.k p.vars
      · have HN := Lib.hid e5
        have HD5 := Lib.hid (decide_eq_true e5)
        clear e5
        go_upto_region 6 with (fail)
        have hQ := Pro1.mk' wr #[.slice f.ad f.n f.c, .bool f.k.neg, .slice f.k.a1 f.k.n1 f.k.c1, .slice f.k.a2 f.k.n2 f.k.c2] 29
        generalize wr.alloc (.cells #[.slice f.ad f.n f.c, .bool f.k.neg, .slice f.k.a1 f.k.n1 f.k.c1, .slice f.k.a2 f.k.n2 f.k.c2] 29) = U at *
        have u0 := hQ.b0.cell 0
        have u1 := hQ.b0.cell 1
        have u2 := hQ.b0.cell 2
        have u3 := hQ.b0.cell 3
        simp at u0 u1 u2 u3
        have hbU := hb.trans (hQ.below.mono hb.size)
        obtain ⟨hcU, hfU⟩ := bcell hbU
        have gfU := gfr.on hQ.below
        clear hQ
        go_wp2_with fail
        refine (fd_valid HFF.out gfU).mono ?_
        rintro e w6 ⟨rfl, hb6⟩
        rw [HD5.out]
        have hbx := hbU.trans (hb6.mono hbU.size)
        go_wp2_with fail
        go_roundw
        case rel => exact ⟨i + 1, by omega, by go_num, (fun j' t' hj' ht' => (Nat.lt_or_ge j' i).elim (fun h9 => HI.out j' t' h9 ht') (fun h9 => by have e9 : j' = i := (by omega); rw [e9] at ht'; have := HR.out.symm.trans ht'; cases this; exact HN.out) : ∀ (j : Nat) (f : FD), j < i + 1 → p.rows[j]? = some f → FormV f.ts f.k p.vars), hbx⟩
        case measure => simp [intOf]; omega
      · have HE : Hid (decide (PV p) = false) := decide_eq_false (fun h => e5 (h.rows i f HR.out))
        have HD5 := Lib.hid (decide_eq_false e5)
        clear e5
        go_upto_region 6 with (fail)
        have hQ := Pro1.mk' wr #[.slice f.ad f.n f.c, .bool f.k.neg, .slice f.k.a1 f.k.n1 f.k.c1, .slice f.k.a2 f.k.n2 f.k.c2] 29
        generalize wr.alloc (.cells #[.slice f.ad f.n f.c, .bool f.k.neg, .slice f.k.a1 f.k.n1 f.k.c1, .slice f.k.a2 f.k.n2 f.k.c2] 29) = U at *
        have u0 := hQ.b0.cell 0
        have u1 := hQ.b0.cell 1
        have u2 := hQ.b0.cell 2
        have u3 := hQ.b0.cell 3
        simp at u0 u1 u2 u3
        have hbU := hb.trans (hQ.below.mono hb.size)
        obtain ⟨hcU, hfU⟩ := bcell hbU
        have gfU := gfr.on hQ.below
        clear hQ
        go_wp2_with fail
        refine (fd_valid HFF.out gfU).mono ?_
        rintro e w6 ⟨rfl, hb6⟩
        rw [HD5.out]
        have hbx := hbU.trans (hb6.mono hbU.size)
        go_wp2_with fail
        go_ret
        exact retB_end HE.out.symm (hPb.trans ((hbx).mono (by have := HPS.out; omega)))
    · have e : i = p.rn := by omega
      have HE : Hid (decide (PV p) = true) := decide_eq_true ⟨by omega, by omega, by omega, HO.out, fun j f hj => HI.out j f (by have := (List.getElem?_eq_some_iff.1 hj).1; have := HL.out; omega) hj⟩
      have d5 : decide (i < p.rn) = false := decide_eq_false (by omega)
      have d6 : decide ((i : Int) < (p.rn : Int)) = false := decide_eq_false (by omega)
      clear e
      go_wp2_with fail
      go_ret
      exact retB_end HE.out.symm (hPb.trans (hb.mono (by have := HPS.out; omega)))
theorem pvalid_any (w : World) (p : PD) (h : p.In w) (hf : FewP p) :
    Calls Tryz.prog 20 #[.agg #[.int .i64 p.vars, .slice p.ra p.rn p.rc, .slice p.obj.ad p.obj.n p.obj.c, .bool p.obj.k.neg, .slice p.obj.k.a1 p.obj.k.n1 p.obj.k.c1, .slice p.obj.k.a2 p.obj.k.n2 p.obj.k.c2]] w (RetB (decide (PV p)) w) := pvalid_any_aux w p p.ra h.rows h.obj hf

set_option maxRecDepth 100000 in
set_option maxHeartbeats 6400000 in
theorem fpvalid_any_aux (w : World) (p : PD) (ra : Option Addr) (hro : RowsR w ra p.rn p.rc p.rows) (hob : p.obj.In w) (hf : FewP p) :
    Calls Tryz.prog 25 #[.agg #[.int .i64 p.vars, .slice ra p.rn p.rc, .slice p.obj.ad p.obj.n p.obj.c, .bool p.obj.k.neg, .slice p.obj.k.a1 p.obj.k.n1 p.obj.k.c1, .slice p.obj.k.a2 p.obj.k.n2 p.obj.k.c2]] w (RetB (decide (PV p)) w) := by
  have hP := Pro1.mk' w #[.int .i64 p.vars, .slice ra p.rn p.rc, .slice p.obj.ad p.obj.n p.obj.c, .bool p.obj.k.neg, .slice p.obj.k.a1 p.obj.k.n1 p.obj.k.c1, .slice p.obj.k.a2 p.obj.k.n2 p.obj.k.c2] 31
  go_enter Tryz.func25, Tryz.ntmps25
  go_upto_region 1 with (fail)
  generalize w.alloc (.cells #[.int .i64 p.vars, .slice ra p.rn p.rc, .slice p.obj.ad p.obj.n p.obj.c, .bool p.obj.k.neg, .slice p.obj.k.a1 p.obj.k.n1 p.obj.k.c1, .slice p.obj.k.a2 p.obj.k.n2 p.obj.k.c2] 31) = W at *
  have k00 := hP.b0.cell 0
  have k01 := hP.b0.cell 1
  have k02 := hP.b0.cell 2
  have k03 := hP.b0.cell 3
  have k04 := hP.b0.cell 4
  have k05 := hP.b0.cell 5
  simp at k00 k01 k02 k03 k04 k05
  have z0 := hP.b0.lt
  have hPb := hP.below
  have HPS := Lib.hid hP.size
  have HF := Lib.hid hf
  have HL := Lib.hid hro.len
  have gr := hro.on hPb
  have go := hob.on hPb
  clear hP hro hob hf
  by_cases e1 : p.vars < 0
  · have HE : Hid (decide (PV p) = false) := decide_eq_false (fun h => by have := h.v0; omega)
    have d1 : decide (p.vars < 0) = true := decide_eq_true e1
    go_wp2_with fail
    go_ret
    exact retB_end HE.out.symm hPb
  have d1 : decide (p.vars < 0) = false := decide_eq_false e1
  by_cases e2 : 1280 < p.vars
  · have HE : Hid (decide (PV p) = false) := decide_eq_false (fun h => by have := h.v1; omega)
    have d2 : decide (1280 < p.vars) = true := decide_eq_true e2
    go_wp2_with fail
    go_ret
    exact retB_end HE.out.symm hPb
  have d2 : decide (1280 < p.vars) = false := decide_eq_false e2
  by_cases e3 : 4096 < p.rn
  · have HE : Hid (decide (PV p) = false) := decide_eq_false (fun h => by have := h.rn; omega)
    have d3 : decide (4096 < p.rn) = true := decide_eq_true e3
    have d4 : decide ((4096 : Int) < (p.rn : Int)) = true := decide_eq_true (by omega)
    go_wp2_with fail
    go_ret
    exact retB_end HE.out.symm hPb
  have d3 : decide (4096 < p.rn) = false := decide_eq_false e3
  have d4 : decide ((4096 : Int) < (p.rn : Int)) = false := decide_eq_false (by omega)
  by_cases e4 : FormV p.obj.ts p.obj.k p.vars
  rotate_left
  · have HE : Hid (decide (PV p) = false) := decide_eq_false (fun h => e4 h.obj)
    have HD := Lib.hid (decide_eq_false e4)
    clear e4
    go_wp2_with fail
    refine (fd_fvalid HF.out.obj go).mono ?_
    rintro e w5 ⟨rfl, hb5⟩
    rw [HD.out]
    go_wp2_with fail
    go_ret
    exact retB_end HE.out.symm (hPb.trans (hb5.mono (by have := HPS.out; omega)))
  have HD := Lib.hid (decide_eq_true e4)
  have HO := Lib.hid e4
  clear e4
  go_wp2_with fail
  refine (fd_fvalid HF.out.obj go).mono ?_
  rintro e w5 ⟨rfl, hb5⟩
  rw [HD.out]
  obtain ⟨hc5, hf5⟩ := bcell hb5
  go_wp2_with fail
  go_loopw [3] (fun s10 wr => ∃ i, i ≤ p.rn ∧ s10 = .int .i64 (i : Nat) ∧ Hid (∀ (j : Nat) (f : FD), j < i → p.rows[j]? = some f → FormV f.ts f.k p.vars) ∧ Below W.heap.size W wr) (fun i _ => p.rn - (intOf i).toNat)
  case atStart => exact ⟨0, by omega, rfl, (fun j t hj => by omega : ∀ (j : Nat) (f : FD), j < 0 → p.rows[j]? = some f → FormV f.ts f.k p.vars), hb5⟩
  case round =>
    clear hb5 hc5 hf5
    obtain ⟨i, hi, rfl, HI, hb⟩ := hrel
    obtain ⟨hcr, hfr⟩ := bcell hb
    have zr := Nat.lt_of_lt_of_le z0 hb.size
    by_cases hlt : i < p.rn
    · obtain ⟨b, o, f, rfl, hbl, HR, gf, r0, r1, r2, r3⟩ := gr.at_ hlt
      have gfr := gf.on hb
      have zb := Nat.lt_of_lt_of_le hbl hb.size
      have HFF := Lib.hid (HF.out.rows i f HR.out)
      by_cases e5 : FormV f.ts f.k p.vars
      · have HN := Lib.hid e5
        have HD5 := Lib.hid (decide_eq_true e5)
        clear e5
        go_upto_region 6 with (fail)
        have HC : ∀ x : Up wr, Calls Tryz.prog 56 #[.agg #[.slice f.ad f.n f.c, .bool f.k.neg, .slice f.k.a1 f.k.n1 f.k.c1, .slice f.k.a2 f.k.n2 f.k.c2], .int .i64 p.vars] x.w (RetB true x.w) := fun x => by rw [← HD5.out]; exact fd_fvalid HFF.out (gfr.on x.below)
        have HC := Lib.hid HC
        obtain ⟨hcx, hfx⟩ := upcell wr
        refine wp_region_up (by kernel_rfl) (by kernel_rfl) ?_
        repeat (go_big_quiet_step ((go_at_call 56; exact up_b (HC.out _))))
        refine wpQuiet_nil ?_
        intro x
        have hbx := x.below
        go_wp2_with fail
        go_roundw
        case rel => exact ⟨i + 1, by omega, by go_num, (fun j' t' hj' ht' => (Nat.lt_or_ge j' i).elim (fun h9 => HI.out j' t' h9 ht') (fun h9 => by have e9 : j' = i := (by omega); rw [e9] at ht'; have := HR.out.symm.trans ht'; cases this; exact HN.out) : ∀ (j : Nat) (f : FD), j < i + 1 → p.rows[j]? = some f → FormV f.ts f.k p.vars), hb.trans (hbx.mono hb.size)⟩
        case measure => simp [intOf]; omega
      · have HE : Hid (decide (PV p) = false) := decide_eq_false (fun h => e5 (h.rows i f HR.out))
        have HD5 := Lib.hid (decide_eq_false e5)
        clear e5
        go_upto_region 6 with (fail)
        have HC : ∀ x : Up wr, Calls Tryz.prog 56 #[.agg #[.slice f.ad f.n f.c, .bool f.k.neg, .slice f.k.a1 f.k.n1 f.k.c1, .slice f.k.a2 f.k.n2 f.k.c2], .int .i64 p.vars] x.w (RetB false x.w) := fun x => by rw [← HD5.out]; exact fd_fvalid HFF.out (gfr.on x.below)
        have HC := Lib.hid HC
        obtain ⟨hcx, hfx⟩ := upcell wr
        refine wp_region_up (by kernel_rfl) (by kernel_rfl) ?_
        repeat (go_big_quiet_step ((go_at_call 56; exact up_b (HC.out _))))
        refine wpQuiet_nil ?_
        intro x
        have hbx := x.below
        go_wp2_with fail
        go_ret
        exact retB_end HE.out.symm (hPb.trans ((hb.trans (hbx.mono hb.size)).mono (by have := HPS.out; omega)))
    · have e : i = p.rn := by omega
      have HE : Hid (decide (PV p) = true) := decide_eq_true ⟨by omega, by omega, by omega, HO.out, fun j f hj => HI.out j f (by have := (List.getElem?_eq_some_iff.1 hj).1; have := HL.out; omega) hj⟩
      have d5 : decide (i < p.rn) = false := decide_eq_false (by omega)
      have d6 : decide ((i : Int) < (p.rn : Int)) = false := decide_eq_false (by omega)
      clear e
      go_wp2_with fail
      go_ret
      exact retB_end HE.out.symm (hPb.trans (hb.mono (by have := HPS.out; omega)))
theorem fpvalid_any (w : World) (p : PD) (h : p.In w) (hf : FewP p) :
    Calls Tryz.prog 25 #[.agg #[.int .i64 p.vars, .slice p.ra p.rn p.rc, .slice p.obj.ad p.obj.n p.obj.c, .bool p.obj.k.neg, .slice p.obj.k.a1 p.obj.k.n1 p.obj.k.c1, .slice p.obj.k.a2 p.obj.k.n2 p.obj.k.c2]] w (RetB (decide (PV p)) w) := fpvalid_any_aux w p p.ra h.rows h.obj hf
end Go.Proofs.YtledagemcknlcaaGreat
namespace Go.Proofs.YtledagemcknlcaaGreat
open Go.RowKit

/-- few terms, at most m limbs -/
structure LimF (m : Nat) (f : FD) : Prop where
  n : f.n ≤ 65536
  ts : ∀ (i : Nat) (t : TD), f.ts[i]? = some t → Few m t.c
  k : Few m f.k
structure LimP (m : Nat) (p : PD) : Prop where
  obj : LimF m p.obj
  rows : ∀ (i : Nat) (f : FD), p.rows[i]? = some f → LimF m f
theorem LimF.few {m : Nat} {f : FD} (h : LimF m f) (hm : m ≤ 65535) : FewF f :=
  ⟨Nat.le_trans h.n (by omega), fun i t ht => ⟨Nat.le_trans (h.ts i t ht).1 (by omega), Nat.le_trans (h.ts i t ht).2 (by omega)⟩, ⟨Nat.le_trans h.k.1 (by omega), Nat.le_trans h.k.2 (by omega)⟩⟩
theorem LimP.few {m : Nat} {p : PD} (h : LimP m p) (hm : m ≤ 65535) : FewP p := ⟨h.obj.few hm, fun i f hf => (h.rows i f hf).few hm⟩
theorem rd_H {r : RD} {w : World} {m : Nat} (h : r.In w) (ho : r.Ok) (hf : Few m r) : H r.q ≤ m + 1 := by
  have := (RD.ok_c h ho).H_le
  have := hf.1
  have := hf.2
  omega
theorem form_okT {f : FD} {w : World} {m : Nat} {vars : Int} (h : f.In w) (hl : LimF m f) (hv : FormV f.ts f.k vars) : OkT (m + 1) f.ts := fun i t ht =>
  ⟨(hv.1 i t ht).2.2.2.2, rd_H (h.terms.ok i t ht) (hv.1 i t ht).2.2.2.2 (hl.ts i t ht)⟩
theorem form_vars {f : FD} {vars : Int} {n : Nat} (hv : FormV f.ts f.k vars) (hn : (n : Int) = vars) : VarsIn f.ts n := fun i t ht =>
  ⟨(hv.1 i t ht).1, by have := (hv.1 i t ht).2.1; omega⟩
/-- the value of a form at a point -/
def fev (f : FD) (xs : List RD) : Rat := evN f.ts xs f.k.q f.n
theorem fd_eval {f : FD} {vars : Int} {m : Nat} {w : World} {xs : List RD} {ad2 : Option Addr} {n2 cc : Nat} (h : f.In w) (hl : LimF m f) (hm : m ≤ 65535) (hv : FormV f.ts f.k vars) (hx : PtR w ad2 n2 cc xs) (hox : OkP (m + 1) xs) (hn : (n2 : Int) = vars) (hn2 : n2 ≤ 17592186044416) :
    Calls Tryz.prog 52 #[.agg #[.slice f.ad f.n f.c, .bool f.k.neg, .slice f.k.a1 f.k.n1 f.k.c1, .slice f.k.a2 f.k.n2 f.k.c2], .slice ad2 n2 cc] w (RetRE (fev f xs) w) :=
  leval_c w h.terms h.const hx hl.n (m := m + 1) (by omega) (form_okT h hl hv) hv.2 (rd_H h.const hv.2 hl.k) hox (form_vars hv hn) hn2
theorem fev_H {f : FD} {vars : Int} {m : Nat} {w : World} {xs : List RD} (h : f.In w) (hl : LimF m f) (hm : m ≤ 65535) (hv : FormV f.ts f.k vars) (hox : OkP (m + 1) xs) : H (fev f xs) ≤ 274877906944 := by
  have h1 := evN_H (form_okT h hl hv) hox (rd_H h.const hv.2 hl.k) f.n
  have h2 : f.n * (2 * (m + 1) + 3) ≤ 65536 * (2 * 65536 + 3) := Nat.mul_le_mul hl.n (by omega)
  unfold fev
  omega
/-- the point is feasible -/
structure FeasS (p : PD) (xs : List RD) : Prop where
  pv : PV p
  len : (xs.length : Int) = p.vars
  rows : ∀ (i : Nat) (f : FD), p.rows[i]? = some f → 0 ≤ sgR (fev f xs)
noncomputable instance (p : PD) (xs : List RD) : Decidable (FeasS p xs) := Classical.propDecidable _
/-- The call returns a rational number and an error. -/
def RetRX (q : Rat) (k : Int) (w : World) (e : Ending) (w' : World) : Prop :=
  ∃ neg a1 n1 c1 a2 n2 c2, e = .returned (.tuple #[.agg #[.bool neg, .slice a1 n1 c1, .slice a2 n2 c2], .int .i64 k]) ∧ RatC w' neg a1 n1 c1 a2 n2 c2 q ∧ Below w.heap.size w w'
open Classical in
noncomputable def valQ (p : PD) (xs : List RD) : Rat := if PV p ∧ (xs.length : Int) = p.vars then fev p.obj xs else 0
open Classical in
noncomputable def valE (p : PD) (xs : List RD) : Int := if PV p then if (xs.length : Int) = p.vars then 0 else 2 else 1

set_option maxRecDepth 100000 in
set_option maxHeartbeats 6400000 in
theorem pfeas_c_aux (w : World) (p : PD) (ra : Option Addr) {m : Nat} {xs : List RD} {ad2 : Option Addr} {n2 cc : Nat} (hra : p.ra = ra) (hp : p.In w) (hl : LimP m p) (hm : m ≤ 65535) (hx : PtR w ad2 n2 cc xs) (hox : OkP (m + 1) xs) (hn2 : n2 ≤ 17592186044416) :
    Calls Tryz.prog 15 #[.agg #[.int .i64 p.vars, .slice ra p.rn p.rc, .slice p.obj.ad p.obj.n p.obj.c, .bool p.obj.k.neg, .slice p.obj.k.a1 p.obj.k.n1 p.obj.k.c1, .slice p.obj.k.a2 p.obj.k.n2 p.obj.k.c2], .slice ad2 n2 cc] w (RetB (decide (FeasS p xs)) w) := by
  have HVC : Hid (∀ w', p.In w' → Calls Tryz.prog 20 #[.agg #[.int .i64 p.vars, .slice ra p.rn p.rc, .slice p.obj.ad p.obj.n p.obj.c, .bool p.obj.k.neg, .slice p.obj.k.a1 p.obj.k.n1 p.obj.k.c1, .slice p.obj.k.a2 p.obj.k.n2 p.obj.k.c2]] w' (RetB (decide (PV p)) w')) := fun w' h => by rw [← hra]; exact pvalid_any w' p h (hl.few hm)
  have hP := Pro1.mk' w #[.int .i64 p.vars, .slice ra p.rn p.rc, .slice p.obj.ad p.obj.n p.obj.c, .bool p.obj.k.neg, .slice p.obj.k.a1 p.obj.k.n1 p.obj.k.c1, .slice p.obj.k.a2 p.obj.k.n2 p.obj.k.c2] 31
  go_enter Tryz.func15, Tryz.ntmps15
  go_upto_region 1 with (fail)
  generalize w.alloc (.cells #[.int .i64 p.vars, .slice ra p.rn p.rc, .slice p.obj.ad p.obj.n p.obj.c, .bool p.obj.k.neg, .slice p.obj.k.a1 p.obj.k.n1 p.obj.k.c1, .slice p.obj.k.a2 p.obj.k.n2 p.obj.k.c2] 31) = W at *
  have k00 := hP.b0.cell 0
  have k01 := hP.b0.cell 1
  have k02 := hP.b0.cell 2
  have k03 := hP.b0.cell 3
  have k04 := hP.b0.cell 4
  have k05 := hP.b0.cell 5
  simp at k00 k01 k02 k03 k04 k05
  have z0 := hP.b0.lt
  have hPb := hP.below
  have HPS := Lib.hid hP.size
  have HL := Lib.hid hl
  have HX := Lib.hid hox
  have HXL := Lib.hid hx.len
  have pW := hp.on hPb
  have xW := hx.on hPb
  have gr : RowsR W ra p.rn p.rc p.rows := by rw [← hra]; exact pW.rows
  have HRL := Lib.hid gr.len
  clear hP hp hl hx hox hra
  by_cases e1 : PV p
  rotate_left
  · have HE : Hid (decide (FeasS p xs) = false) := decide_eq_false (fun h => e1 h.pv)
    have HD := Lib.hid (decide_eq_false e1)
    clear e1
    go_wp2_with fail
    refine (HVC.out W pW).mono ?_
    rintro e w5 ⟨rfl, hb5⟩
    rw [HD.out]
    go_wp2_with fail
    go_ret
    exact retB_end HE.out.symm (hPb.trans (hb5.mono (by have := HPS.out; omega)))
  have HD := Lib.hid (decide_eq_true e1)
  have HPV := Lib.hid e1
  have hrn : p.rn ≤ 4096 := e1.rn
  clear e1
  go_wp2_with fail
  refine (HVC.out W pW).mono ?_
  rintro e w5 ⟨rfl, hb5⟩
  rw [HD.out]
  obtain ⟨hc5, hf5⟩ := bcell hb5
  by_cases e2 : (n2 : Int) = p.vars
  rotate_left
  · have HE : Hid (decide (FeasS p xs) = false) := decide_eq_false (fun h => e2 (by have := h.len; have := HXL.out; omega))
    have d2 : ((n2 : Int) != p.vars) = true := by simp; exact e2
    clear e2
    go_wp2_with fail
    go_ret
    exact retB_end HE.out.symm (hPb.trans (hb5.mono (by have := HPS.out; omega)))
  have d2 : ((n2 : Int) != p.vars) = false := by simp; exact e2
  have HE2 := Lib.hid e2
  clear e2
  go_wp2_with fail
  go_loopw [22] (fun s10 wr => ∃ i, i ≤ p.rn ∧ s10 = .int .i64 (i : Nat) ∧ Hid (∀ (j : Nat) (f : FD), j < i → p.rows[j]? = some f → 0 ≤ sgR (fev f xs)) ∧ Below W.heap.size W wr) (fun i _ => p.rn - (intOf i).toNat)
  case atStart => exact ⟨0, by omega, rfl, (fun j t hj => by omega : ∀ (j : Nat) (f : FD), j < 0 → p.rows[j]? = some f → 0 ≤ sgR (fev f xs)), hb5⟩
  case round =>
    clear hb5 hc5 hf5
    obtain ⟨i, hi, rfl, HI, hb⟩ := hrel
    obtain ⟨hcr, hfr⟩ := bcell hb
    have zr := Nat.lt_of_lt_of_le z0 hb.size
    by_cases hlt : i < p.rn
    · obtain ⟨b, o, f, rfl, hbl, HR, gf, r0, r1, r2, r3⟩ := gr.at_ hlt
      have zb := Nat.lt_of_lt_of_le hbl hb.size
      have HFV := Lib.hid (HPV.out.rows i f HR.out)
      have HLF := Lib.hid (HL.out.rows i f HR.out)
      have HHQ := Lib.hid (fev_H gf HLF.out hm HFV.out HX.out)
      go_upto_region 6 with (fail)
      have hQ := Pro1.mk' wr #[.slice f.ad f.n f.c, .bool f.k.neg, .slice f.k.a1 f.k.n1 f.k.c1, .slice f.k.a2 f.k.n2 f.k.c2] 29
      generalize wr.alloc (.cells #[.slice f.ad f.n f.c, .bool f.k.neg, .slice f.k.a1 f.k.n1 f.k.c1, .slice f.k.a2 f.k.n2 f.k.c2] 29) = U at *
      have u0 := hQ.b0.cell 0
      have u1 := hQ.b0.cell 1
      have u2 := hQ.b0.cell 2
      have u3 := hQ.b0.cell 3
      simp at u0 u1 u2 u3
      have hbU := hb.trans (hQ.below.mono hb.size)
      obtain ⟨hcU, hfU⟩ := bcell hbU
      have gfU := gf.on hbU
      have xU := xW.on hbU
      clear hQ
      go_wp2_with fail
      refine (fd_eval gfU HLF.out hm HFV.out xU HX.out HE2.out hn2).mono ?_
      rintro e w6 ⟨s6, a6, n6, c6, a7, n7, c7, rfl, g6, hb6⟩
      have hbx := hbU.trans (hb6.mono hbU.size)
      obtain ⟨hcx, hfx⟩ := bcell hbx
      go_upto_region 7 with (fail)
      have hV := Pro1.mk' w6 #[.bool s6, .slice a6 n6 c6, .slice a7 n7 c7] 27
      generalize w6.alloc (.cells #[.bool s6, .slice a6 n6 c6, .slice a7 n7 c7] 27) = V at *
      have v0 := hV.b0.cell 0
      have v1 := hV.b0.cell 1
      have v2 := hV.b0.cell 2
      simp at v0 v1 v2
      have g7 := g6.on hV.below
      have hbV := hbx.trans (hV.below.mono hbx.size)
      obtain ⟨hcV, hfV⟩ := bcell hbV
      clear hV
      go_wp2_with fail
      refine (rsign_c V g7 HHQ.out).mono ?_
      rintro e w8 ⟨rfl, hb8⟩
      have hb9 := hbV.trans (hb8.mono hbV.size)
      by_cases e5 : sgR (fev f xs) < 0
      · have HE : Hid (decide (FeasS p xs) = false) := decide_eq_false (fun h => by have := h.rows i f HR.out; omega)
        have d5 : decide (sgR (fev f xs) < 0) = true := decide_eq_true e5
        clear e5
        go_wp2_with fail
        go_ret
        exact retB_end HE.out.symm (hPb.trans (hb9.mono (by have := HPS.out; omega)))
      · have HN : Hid (0 ≤ sgR (fev f xs)) := Int.not_lt.1 e5
        have d5 : decide (sgR (fev f xs) < 0) = false := decide_eq_false e5
        clear e5
        go_wp2_with fail
        go_roundw
        case rel => exact ⟨i + 1, by omega, by go_num, (fun j' t' hj' ht' => (Nat.lt_or_ge j' i).elim (fun h9 => HI.out j' t' h9 ht') (fun h9 => by have e9 : j' = i := (by omega); rw [e9] at ht'; have := HR.out.symm.trans ht'; cases this; exact HN.out) : ∀ (j : Nat) (f : FD), j < i + 1 → p.rows[j]? = some f → 0 ≤ sgR (fev f xs)), hb9⟩
        case measure => simp [intOf]; omega
    · have e : i = p.rn := by omega
      have HE : Hid (decide (FeasS p xs) = true) := decide_eq_true ⟨HPV.out, by have := HXL.out; have := HE2.out; omega, fun j f hj => HI.out j f (by have := (List.getElem?_eq_some_iff.1 hj).1; have := HRL.out; omega) hj⟩
      have d5 : decide (i < p.rn) = false := decide_eq_false (by omega)
      have d6 : decide ((i : Int) < (p.rn : Int)) = false := decide_eq_false (by omega)
      clear e
      go_wp2_with fail
      go_ret
      exact retB_end HE.out.symm (hPb.trans (hb.mono (by have := HPS.out; omega)))
theorem pfeas_c (w : World) (p : PD) {m : Nat} {xs : List RD} {ad2 : Option Addr} {n2 cc : Nat} (hp : p.In w) (hl : LimP m p) (hm : m ≤ 65535) (hx : PtR w ad2 n2 cc xs) (hox : OkP (m + 1) xs) (hn2 : n2 ≤ 17592186044416) :
    Calls Tryz.prog 15 #[.agg #[.int .i64 p.vars, .slice p.ra p.rn p.rc, .slice p.obj.ad p.obj.n p.obj.c, .bool p.obj.k.neg, .slice p.obj.k.a1 p.obj.k.n1 p.obj.k.c1, .slice p.obj.k.a2 p.obj.k.n2 p.obj.k.c2], .slice ad2 n2 cc] w (RetB (decide (FeasS p xs)) w) := pfeas_c_aux w p p.ra rfl hp hl hm hx hox hn2

set_option maxRecDepth 100000 in
set_option maxHeartbeats 6400000 in
theorem pvalue_c (w : World) (p : PD) {m : Nat} {xs : List RD} {ad2 : Option Addr} {n2 cc : Nat} (hp : p.In w) (hl : LimP m p) (hm : m ≤ 65535) (hx : PtR w ad2 n2 cc xs) (hox : OkP (m + 1) xs) (hn2 : n2 ≤ 17592186044416) :
    Calls Tryz.prog 16 #[.agg #[.int .i64 p.vars, .slice p.ra p.rn p.rc, .slice p.obj.ad p.obj.n p.obj.c, .bool p.obj.k.neg, .slice p.obj.k.a1 p.obj.k.n1 p.obj.k.c1, .slice p.obj.k.a2 p.obj.k.n2 p.obj.k.c2], .slice ad2 n2 cc] w (RetRX (valQ p xs) (valE p xs) w) := by
  have HVC : Hid (∀ w', p.In w' → Calls Tryz.prog 20 #[.agg #[.int .i64 p.vars, .slice p.ra p.rn p.rc, .slice p.obj.ad p.obj.n p.obj.c, .bool p.obj.k.neg, .slice p.obj.k.a1 p.obj.k.n1 p.obj.k.c1, .slice p.obj.k.a2 p.obj.k.n2 p.obj.k.c2]] w' (RetB (decide (PV p)) w')) := fun w' h => pvalid_any w' p h (hl.few hm)
  have hP := Pro2.mk' w #[.int .i64 p.vars, .slice p.ra p.rn p.rc, .slice p.obj.ad p.obj.n p.obj.c, .bool p.obj.k.neg, .slice p.obj.k.a1 p.obj.k.n1 p.obj.k.c1, .slice p.obj.k.a2 p.obj.k.n2 p.obj.k.c2] #[.bool false, .slice none 0 0, .slice none 0 0] 31 27
  go_enter Tryz.func16, Tryz.ntmps16
  go_upto_region 1 with (fail)
  generalize (w.alloc (.cells #[.int .i64 p.vars, .slice p.ra p.rn p.rc, .slice p.obj.ad p.obj.n p.obj.c, .bool p.obj.k.neg, .slice p.obj.k.a1 p.obj.k.n1 p.obj.k.c1, .slice p.obj.k.a2 p.obj.k.n2 p.obj.k.c2] 31)).alloc (.cells #[.bool false, .slice none 0 0, .slice none 0 0] 27) = W at *
  have k00 := hP.b0.cell 0
  have k01 := hP.b0.cell 1
  have k02 := hP.b0.cell 2
  have k03 := hP.b0.cell 3
  have k04 := hP.b0.cell 4
  have k05 := hP.b0.cell 5
  simp at k00 k01 k02 k03 k04 k05
  have z0 := hP.b0.lt
  have hR := hP.b1
  have hPb := hP.below
  have HPS := Lib.hid hP.size
  have HL := Lib.hid hl
  have HX := Lib.hid hox
  have HXL := Lib.hid hx.len
  have pW := hp.on hPb
  have xW := hx.on hPb
  clear hP hp hl hx hox
  go_wp2_with fail
  refine (HVC.out W pW).mono ?_
  rintro e w5 ⟨rfl, hb5⟩
  obtain ⟨hc5, hf5⟩ := bcell hb5
  have hw5 : Below w.heap.size w w5 := hPb.trans (hb5.mono (by have := HPS.out; omega))
  have hRX := hR.on hb5
  have k1 := hRX.cell 0
  have k2 := hRX.cell 1
  have k3 := hRX.cell 2
  have k4 := hRX.frozen 0
  have k5 := hRX.frozen 1
  have k6 := hRX.frozen 2
  have k7 := hRX.lt
  simp at k1 k2 k3
  by_cases e1 : PV p
  rotate_left
  · have HQ : Hid (valQ p xs = 0 ∧ valE p xs = 1) := ⟨if_neg (fun h => e1 h.1), if_neg e1⟩
    rw [decide_eq_false e1]
    clear e1
    go_wp2_with fail
    exact bodyPost_ret (v := .tuple #[.agg #[.bool false, .slice none 0 0, .slice none 0 0], .int .i64 1]) (by simp [results, Tryz.results16, go_sem, *]) rfl
      (by rw [HQ.out.1, HQ.out.2]; exact ⟨_, _, _, _, _, _, _, rfl, (ratC_zero _).inR hRX _ _ _, below_box27 hw5 (by omega) _ _ _⟩)
  rw [decide_eq_true e1]
  by_cases e2 : (n2 : Int) = p.vars
  rotate_left
  · have HQ : Hid (valQ p xs = 0 ∧ valE p xs = 2) := ⟨if_neg (fun h => e2 (by have := h.2; have := HXL.out; omega)), by unfold valE; rw [if_pos e1, if_neg (fun h => e2 (by have := HXL.out; omega))]⟩
    have d2 : ((n2 : Int) != p.vars) = true := by simp; exact e2
    clear e1 e2
    go_wp2_with fail
    exact bodyPost_ret (v := .tuple #[.agg #[.bool false, .slice none 0 0, .slice none 0 0], .int .i64 2]) (by simp [results, Tryz.results16, go_sem, *]) rfl
      (by rw [HQ.out.1, HQ.out.2]; exact ⟨_, _, _, _, _, _, _, rfl, (ratC_zero _).inR hRX _ _ _, below_box27 hw5 (by omega) _ _ _⟩)
  have d2 : ((n2 : Int) != p.vars) = false := by simp; exact e2
  have HQ : Hid (valQ p xs = fev p.obj xs ∧ valE p xs = 0) := ⟨if_pos ⟨e1, by have := HXL.out; omega⟩, by unfold valE; rw [if_pos e1, if_pos (by have := HXL.out; omega)]⟩
  have HE2 := Lib.hid e2
  have HFV := Lib.hid e1.obj
  clear e1 e2
  clear k1 k2 k3 k4 k5 k6 k7
  go_wp2_with fail
  refine (fd_eval (pW.obj.on hb5) HL.out.obj hm HFV.out (xW.on hb5) HX.out HE2.out hn2).mono ?_
  rintro e w6 ⟨s6, a6, n6, c6, a7, n7, c7, rfl, g6, hb6⟩
  have hw6 : Below w.heap.size w w6 := hw5.trans (hb6.mono hw5.size)
  have hV := Pro1.mk' w6 #[.bool s6, .slice a6 n6 c6, .slice a7 n7 c7] 27
  have hRX := (hRX.on hb6).on hV.below
  have g7 := g6.on hV.below
  have hw7 := hw6.trans (hV.below.mono hw6.size)
  go_upto_region 6 with (fail)
  generalize w6.alloc (.cells #[.bool s6, .slice a6 n6 c6, .slice a7 n7 c7] 27) = V at *
  have v0 := hV.b0.cell 0
  have v1 := hV.b0.cell 1
  have v2 := hV.b0.cell 2
  simp at v0 v1 v2
  clear hV
  have k1 := hRX.cell 0
  have k2 := hRX.cell 1
  have k3 := hRX.cell 2
  have k4 := hRX.frozen 0
  have k5 := hRX.frozen 1
  have k6 := hRX.frozen 2
  have k7 := hRX.lt
  simp at k1 k2 k3
  go_wp2_with fail
  exact bodyPost_ret (v := .tuple #[.agg #[.bool s6, .slice a6 n6 c6, .slice a7 n7 c7], .int .i64 0]) (by simp [results, Tryz.results16, go_sem, *]) rfl
    (by rw [HQ.out.1, HQ.out.2]; exact ⟨_, _, _, _, _, _, _, rfl, g7.inR hRX _ _ _, below_box27 hw7 (by omega) _ _ _⟩)

end Go.Proofs.YtledagemcknlcaaGreat
namespace Go.Proofs.YtledagemcknlcaaGreat
open Go.RowKit

/-- canonical numbers of few limbs -/
structure OkFD (m : Nat) (f : FD) : Prop where
  ts : OkT m f.ts
  k : f.k.Ok
  kH : H f.k.q ≤ m
  n : f.n ≤ 65536
theorem form_ok {f : FD} {w : World} {m : Nat} {vars : Int} (h : f.In w) (hl : LimF m f) (hv : FormV f.ts f.k vars) : OkFD (m + 1) f := ⟨form_okT h hl hv, hv.2, rd_H h.const hv.2 hl.k, hl.n⟩
theorem coefT_H {ts : List TD} {m : Nat} (h : OkT m ts) (v : Int) : H (coefT ts v) ≤ m + 1 := by
  induction ts with
  | nil => rw [coefT, H_zero]; omega
  | cons t ts ih =>
    rw [coefT]
    split
    · have := (h 0 t rfl).2; omega
    · exact ih h.tail

set_option maxRecDepth 100000 in
set_option maxHeartbeats 800000 in
theorem dual2_c (w : World) {f : FD} {m : Nat} (h : f.In w) (ho : OkFD m f) :
    Calls Tryz.prog 29 #[.agg #[.slice f.ad f.n f.c, .bool f.k.neg, .slice f.k.a1 f.k.n1 f.k.c1, .slice f.k.a2 f.k.n2 f.k.c2]] w (RetR f.k.q w) := by
  have hP := Pro2.mk' w #[.slice f.ad f.n f.c, .bool f.k.neg, .slice f.k.a1 f.k.n1 f.k.c1, .slice f.k.a2 f.k.n2 f.k.c2] #[.bool false, .slice none 0 0, .slice none 0 0] 29 27
  have hk := RD.ok_c (h.const.on hP.below) ho.k
  go_enter Tryz.func29, Tryz.ntmps29
  go_upto_region 1 with (fail)
  generalize (w.alloc (.cells #[.slice f.ad f.n f.c, .bool f.k.neg, .slice f.k.a1 f.k.n1 f.k.c1, .slice f.k.a2 f.k.n2 f.k.c2] 29)).alloc (.cells #[.bool false, .slice none 0 0, .slice none 0 0] 27) = W at *
  have k00 := hP.b0.cell 0
  have k01 := hP.b0.cell 1
  have k02 := hP.b0.cell 2
  have k03 := hP.b0.cell 3
  have hR := hP.b1
  have k1 := hR.cell 0
  have k2 := hR.cell 1
  have k3 := hR.cell 2
  have k4 := hR.frozen 0
  have k5 := hR.frozen 1
  have k6 := hR.frozen 2
  have k7 := hR.lt
  have hPb := hP.below
  simp at k00 k01 k02 k03 k1 k2 k3
  clear hP
  go_wp2_with fail
  exact bodyPost_ret (v := .agg #[.bool f.k.neg, .slice f.k.a1 f.k.n1 f.k.c1, .slice f.k.a2 f.k.n2 f.k.c2]) (by simp [results, Tryz.results29, go_sem, *]) rfl
    ⟨_, _, _, _, _, _, _, rfl, RatC.inR hk hR _ _ _, below_box27 hPb (by omega) _ _ _⟩

set_option maxRecDepth 100000 in
set_option maxHeartbeats 800000 in
theorem dual3_c (w : World) {f : FD} {m : Nat} {jb : Nat} {j : Int} (h : f.In w) (ho : OkFD m f) (hm : m ≤ 274877906944) (hj : w.cell? ⟨jb, 0, none⟩ = some (.int .i64 j)) (hjb : jb < w.heap.size) :
    Calls Tryz.prog 32 #[.agg #[.slice f.ad f.n f.c, .bool f.k.neg, .slice f.k.a1 f.k.n1 f.k.c1, .slice f.k.a2 f.k.n2 f.k.c2], .pointer (some ⟨jb, 0, none⟩)] w (RetR (coefT f.ts j) w) := by
  have hP := Pro2.mk' w #[.slice f.ad f.n f.c, .bool f.k.neg, .slice f.k.a1 f.k.n1 f.k.c1, .slice f.k.a2 f.k.n2 f.k.c2] #[.bool false, .slice none 0 0, .slice none 0 0] 29 27
  have hf := h.on hP.below
  have HO := Lib.hid ho
  have HN := Lib.hid ho.n
  clear ho
  go_enter Tryz.func32, Tryz.ntmps32
  go_upto_region 1 with (fail)
  generalize (w.alloc (.cells #[.slice f.ad f.n f.c, .bool f.k.neg, .slice f.k.a1 f.k.n1 f.k.c1, .slice f.k.a2 f.k.n2 f.k.c2] 29)).alloc (.cells #[.bool false, .slice none 0 0, .slice none 0 0] 27) = W at *
  have k00 := hP.b0.cell 0
  have k01 := hP.b0.cell 1
  have k02 := hP.b0.cell 2
  have k03 := hP.b0.cell 3
  have hj' : W.cell? ⟨jb, 0, none⟩ = some (.int .i64 j) := (hP.below.cell (p := ⟨jb, 0, none⟩) hjb).trans hj
  have hR := hP.b1
  have hPb := hP.below
  have HPS := Lib.hid hP.size
  simp at k00 k01 k02 k03
  clear hP hj
  go_wp2_with fail
  refine (lcoef_c W j hf.terms (by have := HN.out; omega) (fun i t ht => ⟨(HO.out.ts i t ht).1, by have := (HO.out.ts i t ht).2; omega⟩)).mono ?_
  rintro e w5 ⟨s5, a5, n5, c5, a6, n6, c6, rfl, g5, hb5⟩
  have hRX := hR.on hb5
  have k1 := hRX.cell 0
  have k2 := hRX.cell 1
  have k3 := hRX.cell 2
  have k4 := hRX.frozen 0
  have k5 := hRX.frozen 1
  have k6 := hRX.frozen 2
  have k7 := hRX.lt
  simp at k1 k2 k3
  go_wp2_with fail
  exact bodyPost_ret (v := .agg #[.bool s5, .slice a5 n5 c5, .slice a6 n6 c6]) (by simp [results, Tryz.results32, go_sem, *]) rfl
    ⟨_, _, _, _, _, _, _, rfl, g5.inR hRX _ _ _, below_box27 (hPb.trans (hb5.mono (by have := HPS.out; omega))) (by omega) _ _ _⟩

/-- a form under way -/
structure COut (w wr : World) (base B R m : Nat) (kq : Rat) (ado : Option Addr) (no co : Nat) (ts : List TD) (k : RD) : Prop where
  row : Row NotU wr base 52 4 (.slice ado no co) no (tcells ts)
  all : AllIn wr ts
  ok : OkT m ts
  box : Blk wr B 29 #[.slice ado no co, .bool k.neg, .slice k.a1 k.n1 k.c1, .slice k.a2 k.n2 k.c2]
  kin : k.C wr kq
  res : Blk wr R 29 #[.slice none 0 0, .bool false, .slice none 0 0, .slice none 0 0]
  below : Below w.heap.size w wr
  base_le : base ≤ wr.heap.size
  B_lt : B < base
  R_lt : R < base
  B_ge : w.heap.size ≤ B
  R_ge : w.heap.size ≤ R
  ne : R ≠ B
theorem COut.on {w wr w' : World} {base B R m : Nat} {kq : Rat} {ado : Option Addr} {no co : Nat} {ts : List TD} {k : RD} (h : COut w wr base B R m kq ado no co ts k) (hb : Below wr.heap.size wr w') : COut w w' base B R m kq ado no co ts k :=
  { h with row := h.row.on hb, all := fun i t ht => (h.all i t ht).on hb, box := h.box.on hb, kin := RatC.on h.kin hb, res := h.res.on hb, below := h.below.trans (hb.mono h.below.size), base_le := Nat.le_trans h.base_le hb.size }
theorem RatC.setB {w : World} {B : Nat} {t : TypeId} {cs : Array Value} {neg : Bool} {a1 a2 : Option Addr} {n1 c1 n2 c2 : Nat} {q : Rat} (h : RatC w neg a1 n1 c1 a2 n2 c2 q) (hB : Blk w B t cs) (hc : ∀ x ∈ cs, NotU x) (i : Nat) (u : Value) : RatC (w.setCell ⟨B, i, none⟩ u) neg a1 n1 c1 a2 n2 c2 q :=
  ⟨h.sign, h.num.setB hB hc i u, h.den.setB hB hc i u⟩
theorem OkT.snoc {m : Nat} {ts : List TD} {v : Int} {r : RD} (h : OkT m ts) (ho : r.Ok) (hq : H r.q ≤ m) : OkT m (ts ++ [⟨v, r⟩]) := by
  intro i t ht
  rcases Nat.lt_or_ge i ts.length with h1 | h1
  · rw [List.getElem?_append_left h1] at ht; exact h i t ht
  · rw [List.getElem?_append_right h1] at ht
    rcases Nat.eq_zero_or_pos (i - ts.length) with h2 | h2
    · rw [h2] at ht; simp at ht; subst ht; exact ⟨ho, hq⟩
    · rw [List.getElem?_eq_none (by simp; omega)] at ht; cases ht
theorem COut.app {w w5 w7 : World} {base B R m : Nat} {kq : Rat} {ado ad7 : Option Addr} {no co c7 : Nat} {ts : List TD} {k r : RD} {v : Int} (h : COut w w5 base B R m kq ado no co ts k) (hg : w5.grownBy w7 (Value.slice ado no co).ownBlock)
    (hr7 : Row NotU w7 base 52 4 (.slice ad7 (no + 1) c7) (no + 1) (tcells ts ++ [.int .i64 v, .bool r.neg, .slice r.a1 r.n1 r.c1, .slice r.a2 r.n2 r.c2])) (hr : r.In w5) (ho : r.Ok) (hH : H r.q ≤ m) :
    Blk w7 B 29 #[.slice ado no co, .bool k.neg, .slice k.a1 k.n1 k.c1, .slice k.a2 k.n2 k.c2] ∧ COut w (w7.setCell ⟨B, 0, none⟩ (.slice ad7 (no + 1) c7)) base B R m kq ad7 (no + 1) c7 (ts ++ [⟨v, r⟩]) k := by
  have hlt := fun g hg => (h.row.own.lt g hg).1
  have hlt' := fun g hg => (hr7.own.lt g hg).1
  have h1 := h.B_lt
  have h2 := h.R_lt
  have h3 := h.base_le
  have hfar : ∀ b, b < base → some b ≠ (Value.slice ado no co).ownBlock := fun b hb h9 => by have := hlt b h9.symm; omega
  have hne' : (Value.slice ad7 (no + 1) c7).ownBlock ≠ some B := fun h9 => by have := hlt' B h9; omega
  have hB6 := h.box.grown hg (hfar B h1)
  have hbel : Below base w5 w7 := h.row.below hg h3
  refine ⟨hB6, ?_⟩
  exact {
    row := by rw [tcells_append]; exact hr7.setc hne' _ _
    all := AllIn.snoc (fun i t ht => ((h.all i t ht).row h.row hg).setB hB6 notU_box 0 _) ((hr.row h.row hg).setB hB6 notU_box 0 _)
    ok := h.ok.snoc ho hH
    box := by simpa using hB6.set_ 0 (.slice ad7 (no + 1) c7)
    kin := RatC.setB (RatC.row h.kin h.row hg) hB6 notU_box 0 _
    res := (h.res.grown hg (hfar _ h2)).far (p := ⟨B, 0, none⟩) h.ne _
    below := (h.below.trans (hbel.mono (by have := h.B_ge; omega))).setCell (p := ⟨B, 0, none⟩) h.B_ge _
    base_le := by have := hbel.size; simp [World.setCell]; omega
    B_lt := h1
    R_lt := h2
    B_ge := h.B_ge
    R_ge := h.R_ge
    ne := h.ne }
theorem COut.fin {w wr : World} {base B R m : Nat} {kq : Rat} {ado : Option Addr} {no co : Nat} {ts : List TD} {k : RD} {F : List (Int × Rat)} (h : COut w wr base B R m kq ado no co ts k) (he : fm ts = F) :
    RetF m F kq w (.returned (.agg #[.slice ado no co, .bool k.neg, .slice k.a1 k.n1 k.c1, .slice k.a2 k.n2 k.c2]))
      ((((wr.setCell ⟨R, 0, none⟩ (.slice ado no co)).setCell ⟨R, 1, none⟩ (.bool k.neg)).setCell ⟨R, 2, none⟩ (.slice k.a1 k.n1 k.c1)).setCell ⟨R, 3, none⟩ (.slice k.a2 k.n2 k.c2)) := by
  have h2 := h.R_lt
  have hne : (Value.slice ado no co).ownBlock ≠ some R := fun h9 => by have := (h.row.own.lt _ h9).1; omega
  exact ⟨_, _, _, ts, k, rfl, (h.row.set4 hne _ _ _ _).terms (fun i t ht => (h.all i t ht).set4 h.res _ _ _ _ _ _ _ _ _ _), h.ok, he, RatC.set4 h.kin h.res _ _ _ _ _ _ _ _ _ _, below_set4 h.below h.R_ge _ _ _ _⟩
/-- the terms of the first i rows -/
def colN (g : FD → Rat) (rows : List FD) : Nat → List (Int × Rat)
  | 0 => []
  | i + 1 => colN g rows i ++ (rows[i]?.map fun f => put1 (i : Int) (g f)).getD []
theorem colN_step {g : FD → Rat} {rows : List FD} {i : Nat} {f : FD} (h : rows[i]? = some f) : colN g rows (i + 1) = colN g rows i ++ put1 (i : Int) (g f) := by rw [colN, h]; rfl

set_option maxRecDepth 100000 in
set_option maxHeartbeats 6400000 in
theorem dual1a_c (w : World) {s1 : Bool} {a1 a2 : Option Addr} {n1 n2 c1 c2 : Nat} {q0 : Rat} {pb : Nat} {ra : Option Addr} {rn rc : Nat} {rows : List FD} {m : Nat} 
    (hq : RatC w s1 a1 n1 c1 a2 n2 c2 q0) (hp : w.cell? ⟨pb, 1, none⟩ = some (.slice ra rn rc)) (hpb : pb < w.heap.size) (hr : RowsR w ra rn rc rows) (hrn : rn ≤ 4096) (ho : ∀ (i : Nat) (f : FD), rows[i]? = some f → OkFD m f) (hm : m ≤ 137438953472) :
    Calls Tryz.prog 26 #[.agg #[.bool s1, .slice a1 n1 c1, .slice a2 n2 c2], .func (.func 29) #[] #[], .pointer (some ⟨pb, 0, none⟩)] w (RetF (m + 1) (colN (fun f : FD => f.k.q) rows rn) q0 w) := by
  have hP := Pro3.mk' w #[.bool s1, .slice a1 n1 c1, .slice a2 n2 c2] #[.slice none 0 0, .bool false, .slice none 0 0, .slice none 0 0] #[.slice none 0 0, .bool s1, .slice a1 n1 c1, .slice a2 n2 c2] 27 29 29
  go_enter Tryz.func26, Tryz.ntmps26
  go_upto_region 2 with (fail)
  generalize ((w.alloc (.cells #[.bool s1, .slice a1 n1 c1, .slice a2 n2 c2] 27)).alloc (.cells #[.slice none 0 0, .bool false, .slice none 0 0, .slice none 0 0] 29)).alloc (.cells #[.slice none 0 0, .bool s1, .slice a1 n1 c1, .slice a2 n2 c2] 29) = W at *
  have HO := Lib.hid ho
  have HRL := Lib.hid hr.len
  have hp' : W.cell? ⟨pb, 1, none⟩ = some (.slice ra rn rc) := (hP.below.cell (p := ⟨pb, 1, none⟩) hpb).trans hp
  have hC0 : COut w W W.heap.size (w.heap.size + 1 + 1) (w.heap.size + 1) (m + 1) q0 none 0 0 [] (rdOf s1 a1 n1 c1 a2 n2 c2 q0) := {
    row := Row.nil _ _ _ _ _
    all := fun i t ht => by cases ht
    ok := fun i t ht => by cases ht
    box := hP.b2
    kin := hq.on hP.below
    res := hP.b1
    below := hP.below
    base_le := Nat.le_refl _
    B_lt := hP.b2.lt
    R_lt := hP.b1.lt
    B_ge := by omega
    R_ge := by omega
    ne := by omega }
  clear hP hp ho
  go_wp2_with fail
  go_loopw [15] (fun s15 wr => ∃ i ado no co ts k, i ≤ rn ∧ s15 = .int .i64 (i : Nat) ∧ COut w wr W.heap.size (w.heap.size + 1 + 1) (w.heap.size + 1) (m + 1) q0 ado no co ts k ∧ Hid (fm ts = colN (fun f : FD => f.k.q) rows i) ∧ no ≤ i) (fun i _ => rn - (intOf i).toNat)
  case atStart => exact ⟨0, _, _, _, [], _, by omega, rfl, hC0, rfl, by omega⟩
  case round =>
    clear hC0 hp'
    obtain ⟨i, ado, no, co, ts, k, hi, rfl, hC, HT, hno⟩ := hrel
    have hb := hC.below
    by_cases hlt : i < rn
    · obtain ⟨b, o, f, rfl, hbl, HR, gf, r0, r1, r2, r3⟩ := (hr.on hb).at_ hlt
      have HOF := Lib.hid (HO.out i f HR.out)
      go_upto_region 5 with (fail)
      have hQ := Pro1.mk' wr #[.slice f.ad f.n f.c, .bool f.k.neg, .slice f.k.a1 f.k.n1 f.k.c1, .slice f.k.a2 f.k.n2 f.k.c2] 29
      generalize wr.alloc (.cells #[.slice f.ad f.n f.c, .bool f.k.neg, .slice f.k.a1 f.k.n1 f.k.c1, .slice f.k.a2 f.k.n2 f.k.c2] 29) = U at *
      have u0 := hQ.b0.cell 0
      have u1 := hQ.b0.cell 1
      have u2 := hQ.b0.cell 2
      have u3 := hQ.b0.cell 3
      simp at u0 u1 u2 u3
      have hU := hQ.below
      have gfU := gf.on hU
      have hCU := hC.on hU
      clear hQ r0 r1 r2 r3
      go_wp2_with fail
      refine (dual2_c U gfU HOF.out).mono ?_
      rintro e w5 ⟨s5, a5, n5, c5, a6, n6, c6, rfl, g5, hb5⟩
      have hC5 := hCU.on hb5
      go_upto_region 6 with (fail)
      have hK := Pro1.mk' w5 #[.bool s5, .slice a5 n5 c5, .slice a6 n6 c6] 27
      generalize w5.alloc (.cells #[.bool s5, .slice a5 n5 c5, .slice a6 n6 c6] 27) = V at *
      have v0 := hK.b0.cell 0
      have v1 := hK.b0.cell 1
      have v2 := hK.b0.cell 2
      have hKB := hK.b0
      simp at v0 v1 v2
      have hCV := hC5.on hK.below
      have gV := g5.on hK.below
      have HQH := Lib.hid (show H f.k.q ≤ m + 1 from by have := HOF.out.kH; omega)
      clear hK
      go_wp2_with fail
      refine (rsign_c V gV (by have := HQH.out; omega)).mono ?_
      rintro e w8 ⟨rfl, hb8⟩
      have hC8 := hCV.on hb8
      have hKB8 := hKB.on hb8
      have v0 := hKB8.cell 0
      have v1 := hKB8.cell 1
      have v2 := hKB8.cell 2
      simp at v0 v1 v2
      have g8 := (gV.on hb8).rd
      by_cases h0 : (fun f : FD => f.k.q) f = 0
      · have es : (sgR ((fun f : FD => f.k.q) f) != 0) = false := by rw [h0]; rfl
        have HST : Hid (fm ts = colN (fun f : FD => f.k.q) rows (i + 1)) := by
          have h1 := HT.out
          have h2 := colN_step (g := (fun f : FD => f.k.q)) HR.out
          have h0' := h0
          dsimp only at h0' h2
          rw [h0'] at h2
          simp only [put1, if_true, List.append_nil] at h2
          exact h1.trans h2.symm
        clear h0
        go_wp2_with fail
        go_roundw
        case rel => exact ⟨i + 1, ado, no, co, ts, k, by omega, by go_num, hC8, HST, by omega⟩
        case measure => simp [intOf]; omega
      · have es : (sgR ((fun f : FD => f.k.q) f) != 0) = true := by simp; exact fun h9 => h0 (sgR_eq_zero.1 h9)
        have HST : Hid (fm (ts ++ [⟨(i : Int), rdOf s5 a5 n5 c5 a6 n6 c6 ((fun f : FD => f.k.q) f)⟩]) = colN (fun f : FD => f.k.q) rows (i + 1)) := by
          have h1 := HT.out
          have h2 := colN_step (g := (fun f : FD => f.k.q)) HR.out
          simp only [put1, if_neg h0] at h2
          have h3 : fm (ts ++ [⟨(i : Int), rdOf s5 a5 n5 c5 a6 n6 c6 ((fun f : FD => f.k.q) f)⟩]) = fm ts ++ [((i : Int), (fun f : FD => f.k.q) f)] := by
            have := g8.2.2
            simp [fm] at this ⊢
            exact this
          exact h3.trans (by rw [h1, h2])
        have H0 := Lib.hid h0
        clear h0
        have x0 := hC8.box.cell 0
        have xz := hC8.box.lt
        simp at x0
        obtain ⟨i0, hi0, hz0, hz1, hz2⟩ := info_parts Tryz.infoTerm
        have HI := Lib.hid (And.intro hi0 (And.intro hz0 (And.intro hz1 hz2)))
        clear hi0 hz0 hz1 hz2
        have hC9 := hC8.on ((Below.refl _ _).alloc (Nat.le_refl _) (.cells #[.int .i64 (i : Int), .bool s5, .slice a5 n5 c5, .slice a6 n6 c6] 52))
        have g9 := g8.1.on ((Below.refl _ _).alloc (Nat.le_refl _) (.cells #[.int .i64 (i : Int), .bool s5, .slice a5 n5 c5, .slice a6 n6 c6] 52))
        go_wp2_with (at_builtin; refine wpList_row _ rfl (.tmp 27) (.tmp 31) _ rfl W.heap.size 52 i0 (.agg #[.int .i64 0, .bool false, .slice none 0 0, .slice none 0 0]) 4 64 Tryz.underlying23 HI.out.1 HI.out.2.1 HI.out.2.2.1 HI.out.2.2.2 rfl (by omega) (.slice ado no co) no (tcells ts) rfl hC9.row ⟨w8.heap.size, 0, none⟩ 1 1 [.int .i64 (i : Int), .bool s5, .slice a5 n5 c5, .slice a6 n6 c6] rfl rfl (term_news _ _ _ _ _ _) (term_one _ _ _ _ _ _ _ _) (by simp only [maxLen]; omega) (by omega) hC9.base_le (by omega) term_zero (term_notU _ _ _ _ _ _ _ _) ?_; intro v7 w9 hr7 hg7 ho7; obtain ⟨ad7, c7, rfl⟩ := hr7.shape; obtain ⟨hB9, hC10⟩ := hC9.app (v := (i : Int)) (r := rdOf s5 a5 n5 c5 a6 n6 c6 ((fun f : FD => f.k.q) f)) hg7 hr7 g9 g8.2.1 (by rw [g8.2.2]; exact HQH.out); have y0 := hB9.cell 0; have y1 := hB9.frozen 0; have yz := hB9.lt; simp at y0)
        go_roundw
        case rel => exact ⟨i + 1, ad7, no + 1, c7, _, k, by omega, by go_num, hC10, HST, by omega⟩
        case measure => simp [intOf]; omega
    · have e : i = rn := by omega
      subst e
      have b0 := hC.box.cell 0
      have b1 := hC.box.cell 1
      have b2 := hC.box.cell 2
      have b3 := hC.box.cell 3
      have r0 := hC.res.cell 0
      have r1 := hC.res.cell 1
      have r2 := hC.res.cell 2
      have r3 := hC.res.cell 3
      have f0 := hC.res.frozen 0
      have f1 := hC.res.frozen 1
      have f2 := hC.res.frozen 2
      have f3 := hC.res.frozen 3
      have rz := hC.res.lt
      have HF := Lib.hid (hC.fin HT.out)
      simp at b0 b1 b2 b3 r0 r1 r2 r3
      go_wp2_with fail
      exact bodyPost_ret (v := .agg #[.slice ado no co, .bool k.neg, .slice k.a1 k.n1 k.c1, .slice k.a2 k.n2 k.c2]) (by simp [results, Tryz.results26, go_sem, *]) rfl HF.out

set_option maxRecDepth 100000 in
set_option maxHeartbeats 6400000 in
theorem dual1b_c (w : World) {s1 : Bool} {a1 a2 : Option Addr} {n1 n2 c1 c2 : Nat} {q0 : Rat} {pb : Nat} {ra : Option Addr} {rn rc : Nat} {rows : List FD} {m : Nat} {jb : Nat} {j : Int} (hj : w.cell? ⟨jb, 0, none⟩ = some (.int .i64 j)) (hjb : jb < w.heap.size)
    (hq : RatC w s1 a1 n1 c1 a2 n2 c2 q0) (hp : w.cell? ⟨pb, 1, none⟩ = some (.slice ra rn rc)) (hpb : pb < w.heap.size) (hr : RowsR w ra rn rc rows) (hrn : rn ≤ 4096) (ho : ∀ (i : Nat) (f : FD), rows[i]? = some f → OkFD m f) (hm : m ≤ 137438953472) :
    Calls Tryz.prog 26 #[.agg #[.bool s1, .slice a1 n1 c1, .slice a2 n2 c2], .func (.func 32) #[] #[.pointer (some ⟨jb, 0, none⟩)], .pointer (some ⟨pb, 0, none⟩)] w (RetF (m + 1) (colN (fun f : FD => coefT f.ts j) rows rn) q0 w) := by
  have hP := Pro3.mk' w #[.bool s1, .slice a1 n1 c1, .slice a2 n2 c2] #[.slice none 0 0, .bool false, .slice none 0 0, .slice none 0 0] #[.slice none 0 0, .bool s1, .slice a1 n1 c1, .slice a2 n2 c2] 27 29 29
  go_enter Tryz.func26, Tryz.ntmps26
  go_upto_region 2 with (fail)
  generalize ((w.alloc (.cells #[.bool s1, .slice a1 n1 c1, .slice a2 n2 c2] 27)).alloc (.cells #[.slice none 0 0, .bool false, .slice none 0 0, .slice none 0 0] 29)).alloc (.cells #[.slice none 0 0, .bool s1, .slice a1 n1 c1, .slice a2 n2 c2] 29) = W at *
  have HO := Lib.hid ho
  have HRL := Lib.hid hr.len
  have hp' : W.cell? ⟨pb, 1, none⟩ = some (.slice ra rn rc) := (hP.below.cell (p := ⟨pb, 1, none⟩) hpb).trans hp
  have hC0 : COut w W W.heap.size (w.heap.size + 1 + 1) (w.heap.size + 1) (m + 1) q0 none 0 0 [] (rdOf s1 a1 n1 c1 a2 n2 c2 q0) := {
    row := Row.nil _ _ _ _ _
    all := fun i t ht => by cases ht
    ok := fun i t ht => by cases ht
    box := hP.b2
    kin := hq.on hP.below
    res := hP.b1
    below := hP.below
    base_le := Nat.le_refl _
    B_lt := hP.b2.lt
    R_lt := hP.b1.lt
    B_ge := by omega
    R_ge := by omega
    ne := by omega }
  clear hP hp ho
  go_wp2_with fail
  go_loopw [15] (fun s15 wr => ∃ i ado no co ts k, i ≤ rn ∧ s15 = .int .i64 (i : Nat) ∧ COut w wr W.heap.size (w.heap.size + 1 + 1) (w.heap.size + 1) (m + 1) q0 ado no co ts k ∧ Hid (fm ts = colN (fun f : FD => coefT f.ts j) rows i) ∧ no ≤ i) (fun i _ => rn - (intOf i).toNat)
  case atStart => exact ⟨0, _, _, _, [], _, by omega, rfl, hC0, rfl, by omega⟩
  case round =>
    clear hC0 hp'
    obtain ⟨i, ado, no, co, ts, k, hi, rfl, hC, HT, hno⟩ := hrel
    have hb := hC.below
    by_cases hlt : i < rn
    · obtain ⟨b, o, f, rfl, hbl, HR, gf, r0, r1, r2, r3⟩ := (hr.on hb).at_ hlt
      have HOF := Lib.hid (HO.out i f HR.out)
      go_upto_region 5 with (fail)
      have hQ := Pro1.mk' wr #[.slice f.ad f.n f.c, .bool f.k.neg, .slice f.k.a1 f.k.n1 f.k.c1, .slice f.k.a2 f.k.n2 f.k.c2] 29
      generalize wr.alloc (.cells #[.slice f.ad f.n f.c, .bool f.k.neg, .slice f.k.a1 f.k.n1 f.k.c1, .slice f.k.a2 f.k.n2 f.k.c2] 29) = U at *
      have u0 := hQ.b0.cell 0
      have u1 := hQ.b0.cell 1
      have u2 := hQ.b0.cell 2
      have u3 := hQ.b0.cell 3
      simp at u0 u1 u2 u3
      have hU := hQ.below
      have gfU := gf.on hU
      have hCU := hC.on hU
      clear hQ r0 r1 r2 r3
      have hjU : U.cell? ⟨jb, 0, none⟩ = some (.int .i64 j) := (hCU.below.cell (p := ⟨jb, 0, none⟩) hjb).trans hj
      have HJU := Lib.hid hjU
      clear hjU
      go_wp2_with fail
      refine (dual3_c U gfU HOF.out (by omega) HJU.out (Nat.lt_of_lt_of_le hjb hCU.below.size)).mono ?_
      rintro e w5 ⟨s5, a5, n5, c5, a6, n6, c6, rfl, g5, hb5⟩
      have hC5 := hCU.on hb5
      go_upto_region 6 with (fail)
      have hK := Pro1.mk' w5 #[.bool s5, .slice a5 n5 c5, .slice a6 n6 c6] 27
      generalize w5.alloc (.cells #[.bool s5, .slice a5 n5 c5, .slice a6 n6 c6] 27) = V at *
      have v0 := hK.b0.cell 0
      have v1 := hK.b0.cell 1
      have v2 := hK.b0.cell 2
      have hKB := hK.b0
      simp at v0 v1 v2
      have hCV := hC5.on hK.below
      have gV := g5.on hK.below
      have HQH := Lib.hid (coefT_H HOF.out.ts j)
      clear hK
      go_wp2_with fail
      refine (rsign_c V gV (by have := HQH.out; omega)).mono ?_
      rintro e w8 ⟨rfl, hb8⟩
      have hC8 := hCV.on hb8
      have hKB8 := hKB.on hb8
      have v0 := hKB8.cell 0
      have v1 := hKB8.cell 1
      have v2 := hKB8.cell 2
      simp at v0 v1 v2
      have g8 := (gV.on hb8).rd
      by_cases h0 : (fun f : FD => coefT f.ts j) f = 0
      · have es : (sgR ((fun f : FD => coefT f.ts j) f) != 0) = false := by rw [h0]; rfl
        have HST : Hid (fm ts = colN (fun f : FD => coefT f.ts j) rows (i + 1)) := by
          have h1 := HT.out
          have h2 := colN_step (g := (fun f : FD => coefT f.ts j)) HR.out
          have h0' := h0
          dsimp only at h0' h2
          rw [h0'] at h2
          simp only [put1, if_true, List.append_nil] at h2
          exact h1.trans h2.symm
        clear h0
        go_wp2_with fail
        go_roundw
        case rel => exact ⟨i + 1, ado, no, co, ts, k, by omega, by go_num, hC8, HST, by omega⟩
        case measure => simp [intOf]; omega
      · have es : (sgR ((fun f : FD => coefT f.ts j) f) != 0) = true := by simp; exact fun h9 => h0 (sgR_eq_zero.1 h9)
        have HST : Hid (fm (ts ++ [⟨(i : Int), rdOf s5 a5 n5 c5 a6 n6 c6 ((fun f : FD => coefT f.ts j) f)⟩]) = colN (fun f : FD => coefT f.ts j) rows (i + 1)) := by
          have h1 := HT.out
          have h2 := colN_step (g := (fun f : FD => coefT f.ts j)) HR.out
          simp only [put1, if_neg h0] at h2
          have h3 : fm (ts ++ [⟨(i : Int), rdOf s5 a5 n5 c5 a6 n6 c6 ((fun f : FD => coefT f.ts j) f)⟩]) = fm ts ++ [((i : Int), (fun f : FD => coefT f.ts j) f)] := by
            have := g8.2.2
            simp [fm] at this ⊢
            exact this
          exact h3.trans (by rw [h1, h2])
        have H0 := Lib.hid h0
        clear h0
        have x0 := hC8.box.cell 0
        have xz := hC8.box.lt
        simp at x0
        obtain ⟨i0, hi0, hz0, hz1, hz2⟩ := info_parts Tryz.infoTerm
        have HI := Lib.hid (And.intro hi0 (And.intro hz0 (And.intro hz1 hz2)))
        clear hi0 hz0 hz1 hz2
        have hC9 := hC8.on ((Below.refl _ _).alloc (Nat.le_refl _) (.cells #[.int .i64 (i : Int), .bool s5, .slice a5 n5 c5, .slice a6 n6 c6] 52))
        have g9 := g8.1.on ((Below.refl _ _).alloc (Nat.le_refl _) (.cells #[.int .i64 (i : Int), .bool s5, .slice a5 n5 c5, .slice a6 n6 c6] 52))
        go_wp2_with (at_builtin; refine wpList_row _ rfl (.tmp 27) (.tmp 31) _ rfl W.heap.size 52 i0 (.agg #[.int .i64 0, .bool false, .slice none 0 0, .slice none 0 0]) 4 64 Tryz.underlying23 HI.out.1 HI.out.2.1 HI.out.2.2.1 HI.out.2.2.2 rfl (by omega) (.slice ado no co) no (tcells ts) rfl hC9.row ⟨w8.heap.size, 0, none⟩ 1 1 [.int .i64 (i : Int), .bool s5, .slice a5 n5 c5, .slice a6 n6 c6] rfl rfl (term_news _ _ _ _ _ _) (term_one _ _ _ _ _ _ _ _) (by simp only [maxLen]; omega) (by omega) hC9.base_le (by omega) term_zero (term_notU _ _ _ _ _ _ _ _) ?_; intro v7 w9 hr7 hg7 ho7; obtain ⟨ad7, c7, rfl⟩ := hr7.shape; obtain ⟨hB9, hC10⟩ := hC9.app (v := (i : Int)) (r := rdOf s5 a5 n5 c5 a6 n6 c6 ((fun f : FD => coefT f.ts j) f)) hg7 hr7 g9 g8.2.1 (by rw [g8.2.2]; exact HQH.out); have y0 := hB9.cell 0; have y1 := hB9.frozen 0; have yz := hB9.lt; simp at y0)
        go_roundw
        case rel => exact ⟨i + 1, ad7, no + 1, c7, _, k, by omega, by go_num, hC10, HST, by omega⟩
        case measure => simp [intOf]; omega
    · have e : i = rn := by omega
      subst e
      have b0 := hC.box.cell 0
      have b1 := hC.box.cell 1
      have b2 := hC.box.cell 2
      have b3 := hC.box.cell 3
      have r0 := hC.res.cell 0
      have r1 := hC.res.cell 1
      have r2 := hC.res.cell 2
      have r3 := hC.res.cell 3
      have f0 := hC.res.frozen 0
      have f1 := hC.res.frozen 1
      have f2 := hC.res.frozen 2
      have f3 := hC.res.frozen 3
      have rz := hC.res.lt
      have HF := Lib.hid (hC.fin HT.out)
      simp at b0 b1 b2 b3 r0 r1 r2 r3
      go_wp2_with fail
      exact bodyPost_ret (v := .agg #[.slice ado no co, .bool k.neg, .slice k.a1 k.n1 k.c1, .slice k.a2 k.n2 k.c2]) (by simp [results, Tryz.results26, go_sem, *]) rfl HF.out
end Go.Proofs.YtledagemcknlcaaGreat
namespace Go.Proofs.YtledagemcknlcaaGreat
open Go.RowKit

theorem rd_zero_ok : RD.Ok ⟨false, none, 0, 0, [], none, 0, 0, []⟩ := by
  show RatV false [] []
  rw [ratV_nil]
  exact ⟨rfl, .inl rfl⟩
theorem rd_zero_q : RD.q ⟨false, none, 0, 0, [], none, 0, 0, []⟩ = 0 := by
  show sv false [] [] = 0
  rw [sv_den_nil]
  rfl
theorem termsR_nil (w : World) (ad : Option Addr) (c : Nat) : TermsR w ad 0 c [] := ⟨rfl, by omega, (fun i t ht => by cases ht), fun h => by omega⟩
theorem merge0_c (w : World) {ad9 : Option Addr} {n9 c9 : Nat} {tg : List TD} {kg : RD} {s1 : Bool} {a1 a2 : Option Addr} {n1 n2 c1 c2 : Nat} {q : Rat} {m : Nat}
    (hg : TermsR w ad9 n9 c9 tg) (hkg : kg.In w) (hq : RatC w s1 a1 n1 c1 a2 n2 c2 q) (hm : m ≤ 68719476736) (h1 : 1 ≤ m) (hog : OkT m tg) (hokg : kg.Ok) (hHg : H kg.q ≤ m) (hHq : H q ≤ m) (hn9 : n9 ≤ 268435456) :
    Calls Tryz.prog 63 #[.agg #[.slice none 0 0, .bool false, .slice none 0 0, .slice none 0 0], .agg #[.slice ad9 n9 c9, .bool kg.neg, .slice kg.a1 kg.n1 kg.c1, .slice kg.a2 kg.n2 kg.c2], .agg #[.bool s1, .slice a1 n1 c1, .slice a2 n2 c2]] w (RetF (3 * m + 1) (mergeV [] (fm tg) q) (kg.q * q) w) := by
  have := merge_c (kf := ⟨false, none, 0, 0, [], none, 0, 0, []⟩) (tf := []) w (termsR_nil w none 0) ⟨LimR.nil _ _ _, LimR.nil _ _ _⟩ hg hkg hq hm (fun i t ht => by cases ht) hog rd_zero_ok hokg (by rw [rd_zero_q, H_zero]; exact h1) hHg hHq (by omega) hn9
  rw [rd_zero_q, Rat.zero_add] at this
  exact this

/-- no place for a term in these cells -/
def NoTerm (cs : Array Value) : Prop := ∀ (o : Nat) (v : Int) (s : Bool), cs[o]? = some (.int .i64 v) → cs[o + 1]? = some (.bool s) → False
def NotI (x : Value) : Prop := ∀ k z, x ≠ .int k z
theorem NotI.notU {x : Value} (h : NotI x) : NotU x := fun z => h .u32 z
section
variable {w w' : World} {B : Nat} {t : TypeId} {cs : Array Value}
theorem TermsR.setB {ad : Option Addr} {n c : Nat} {ts : List TD} (h : TermsR w ad n c ts) (hB : Blk w B t cs) (hu : ∀ x ∈ cs, NotU x) (hn : NoTerm cs) (i : Nat) (u : Value) : TermsR (w.setCell ⟨B, i, none⟩ u) ad n c ts :=
  ⟨h.len, h.cap, fun i' t' ht => (h.ok i' t' ht).setB hB hu i u, fun h0 => by
    obtain ⟨b, o, e, hlt, hc⟩ := h.cells h0
    have hl := h.len
    have hne : b ≠ B := fun h9 => by
      subst h9
      obtain ⟨e0, e1, _, _⟩ := hc 0 (ts[0]'(by omega)) (List.getElem?_eq_getElem _)
      rw [hB.cell] at e0 e1
      exact hn _ _ _ e0 e1
    have f := fun k => World.cell?_of_block (a := ⟨b, k, none⟩) (Below.heap_setCell w ⟨B, i, none⟩ u b hne)
    refine ⟨b, o, e, by simpa [World.setCell] using hlt, fun i' t' ht => ?_⟩
    obtain ⟨e0, e1, e2, e3⟩ := hc i' t' ht
    exact ⟨(f _).trans e0, (f _).trans e1, (f _).trans e2, (f _).trans e3⟩⟩
theorem noTerm4 {x : Bool} {a a' a'' : Option Addr} {m k m' k' m'' k'' : Nat} : NoTerm #[.slice a m k, .bool x, .slice a' m' k', .slice a'' m'' k''] := by
  intro o v s h1 h2
  match o with
  | 0 => simp at h1
  | 1 => simp at h1
  | 2 => simp at h1
  | 3 => simp at h1
  | o + 4 => simp at h1
theorem TermsR.set4 {ad : Option Addr} {n c : Nat} {ts : List TD} (h : TermsR w ad n c ts) {x : Bool} {a a' a'' : Option Addr} {m k m' k' m'' k'' : Nat} (hB : Blk w B t #[.slice a m k, .bool x, .slice a' m' k', .slice a'' m'' k'']) (a1 : Option Addr) (n1 c1 : Nat) (s : Bool) (a2 : Option Addr) (n2 c2 : Nat) (a3 : Option Addr) (n3 c3 : Nat) :
    TermsR ((((w.setCell ⟨B, 0, none⟩ (.slice a1 n1 c1)).setCell ⟨B, 1, none⟩ (.bool s)).setCell ⟨B, 2, none⟩ (.slice a2 n2 c2)).setCell ⟨B, 3, none⟩ (.slice a3 n3 c3)) ad n c ts := by
  have b1 : Blk (w.setCell ⟨B, 0, none⟩ (.slice a1 n1 c1)) B t #[.slice a1 n1 c1, .bool x, .slice a' m' k', .slice a'' m'' k''] := by simpa using hB.set_ 0 (.slice a1 n1 c1)
  have b2 : Blk ((w.setCell ⟨B, 0, none⟩ (.slice a1 n1 c1)).setCell ⟨B, 1, none⟩ (.bool s)) B t #[.slice a1 n1 c1, .bool s, .slice a' m' k', .slice a'' m'' k''] := by simpa using b1.set_ 1 (.bool s)
  have b3 : Blk (((w.setCell ⟨B, 0, none⟩ (.slice a1 n1 c1)).setCell ⟨B, 1, none⟩ (.bool s)).setCell ⟨B, 2, none⟩ (.slice a2 n2 c2)) B t #[.slice a1 n1 c1, .bool s, .slice a2 n2 c2, .slice a'' m'' k''] := by simpa using b2.set_ 2 (.slice a2 n2 c2)
  exact (((h.setB hB notU_box noTerm4 0 _).setB b1 notU_box noTerm4 1 _).setB b2 notU_box noTerm4 2 _).setB b3 notU_box noTerm4 3 _
end

set_option maxRecDepth 100000 in
set_option maxHeartbeats 1600000 in
theorem scale_c (w : World) {f : FD} {s1 : Bool} {a1 a2 : Option Addr} {n1 n2 c1 c2 : Nat} {q : Rat} {m : Nat} (h : f.In w) (ho : OkFD m f) (hq : RatC w s1 a1 n1 c1 a2 n2 c2 q) (hm : m ≤ 68719476736) (h1 : 1 ≤ m) (hHq : H q ≤ m) :
    Calls Tryz.prog 33 #[.agg #[.slice f.ad f.n f.c, .bool f.k.neg, .slice f.k.a1 f.k.n1 f.k.c1, .slice f.k.a2 f.k.n2 f.k.c2], .agg #[.bool s1, .slice a1 n1 c1, .slice a2 n2 c2]] w (RetF (3 * m + 1) (mergeV [] (fm f.ts) q) (f.k.q * q) w) := by
  have hP := Pro3.mk' w #[.slice f.ad f.n f.c, .bool f.k.neg, .slice f.k.a1 f.k.n1 f.k.c1, .slice f.k.a2 f.k.n2 f.k.c2] #[.bool s1, .slice a1 n1 c1, .slice a2 n2 c2] #[.slice none 0 0, .bool false, .slice none 0 0, .slice none 0 0] 29 27 29
  have hf := h.on hP.below
  have gq := hq.on hP.below
  have HO := Lib.hid ho
  have HN := Lib.hid ho.n
  clear ho
  go_enter Tryz.func33, Tryz.ntmps33
  go_upto_region 1 with (fail)
  generalize ((w.alloc (.cells #[.slice f.ad f.n f.c, .bool f.k.neg, .slice f.k.a1 f.k.n1 f.k.c1, .slice f.k.a2 f.k.n2 f.k.c2] 29)).alloc (.cells #[.bool s1, .slice a1 n1 c1, .slice a2 n2 c2] 27)).alloc (.cells #[.slice none 0 0, .bool false, .slice none 0 0, .slice none 0 0] 29) = W at *
  have k00 := hP.b0.cell 0
  have k01 := hP.b0.cell 1
  have k02 := hP.b0.cell 2
  have k03 := hP.b0.cell 3
  have k10 := hP.b1.cell 0
  have k11 := hP.b1.cell 1
  have k12 := hP.b1.cell 2
  have hR := hP.b2
  have hPb := hP.below
  have HPS := Lib.hid hP.size
  simp at k00 k01 k02 k03 k10 k11 k12
  clear hP
  go_wp2_with fail
  refine (merge0_c W hf.terms hf.const gq hm h1 HO.out.ts HO.out.k HO.out.kH hHq (by have := HN.out; omega)).mono ?_
  rintro e w5 ⟨ad, n, c, ts, k, rfl, hT, hOT, hfm, hk, hb5⟩
  have HFM := Lib.hid hfm
  clear hfm
  have hRX := hR.on hb5
  have k1 := hRX.cell 0
  have k2 := hRX.cell 1
  have k3 := hRX.cell 2
  have k4 := hRX.cell 3
  have f1 := hRX.frozen 0
  have f2 := hRX.frozen 1
  have f3 := hRX.frozen 2
  have f4 := hRX.frozen 3
  have k7 := hRX.lt
  simp at k1 k2 k3 k4
  go_wp2_with fail
  exact bodyPost_ret (v := .agg #[.slice ad n c, .bool k.neg, .slice k.a1 k.n1 k.c1, .slice k.a2 k.n2 k.c2]) (by simp [results, Tryz.results33, go_sem, *]) rfl
    ⟨_, _, _, ts, k, rfl, hT.set4 hRX _ _ _ _ _ _ _ _ _ _, hOT, HFM.out, RatC.set4 hk hRX _ _ _ _ _ _ _ _ _ _, below_set4 (hPb.trans (hb5.mono (by have := HPS.out; omega))) (by omega) _ _ _ _⟩

section
variable {w w' : World} {base : Nat} {e : TypeId} {size : Nat} {v : Value} {n : Nat} {xs : List Value}
theorem Row.imp {Qc Qd : Value → Prop} (h : Row Qc w base e size v n xs) (hi : ∀ x, Qc x → Qd x) : Row Qd w base e size v n xs := ⟨h.own, fun g cur t p h1 h2 x hx => hi x (h.all g cur t p h1 h2 x hx)⟩
theorem TermsR.row {ad : Option Addr} {m c : Nat} {ts : List TD} (h : TermsR w ad m c ts) (hr : Row NotI w base e size v n xs) (hg : w.grownBy w' v.ownBlock) : TermsR w' ad m c ts :=
  ⟨h.len, h.cap, fun i t ht => (h.ok i t ht).row (hr.imp fun _ => NotI.notU) hg, fun h0 => by
    obtain ⟨b, o, e1, hlt, hc⟩ := h.cells h0
    have hl := h.len
    have hne : some b ≠ v.ownBlock := fun h9 => by
      rcases hr.own.2 with ⟨rfl, _⟩ | ⟨g, cap, cur, rfl, _, hgg, _⟩
      · simp [Value.ownBlock] at h9
      · simp only [Value.ownBlock, Option.some.injEq] at h9
        subst h9
        obtain ⟨h8, _⟩ := hc 0 (ts[0]'(by omega)) (List.getElem?_eq_getElem _)
        rw [cell_of_row w b _ cur e (0, 0) hgg] at h8
        exact hr.all b cur e (0, 0) rfl hgg _ (Array.mem_of_getElem? h8) _ _ rfl
    have f := fun k => World.cell?_of_block (a := ⟨b, k, none⟩) (hg.block b hlt hne)
    refine ⟨b, o, e1, Nat.lt_of_lt_of_le hlt hg.size, fun i' t' ht => ?_⟩
    obtain ⟨e0, e1, e2, e3⟩ := hc i' t' ht
    exact ⟨(f _).trans e0, (f _).trans e1, (f _).trans e2, (f _).trans e3⟩⟩
theorem FD.In.row {f : FD} (h : f.In w) (hr : Row NotI w base e size v n xs) (hg : w.grownBy w' v.ownBlock) : f.In w' := ⟨h.terms.row hr hg, h.const.row (hr.imp fun _ => NotI.notU) hg⟩
/-- the cells of a list of forms -/
def fcells (fs : List FD) : List Value := fs.flatMap fun f => [.slice f.ad f.n f.c, .bool f.k.neg, .slice f.k.a1 f.k.n1 f.k.c1, .slice f.k.a2 f.k.n2 f.k.c2]
theorem fcells_len (fs : List FD) : (fcells fs).length = fs.length * 4 := by
  induction fs with
  | nil => rfl
  | cons t ts ih => simp [fcells, List.flatMap_cons] at *; omega
theorem fcells_append (a b : List FD) : fcells (a ++ b) = fcells a ++ fcells b := by simp [fcells]
theorem fcells_get {fs : List FD} {i : Nat} {f : FD} (h : fs[i]? = some f) : (fcells fs)[i * 4]? = some (.slice f.ad f.n f.c) ∧ (fcells fs)[i * 4 + 1]? = some (.bool f.k.neg) ∧
    (fcells fs)[i * 4 + 2]? = some (.slice f.k.a1 f.k.n1 f.k.c1) ∧ (fcells fs)[i * 4 + 3]? = some (.slice f.k.a2 f.k.n2 f.k.c2) := by
  induction fs generalizing i with
  | nil => cases h
  | cons u fs ih =>
    have e : fcells (u :: fs) = .slice u.ad u.n u.c :: .bool u.k.neg :: .slice u.k.a1 u.k.n1 u.k.c1 :: .slice u.k.a2 u.k.n2 u.k.c2 :: fcells fs := rfl
    rw [e]
    cases i with
    | zero => cases h; exact ⟨rfl, rfl, rfl, rfl⟩
    | succ i =>
      have := ih (i := i) h
      rw [show (i + 1) * 4 = i * 4 + 4 by omega]
      exact this
theorem Row.forms {ad : Option Addr} {c : Nat} {fs : List FD} (h : Row NotI w base 29 4 (.slice ad n c) n (fcells fs)) (hin : ∀ (i : Nat) (f : FD), fs[i]? = some f → f.In w) : RowsR w ad n c fs := by
  have hlen : fs.length = n := by have := h.own.1; rw [fcells_len] at this; omega
  rcases h.own.2 with ⟨hv, h0⟩ | ⟨g, cap, cur, hv, _, hg, hnc, _, hsz, htake⟩
  · cases hv
    exact ⟨hlen, by omega, hin, fun h => by omega⟩
  · cases hv
    refine ⟨hlen, hnc, hin, fun _ => ⟨g, 0, rfl, (Array.getElem?_eq_some_iff.1 hg).1, fun i t ht => ?_⟩⟩
    have key : ∀ k x, (fcells fs)[k]? = some x → w.cell? ⟨g, k, none⟩ = some x := fun k x hk => by
      rw [cell_of_row w g k cur _ (0, 0) hg, ← Array.getElem?_toList]
      rw [← htake, List.getElem?_take] at hk
      split at hk
      · exact hk
      · cases hk
    obtain ⟨e0, e1, e2, e3⟩ := fcells_get ht
    simp only [Nat.zero_add]
    exact ⟨key _ _ e0, key _ _ e1, key _ _ e2, key _ _ e3⟩
end
theorem fcells_notI (fs : List FD) : ∀ x ∈ fcells fs, NotI x := by
  intro x hx k z
  simp only [fcells, List.mem_flatMap] at hx
  obtain ⟨f, _, hx⟩ := hx
  simp at hx
  rcases hx with rfl | rfl | rfl | rfl <;> simp
theorem fcells_one (fs : List FD) : ∀ x ∈ fcells fs, x.oneCell' = true := by
  intro x hx
  simp only [fcells, List.mem_flatMap] at hx
  obtain ⟨f, _, hx⟩ := hx
  simp at hx
  rcases hx with rfl | rfl | rfl | rfl <;> rfl
theorem Tryz.infoAffine : (Tryz.prog.info? 29).map (fun i => (i.zero, i.size, i.bytes)) = some (some (.agg #[.slice none 0 0, .bool false, .slice none 0 0, .slice none 0 0]), 4, 80) := by kernel_rfl
theorem affine_zero : ∀ x ∈ (Value.agg #[.slice none 0 0, .bool false, .slice none 0 0, .slice none 0 0]).cells, NotI x := by
  intro x hx k z
  simp [Value.cells] at hx
  rcases hx with rfl | rfl | rfl <;> simp
theorem cells_news (w : World) (cs : Array Value) (t : TypeId) : ∀ j u, cs.toList[j]? = some u → (w.alloc (.cells cs t)).cell? ((⟨w.heap.size, 0, none⟩ : Addr).add j) = some u := by
  intro j u hj
  have hb := Blk.new w t cs
  have e : ((⟨w.heap.size, 0, none⟩ : Addr).add j) = ⟨w.heap.size, j, none⟩ := by unfold Addr.add; split <;> simp_all
  rw [e, hb.cell]
  simpa using hj
end Go.Proofs.YtledagemcknlcaaGreat
namespace Go.Proofs.YtledagemcknlcaaGreat
open Go.RowKit

/-- a form as plain numbers -/
def sem (f : FD) : List (Int × Rat) × Rat := (fm f.ts, f.k.q)
/-- The call returns the form S. -/
def RetFD (m : Nat) (S : List (Int × Rat) × Rat) (w : World) (e : Ending) (w' : World) : Prop :=
  ∃ f : FD, e = .returned (.agg #[.slice f.ad f.n f.c, .bool f.k.neg, .slice f.k.a1 f.k.n1 f.k.c1, .slice f.k.a2 f.k.n2 f.k.c2]) ∧ f.In w' ∧ OkFD m f ∧ sem f = S ∧ Below w.heap.size w w'
theorem RetF.fd {m : Nat} {R : List (Int × Rat)} {q : Rat} {w : World} {e : Ending} {w' : World} (h : RetF m R q w e w') (hl : R.length ≤ 65536) (hq : H q ≤ m) : RetFD m (R, q) w e w' := by
  obtain ⟨ad, n, c, ts, k, rfl, hT, hO, hfm, hk, hb⟩ := h
  have hr := RatC.rd hk
  refine ⟨⟨ad, n, c, ts, rdOf k.neg k.a1 k.n1 k.c1 k.a2 k.n2 k.c2 q⟩, rfl, ⟨hT, hr.1⟩, ⟨hO, hr.2.1, by rw [hr.2.2]; exact hq, ?_⟩, ?_, hb⟩
  · have h1 := hT.len
    have h2 : (fm ts).length = ts.length := by simp [fm]
    rw [hfm] at h2
    show n ≤ 65536
    omega
  · show (fm ts, RD.q _) = _
    rw [hfm, hr.2.2]
theorem colN_len (g : FD → Rat) (rows : List FD) (i : Nat) : (colN g rows i).length ≤ i := by
  induction i with
  | zero => simp [colN]
  | succ i ih =>
    rw [colN, List.length_append]
    have : ((rows[i]?.map fun f => put1 (i : Int) (g f)).getD []).length ≤ 1 := by
      rcases rows[i]? with _ | f
      · simp
      · simp [put1]; split <;> simp
    omega
theorem put1_len (v : Int) (q : Rat) : (put1 v q).length ≤ 1 := by unfold put1; split <;> simp
theorem mergeV_len0 (G : List (Int × Rat)) (c : Rat) : (mergeV [] G c).length ≤ G.length := by
  induction G with
  | nil => simp [mergeV_nil]
  | cons b bs ih =>
    rw [mergeV_b, List.length_append, List.length_cons]
    have := put1_len b.1 (b.2 * c)
    omega
theorem H_one : H 1 = 1 := by unfold H; simp [lmb_one]
theorem H_mone : H ((-1 : Int) : Rat) = 1 := by unfold H; simp [lmb_one]
section
variable {w w' : World} {B : Nat} {t : TypeId}
theorem notU6 {v : Int} {x : Bool} {a a' a'' a3 : Option Addr} {m k m' k' m'' k'' m3 k3 : Nat} : ∀ y ∈ (#[.int .i64 v, .slice a m k, .slice a3 m3 k3, .bool x, .slice a' m' k', .slice a'' m'' k''] : Array Value), NotU y := by
  intro y hy z
  simp at hy
  rcases hy with rfl | rfl | rfl | rfl | rfl | rfl <;> simp
theorem noTerm6 {v : Int} {x : Bool} {a a' a'' a3 : Option Addr} {m k m' k' m'' k'' m3 k3 : Nat} : NoTerm #[.int .i64 v, .slice a m k, .slice a3 m3 k3, .bool x, .slice a' m' k', .slice a'' m'' k''] := by
  intro o v s h1 h2
  match o with
  | 0 => simp at h2
  | 1 => simp at h1
  | 2 => simp at h1
  | 3 => simp at h1
  | 4 => simp at h1
  | 5 => simp at h1
  | o + 6 => simp at h1
theorem FD.In.setB {cs : Array Value} {f : FD} (h : f.In w) (hB : Blk w B t cs) (hu : ∀ x ∈ cs, NotU x) (hn : NoTerm cs) (i : Nat) (u : Value) : f.In (w.setCell ⟨B, i, none⟩ u) := ⟨h.terms.setB hB hu hn i u, h.const.setB hB hu i u⟩
/-- a store of a program -/
def set6 (w : World) (B : Nat) (u0 u1 u2 u3 u4 u5 : Value) : World :=
  (((((w.setCell ⟨B, 0, none⟩ u0).setCell ⟨B, 1, none⟩ u1).setCell ⟨B, 2, none⟩ u2).setCell ⟨B, 3, none⟩ u3).setCell ⟨B, 4, none⟩ u4).setCell ⟨B, 5, none⟩ u5
theorem Blk.set6_ {x0 x1 x2 x3 x4 x5 : Value} (h : Blk w B t #[x0, x1, x2, x3, x4, x5]) (u0 u1 u2 u3 u4 u5 : Value) : Blk (set6 w B u0 u1 u2 u3 u4 u5) B t #[u0, u1, u2, u3, u4, u5] := by
  unfold set6
  simpa using (((((h.set_ 0 u0).set_ 1 u1).set_ 2 u2).set_ 3 u3).set_ 4 u4).set_ 5 u5
theorem FD.In.set6 {f : FD} (h : f.In w) {v : Int} {x : Bool} {a a' a'' a3 : Option Addr} {m k m' k' m'' k'' m3 k3 : Nat} (hB : Blk w B t #[.int .i64 v, .slice a m k, .slice a3 m3 k3, .bool x, .slice a' m' k', .slice a'' m'' k''])
    (v1 : Int) (b1 : Option Addr) (n1 c1 : Nat) (b2 : Option Addr) (n2 c2 : Nat) (x1 : Bool) (b3 : Option Addr) (n3 c3 : Nat) (b4 : Option Addr) (n4 c4 : Nat) :
    f.In (set6 w B (.int .i64 v1) (.slice b1 n1 c1) (.slice b2 n2 c2) (.bool x1) (.slice b3 n3 c3) (.slice b4 n4 c4)) := by
  have e0 : Blk (w.setCell ⟨B, 0, none⟩ (.int .i64 v1)) B t #[.int .i64 v1, .slice a m k, .slice a3 m3 k3, .bool x, .slice a' m' k', .slice a'' m'' k''] := by simpa using hB.set_ 0 (.int .i64 v1)
  have e1 : Blk ((w.setCell ⟨B, 0, none⟩ (.int .i64 v1)).setCell ⟨B, 1, none⟩ (.slice b1 n1 c1)) B t #[.int .i64 v1, .slice b1 n1 c1, .slice a3 m3 k3, .bool x, .slice a' m' k', .slice a'' m'' k''] := by simpa using e0.set_ 1 (.slice b1 n1 c1)
  have e2 : Blk (((w.setCell ⟨B, 0, none⟩ (.int .i64 v1)).setCell ⟨B, 1, none⟩ (.slice b1 n1 c1)).setCell ⟨B, 2, none⟩ (.slice b2 n2 c2)) B t #[.int .i64 v1, .slice b1 n1 c1, .slice b2 n2 c2, .bool x, .slice a' m' k', .slice a'' m'' k''] := by simpa using e1.set_ 2 (.slice b2 n2 c2)
  have e3 : Blk ((((w.setCell ⟨B, 0, none⟩ (.int .i64 v1)).setCell ⟨B, 1, none⟩ (.slice b1 n1 c1)).setCell ⟨B, 2, none⟩ (.slice b2 n2 c2)).setCell ⟨B, 3, none⟩ (.bool x1)) B t #[.int .i64 v1, .slice b1 n1 c1, .slice b2 n2 c2, .bool x1, .slice a' m' k', .slice a'' m'' k''] := by simpa using e2.set_ 3 (.bool x1)
  have e4 : Blk (((((w.setCell ⟨B, 0, none⟩ (.int .i64 v1)).setCell ⟨B, 1, none⟩ (.slice b1 n1 c1)).setCell ⟨B, 2, none⟩ (.slice b2 n2 c2)).setCell ⟨B, 3, none⟩ (.bool x1)).setCell ⟨B, 4, none⟩ (.slice b3 n3 c3)) B t #[.int .i64 v1, .slice b1 n1 c1, .slice b2 n2 c2, .bool x1, .slice b3 n3 c3, .slice a'' m'' k''] := by simpa using e3.set_ 4 (.slice b3 n3 c3)
  exact (((((h.setB hB notU6 noTerm6 0 _).setB e0 notU6 noTerm6 1 _).setB e1 notU6 noTerm6 2 _).setB e2 notU6 noTerm6 3 _).setB e3 notU6 noTerm6 4 _).setB e4 notU6 noTerm6 5 _
theorem below_set6 {B0 : Nat} {w0 : World} (h : Below B0 w0 w) (hB : B0 ≤ B) (u0 u1 u2 u3 u4 u5 : Value) : Below B0 w0 (set6 w B u0 u1 u2 u3 u4 u5) :=
  (((((h.setCell (p := ⟨B, 0, none⟩) hB u0).setCell (p := ⟨B, 1, none⟩) hB u1).setCell (p := ⟨B, 2, none⟩) hB u2).setCell (p := ⟨B, 3, none⟩) hB u3).setCell (p := ⟨B, 4, none⟩) hB u4).setCell (p := ⟨B, 5, none⟩) hB u5
theorem Row.set6 {Qc : Value → Prop} {base : Nat} {e : TypeId} {size : Nat} {v : Value} {n : Nat} {xs : List Value} (h : Row Qc w base e size v n xs) (hne : v.ownBlock ≠ some B) (u0 u1 u2 u3 u4 u5 : Value) :
    Row Qc (Go.Proofs.YtledagemcknlcaaGreat.set6 w B u0 u1 u2 u3 u4 u5) base e size v n xs :=
  (((((h.setc hne 0 u0).setc hne 1 u1).setc hne 2 u2).setc hne 3 u3).setc hne 4 u4).setc hne 5 u5
end
/-- the dual under way: box p at w.heap.size, the result at w.heap.size + 1 -/
structure DOut (w wr : World) (base B M : Nat) (p : PD) (nv : Int) (S : List (Int × Rat) × Rat) (rs : List (List (Int × Rat) × Rat)) (ra : Option Addr) (rn rc : Nat) (fs : List FD) (g : FD) : Prop where
  row : Row NotI wr base 29 4 (.slice ra rn rc) rn (fcells fs)
  all : ∀ (i : Nat) (f : FD), fs[i]? = some f → f.In wr
  ok : ∀ (i : Nat) (f : FD), fs[i]? = some f → OkFD M f
  sem : Hid (fs.map Go.Proofs.YtledagemcknlcaaGreat.sem = rs)
  box : Blk wr B 31 #[.int .i64 nv, .slice ra rn rc, .slice g.ad g.n g.c, .bool g.k.neg, .slice g.k.a1 g.k.n1 g.k.c1, .slice g.k.a2 g.k.n2 g.k.c2]
  obj : g.In wr
  objok : OkFD M g
  objsem : Hid (Go.Proofs.YtledagemcknlcaaGreat.sem g = S)
  pbox : Blk wr w.heap.size 31 #[.int .i64 p.vars, .slice p.ra p.rn p.rc, .slice p.obj.ad p.obj.n p.obj.c, .bool p.obj.k.neg, .slice p.obj.k.a1 p.obj.k.n1 p.obj.k.c1, .slice p.obj.k.a2 p.obj.k.n2 p.obj.k.c2]
  res : Blk wr (w.heap.size + 1) 31 #[.int .i64 0, .slice none 0 0, .slice none 0 0, .bool false, .slice none 0 0, .slice none 0 0]
  below : Below w.heap.size w wr
  base_le : base ≤ wr.heap.size
  B_lt : B < base
  B_ge : w.heap.size + 1 < B
theorem DOut.on {w wr w' : World} {base B M : Nat} {p : PD} {nv : Int} {S : List (Int × Rat) × Rat} {rs : List (List (Int × Rat) × Rat)} {ra : Option Addr} {rn rc : Nat} {fs : List FD} {g : FD}
    (h : DOut w wr base B M p nv S rs ra rn rc fs g) (hb : Below wr.heap.size wr w') : DOut w w' base B M p nv S rs ra rn rc fs g :=
  { h with row := h.row.on hb, all := fun i f hf => (h.all i f hf).on hb, box := h.box.on hb, obj := h.obj.on hb, pbox := h.pbox.on hb, res := h.res.on hb, below := h.below.trans (hb.mono h.below.size), base_le := Nat.le_trans h.base_le hb.size }
theorem DOut.app {w w5 w7 : World} {base B M : Nat} {p : PD} {nv : Int} {S : List (Int × Rat) × Rat} {rs rs' : List (List (Int × Rat) × Rat)} {ra ra' : Option Addr} {rn rc rn' rc' : Nat} {fs gs : List FD} {g : FD}
    (h : DOut w w5 base B M p nv S rs ra rn rc fs g) (hg : w5.grownBy w7 (Value.slice ra rn rc).ownBlock) (hr7 : Row NotI w7 base 29 4 (.slice ra' rn' rc') rn' (fcells fs ++ fcells gs))
    (hi : ∀ (i : Nat) (f : FD), gs[i]? = some f → f.In w5 ∧ OkFD M f) (hs : rs ++ gs.map Go.Proofs.YtledagemcknlcaaGreat.sem = rs') :
    Blk w7 B 31 #[.int .i64 nv, .slice ra rn rc, .slice g.ad g.n g.c, .bool g.k.neg, .slice g.k.a1 g.k.n1 g.k.c1, .slice g.k.a2 g.k.n2 g.k.c2] ∧ DOut w (w7.setCell ⟨B, 1, none⟩ (.slice ra' rn' rc')) base B M p nv S rs' ra' rn' rc' (fs ++ gs) g := by
  have hlt := fun g hg => (h.row.own.lt g hg).1
  have hlt' := fun g hg => (hr7.own.lt g hg).1
  have h1 := h.B_lt
  have h3 := h.base_le
  have h4 := h.B_ge
  have hfar : ∀ b, b < base → some b ≠ (Value.slice ra rn rc).ownBlock := fun b hb h9 => by have := hlt b h9.symm; omega
  have hne' : (Value.slice ra' rn' rc').ownBlock ≠ some B := fun h9 => by have := hlt' B h9; omega
  have hB7 := h.box.grown hg (hfar B h1)
  have hbel : Below base w5 w7 := h.row.below hg h3
  have hold : ∀ (i : Nat) (f : FD), (fs ++ gs)[i]? = some f → f.In w5 ∧ OkFD M f := fun i f hf => by
    rcases Nat.lt_or_ge i fs.length with h8 | h8
    · rw [List.getElem?_append_left h8] at hf; exact ⟨h.all i f hf, h.ok i f hf⟩
    · rw [List.getElem?_append_right h8] at hf; exact hi _ f hf
  refine ⟨hB7, ?_⟩
  exact {
    row := by rw [fcells_append]; exact hr7.setc hne' _ _
    all := fun i f hf => ((hold i f hf).1.row h.row hg).setB hB7 notU6 noTerm6 1 _
    ok := fun i f hf => (hold i f hf).2
    sem := by rw [List.map_append, h.sem.out]; exact hs
    box := by simpa using hB7.set_ 1 (.slice ra' rn' rc')
    obj := (h.obj.row h.row hg).setB hB7 notU6 noTerm6 1 _
    objok := h.objok
    objsem := h.objsem
    pbox := (h.pbox.grown hg (hfar _ (by omega))).far (p := ⟨B, 1, none⟩) (by show w.heap.size ≠ B; omega) _
    res := (h.res.grown hg (hfar _ (by omega))).far (p := ⟨B, 1, none⟩) (by show w.heap.size + 1 ≠ B; omega) _
    below := (h.below.trans (hbel.mono (by omega))).setCell (p := ⟨B, 1, none⟩) (by show w.heap.size ≤ B; omega) _
    base_le := by have := hbel.size; simp [World.setCell]; omega
    B_lt := h1
    B_ge := h4 }
/-- the rows of the dual: first the signs of its variables, then two for each variable of the program -/
def dualA (rn : Nat) : List (List (Int × Rat) × Rat) := (List.range rn).map fun i : Nat => ([((i : Int), (1 : Rat))], (0 : Rat))
def dualF (p : PD) (j : Nat) : List (Int × Rat) × Rat := (colN (fun f : FD => coefT f.ts (j : Int)) p.rows p.rn, -(coefT p.obj.ts (j : Int)))
def dualG (p : PD) (j : Nat) : List (Int × Rat) × Rat := (mergeV [] (dualF p j).1 ((-1 : Int) : Rat), (dualF p j).2 * ((-1 : Int) : Rat))
def dualB (p : PD) : Nat → List (List (Int × Rat) × Rat)
  | 0 => []
  | j + 1 => dualB p j ++ [dualF p j, dualG p j]
def dualO (p : PD) : List (Int × Rat) × Rat := (colN (fun f : FD => f.k.q) p.rows p.rn, -p.obj.k.q)
/-- The call returns the dual program. -/
def RetDual (M : Nat) (p : PD) (w : World) (e : Ending) (w' : World) : Prop :=
  ∃ d : PD, e = .returned (.tuple #[.agg #[.int .i64 d.vars, .slice d.ra d.rn d.rc, .slice d.obj.ad d.obj.n d.obj.c, .bool d.obj.k.neg, .slice d.obj.k.a1 d.obj.k.n1 d.obj.k.c1, .slice d.obj.k.a2 d.obj.k.n2 d.obj.k.c2], .int .i64 0]) ∧ d.In w' ∧ (∀ (i : Nat) (f : FD), d.rows[i]? = some f → OkFD M f) ∧ OkFD M d.obj ∧
    d.vars = p.rn ∧ d.rows.map sem = dualA p.rn ++ dualB p p.vars.toNat ∧ sem d.obj = dualO p ∧ Below w.heap.size w w'
theorem DOut.fin {w wr : World} {base B M : Nat} {p : PD} {S : List (Int × Rat) × Rat} {rs : List (List (Int × Rat) × Rat)} {ra : Option Addr} {rn rc : Nat} {fs : List FD} {g : FD}
    (h : DOut w wr base B M p p.rn S rs ra rn rc fs g) (hS : S = dualO p) (hR : rs = dualA p.rn ++ dualB p p.vars.toNat) :
    RetDual M p w (.returned (.tuple #[.agg #[.int .i64 (p.rn : Nat), .slice ra rn rc, .slice g.ad g.n g.c, .bool g.k.neg, .slice g.k.a1 g.k.n1 g.k.c1, .slice g.k.a2 g.k.n2 g.k.c2], .int .i64 0]))
      (set6 wr (w.heap.size + 1) (.int .i64 (p.rn : Nat)) (.slice ra rn rc) (.slice g.ad g.n g.c) (.bool g.k.neg) (.slice g.k.a1 g.k.n1 g.k.c1) (.slice g.k.a2 g.k.n2 g.k.c2)) := by
  have h1 := h.B_lt
  have h4 := h.B_ge
  have hne : (Value.slice ra rn rc).ownBlock ≠ some (w.heap.size + 1) := fun h9 => by have := (h.row.own.lt _ h9).1; omega
  refine ⟨⟨(p.rn : Nat), ra, rn, rc, fs, g⟩, rfl, ⟨(h.row.set6 hne _ _ _ _ _ _).forms (fun i f hf => (h.all i f hf).set6 h.res _ _ _ _ _ _ _ _ _ _ _ _ _ _), h.obj.set6 h.res _ _ _ _ _ _ _ _ _ _ _ _ _ _⟩, h.ok, h.objok, rfl, ?_, ?_, below_set6 h.below (by omega) _ _ _ _ _ _⟩
  · rw [← hR]; exact h.sem.out
  · rw [← hS]; exact h.objsem.out
end Go.Proofs.YtledagemcknlcaaGreat
