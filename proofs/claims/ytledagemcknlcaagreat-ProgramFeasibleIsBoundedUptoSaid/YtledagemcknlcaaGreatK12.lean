/- relucertref18.SmallForm, SmallForms, relucertref27.Small: what each call returns. Weak duality of a program in memory and its dual. arguments that came in, with a bound on all that they hold. relucertlaw27.ProgramWeakDuality: the call returns true. -/
import Derived.Test.YtledagemcknlcaaGreatK11
import Derived.Test.YtledagemcknlcaaGreatK9
import Derived.Test.YtledagemcknlcaaGreatRows
set_option linter.all false
namespace Go.Proofs.YtledagemcknlcaaGreat
open Go.RowKit

/-- a small form -/
structure SmF (f : FD) : Prop where
  n : f.n ≤ 8
  k : SmR f.k
  v : FormV f.ts f.k 1048576
  ts : ∀ (i : Nat) (t : TD), f.ts[i]? = some t → SmR t.c
noncomputable instance (f : FD) : Decidable (SmF f) := Classical.propDecidable _
set_option maxRecDepth 100000 in
set_option maxHeartbeats 3200000 in
theorem smallform_aux (w : World) (f : FD) (fa : Option Addr) (hfa : f.ad = fa) (h : f.In w) (hf : FewF f) :
    Calls Tryz.prog 24 #[.agg #[.slice fa f.n f.c, .bool f.k.neg, .slice f.k.a1 f.k.n1 f.k.c1, .slice f.k.a2 f.k.n2 f.k.c2]] w (RetB (decide (SmF f)) w) := by
  have HFA := Lib.hid hfa
  have hTR : TermsR w fa f.n f.c f.ts := by rw [← hfa]; exact h.terms
  clear hfa
  have hP := Pro1.mk' w #[.slice fa f.n f.c, .bool f.k.neg, .slice f.k.a1 f.k.n1 f.k.c1, .slice f.k.a2 f.k.n2 f.k.c2] 29
  go_enter Tryz.func24, Tryz.ntmps24
  go_upto_region 1 with (fail)
  generalize w.alloc (.cells #[.slice fa f.n f.c, .bool f.k.neg, .slice f.k.a1 f.k.n1 f.k.c1, .slice f.k.a2 f.k.n2 f.k.c2] 29) = W at *
  have hB := hP.b0
  have hPb := hP.below
  have HPS := Lib.hid hP.size
  have fW := h.const.on hPb
  have tW := hTR.on hPb
  have hAll := h
  have HF := Lib.hid hf
  have HL := Lib.hid h.terms.len
  clear hP h hf hTR
  have k0 := hB.cell 0
  have k1 := hB.cell 1
  have k2 := hB.cell 2
  have k3 := hB.cell 3
  simp at k0 k1 k2 k3
  have kz := hB.lt
  by_cases e1 : 8 < f.n
  · have HE : Hid (decide (SmF f) = false) := decide_eq_false (fun h => by have := h.n; omega)
    have d1 : decide (8 < f.n) = true := decide_eq_true e1
    have d2 : decide ((8 : Int) < (f.n : Int)) = true := decide_eq_true (by omega)
    go_wp2_with fail
    go_ret
    exact retB_end HE.out.symm hPb
  have d1 : decide (8 < f.n) = false := decide_eq_false e1
  have d2 : decide ((8 : Int) < (f.n : Int)) = false := decide_eq_false (by omega)
  have hfn : f.n ≤ 8 := by omega
  clear e1
  go_wp2_with fail
  refine (smallrat_c W f.k fW (by have := HF.out.k.1; omega) (by have := HF.out.k.2; omega)).mono ?_
  rintro e w1 ⟨rfl, hb1⟩
  by_cases e2 : SmR f.k
  rotate_left
  · have HE : Hid (decide (SmF f) = false) := decide_eq_false (fun h => e2 h.k)
    rw [decide_eq_false e2]
    clear e2
    go_wp2_with fail
    go_ret
    exact retB_end HE.out.symm (hPb.trans (hb1.mono (by have := HPS.out; omega)))
  rw [decide_eq_true e2]
  have HK := Lib.hid e2
  clear e2
  have hB1 := hB.on hb1
  have f1 := hAll.on (hPb.trans (hb1.mono (by have := HPS.out; omega)))
  have t1 := tW.on hb1
  have k0 := hB1.cell 0
  have k1 := hB1.cell 1
  have k2 := hB1.cell 2
  have k3 := hB1.cell 3
  simp at k0 k1 k2 k3
  have kz := hB1.lt
  clear hB fW tW
  go_wp2_with fail
  have HVV : Hid (Calls Tryz.prog 56 #[.agg #[.slice fa f.n f.c, .bool f.k.neg, .slice f.k.a1 f.k.n1 f.k.c1, .slice f.k.a2 f.k.n2 f.k.c2], .int .i64 1048576] w1 (RetB (decide (FormV f.ts f.k 1048576)) w1)) := by have h9 := fd_fvalid HF.out f1 (vars := 1048576); rw [HFA.out] at h9; exact h9
  refine HVV.out.mono ?_
  rintro e w2 ⟨rfl, hb2⟩
  have hb12 := hb1.trans (hb2.mono hb1.size)
  by_cases e3 : FormV f.ts f.k 1048576
  rotate_left
  · have HE : Hid (decide (SmF f) = false) := decide_eq_false (fun h => e3 h.v)
    rw [decide_eq_false e3]
    clear e3
    go_wp2_with fail
    go_ret
    exact retB_end HE.out.symm (hPb.trans (hb12.mono (by have := HPS.out; omega)))
  rw [decide_eq_true e3]
  have HV := Lib.hid e3
  clear e3
  have hB2 := hB1.on hb2
  have t2 := t1.on hb2
  have k0 := hB2.cell 0
  have k1 := hB2.cell 1
  have k2 := hB2.cell 2
  have k3 := hB2.cell 3
  simp at k0 k1 k2 k3
  have kz := hB2.lt
  clear hB1 f1 t1
  have hw2 : Below w.heap.size w w2 := hPb.trans (hb12.mono (by have := HPS.out; omega))
  clear hb1 hb2 hb12
  go_wp2_with fail
  go_loopw [3] (fun s3 wr => ∃ i, i ≤ f.n ∧ s3 = .int .i64 (i : Nat) ∧ Hid (∀ (j : Nat) (t : TD), j < i → f.ts[j]? = some t → SmR t.c) ∧ Below w2.heap.size w2 wr) (fun i _ => f.n - (intOf i).toNat)
  case atStart => exact ⟨0, by omega, rfl, (fun j t hj => by omega : ∀ (j : Nat) (t : TD), j < 0 → f.ts[j]? = some t → SmR t.c), Below.refl _ _⟩
  case round =>
    obtain ⟨i, hi, rfl, HI, hb⟩ := hrel
    obtain ⟨hcr, hfr⟩ := bcell hb
    have kr := Nat.lt_of_lt_of_le kz hb.size
    by_cases hlt : i < f.n
    · obtain ⟨b, o, t, rfl, hbl, HT, gt, t0, t1, t2, t3⟩ := (t2.on hb).at_ hlt
      have t1' : wr.cell? ⟨b, o + i * 4 + 1, none⟩ = some (.bool t.c.neg) := t1
      have t2' : wr.cell? ⟨b, o + i * 4 + 1 + 1, none⟩ = some (.slice t.c.a1 t.c.n1 t.c.c1) := t2
      have t3' : wr.cell? ⟨b, o + i * 4 + 1 + 2, none⟩ = some (.slice t.c.a2 t.c.n2 t.c.c2) := t3
      have hft := HF.out.ts i t HT.out
      clear hcr hfr
      have k0' := (hB2.on hb).cell 0
      simp at k0'
      go_wp2_with fail
      refine (smallrat_c wr t.c gt (by have := hft.1; omega) (by have := hft.2; omega)).mono ?_
      rintro e w5 ⟨rfl, hb5⟩
      by_cases e5 : SmR t.c
      · have HN := Lib.hid e5
        rw [decide_eq_true e5]
        clear e5
        go_wp2_with fail
        go_roundw
        case rel => exact ⟨i + 1, by omega, by go_num, (fun j' t' hj' ht' => (Nat.lt_or_ge j' i).elim (fun h9 => HI.out j' t' h9 ht') (fun h9 => by have e9 : j' = i := (by omega); rw [e9] at ht'; have := HT.out.symm.trans ht'; cases this; exact HN.out) : ∀ (j : Nat) (t : TD), j < i + 1 → f.ts[j]? = some t → SmR t.c), hb.trans (hb5.mono hb.size)⟩
        case measure => simp [intOf]; omega
      · have HE : Hid (decide (SmF f) = false) := decide_eq_false (fun h => e5 (h.ts i t HT.out))
        rw [decide_eq_false e5]
        clear e5
        go_wp2_with fail
        go_ret
        exact retB_end HE.out.symm (hw2.trans ((hb.trans (hb5.mono hb.size)).mono hw2.size))
    · have HE : Hid (decide (SmF f) = true) := decide_eq_true ⟨hfn, HK.out, HV.out, fun j t ht => HI.out j t (by have := (List.getElem?_eq_some_iff.1 ht).1; have := HL.out; omega) ht⟩
      have d6 : decide (i < f.n) = false := decide_eq_false hlt
      have d7 : decide ((i : Int) < (f.n : Int)) = false := decide_eq_false (by omega)
      go_wp2_with fail
      go_ret
      exact retB_end HE.out.symm (hw2.trans (hb.mono hw2.size))
theorem smallform_c (w : World) (f : FD) (h : f.In w) (hf : FewF f) :
    Calls Tryz.prog 24 #[.agg #[.slice f.ad f.n f.c, .bool f.k.neg, .slice f.k.a1 f.k.n1 f.k.c1, .slice f.k.a2 f.k.n2 f.k.c2]] w (RetB (decide (SmF f)) w) := smallform_aux w f f.ad rfl h hf
/-- a short list of small forms -/
def SmFs (n : Nat) (m : Int) (fs : List FD) : Prop := (n : Int) ≤ m ∧ ∀ (i : Nat) (f : FD), fs[i]? = some f → SmF f
noncomputable instance (n : Nat) (m : Int) (fs : List FD) : Decidable (SmFs n m fs) := Classical.propDecidable _
set_option maxRecDepth 100000 in
set_option maxHeartbeats 3200000 in
theorem smallforms_c (w : World) {ad : Option Addr} {n c : Nat} {fs : List FD} {m : Int} (h : RowsR w ad n c fs) (hn : n ≤ 9223372036854775807) (hf : ∀ (i : Nat) (f : FD), fs[i]? = some f → FewF f) :
    Calls Tryz.prog 23 #[.slice ad n c, .int .i64 m] w (RetB (decide (SmFs n m fs)) w) := by
  have HL := Lib.hid h.len
  have HX := Lib.hid hf
  clear hf
  go_enter Tryz.func23, Tryz.ntmps23
  by_cases e1 : m < (n : Int)
  · have HE : Hid (decide (SmFs n m fs) = false) := decide_eq_false (fun h => by have := h.1; omega)
    have d2 : decide (m < (n : Int)) = true := decide_eq_true e1
    go_wp2_with fail
    go_ret
    exact retB_end HE.out.symm (Below.refl _ _)
  have d2 : decide (m < (n : Int)) = false := decide_eq_false e1
  go_wp2_with fail
  go_loopw [5] (fun s3 wr => ∃ i, i ≤ n ∧ s3 = .int .i64 (i : Nat) ∧ Hid (∀ (j : Nat) (f : FD), j < i → fs[j]? = some f → SmF f) ∧ Below w.heap.size w wr) (fun i _ => n - (intOf i).toNat)
  case atStart => exact ⟨0, by omega, rfl, (fun j t hj => by omega : ∀ (j : Nat) (f : FD), j < 0 → fs[j]? = some f → SmF f), Below.refl _ _⟩
  case round =>
    obtain ⟨i, hi, rfl, HI, hb⟩ := hrel
    by_cases hlt : i < n
    · obtain ⟨b, o, f, rfl, hbl, HR, gf, r0, r1, r2, r3⟩ := (h.on hb).at_ hlt
      have HFF := Lib.hid (HX.out i f HR.out)
      go_wp2_with fail
      refine (smallform_c wr f gf HFF.out).mono ?_
      rintro e w5 ⟨rfl, hb5⟩
      by_cases e5 : SmF f
      · have HN := Lib.hid e5
        rw [decide_eq_true e5]
        clear e5
        go_wp2_with fail
        go_roundw
        case rel => exact ⟨i + 1, by omega, by go_num, (fun j' t' hj' ht' => (Nat.lt_or_ge j' i).elim (fun h9 => HI.out j' t' h9 ht') (fun h9 => by have e9 : j' = i := (by omega); rw [e9] at ht'; have := HR.out.symm.trans ht'; cases this; exact HN.out) : ∀ (j : Nat) (f : FD), j < i + 1 → fs[j]? = some f → SmF f), hb.trans (hb5.mono hb.size)⟩
        case measure => simp [intOf]; omega
      · have HE : Hid (decide (SmFs n m fs) = false) := decide_eq_false (fun h => e5 (h.2 i f HR.out))
        rw [decide_eq_false e5]
        clear e5
        go_wp2_with fail
        go_ret
        exact retB_end HE.out.symm (hb.trans (hb5.mono hb.size))
    · have HE : Hid (decide (SmFs n m fs) = true) := decide_eq_true ⟨by omega, fun j f hj => HI.out j f (by have := (List.getElem?_eq_some_iff.1 hj).1; have := HL.out; omega) hj⟩
      have d6 : decide (i < n) = false := decide_eq_false hlt
      have d7 : decide ((i : Int) < (n : Int)) = false := decide_eq_false (by omega)
      go_wp2_with fail
      go_ret
      exact retB_end HE.out.symm hb
/-- a small valid program -/
structure SmPr (p : PD) : Prop where
  vars : p.vars ≤ 4
  rows : SmFs p.rn 8 p.rows
  obj : SmF p.obj
  pv : PV p
noncomputable instance (p : PD) : Decidable (SmPr p) := Classical.propDecidable _
set_option maxRecDepth 100000 in
set_option maxHeartbeats 3200000 in
theorem small_c (w : World) (p : PD) (h : p.In w) (hf : FewP p) (hn : p.rn ≤ 9223372036854775807) :
    Calls Tryz.prog 7 #[.agg #[.int .i64 p.vars, .slice p.ra p.rn p.rc, .slice p.obj.ad p.obj.n p.obj.c, .bool p.obj.k.neg, .slice p.obj.k.a1 p.obj.k.n1 p.obj.k.c1, .slice p.obj.k.a2 p.obj.k.n2 p.obj.k.c2]] w (RetB (decide (SmPr p)) w) := by
  have hP := Pro1.mk' w #[.int .i64 p.vars, .slice p.ra p.rn p.rc, .slice p.obj.ad p.obj.n p.obj.c, .bool p.obj.k.neg, .slice p.obj.k.a1 p.obj.k.n1 p.obj.k.c1, .slice p.obj.k.a2 p.obj.k.n2 p.obj.k.c2] 31
  go_enter Tryz.func7, Tryz.ntmps7
  go_upto_region 1 with (fail)
  generalize w.alloc (.cells #[.int .i64 p.vars, .slice p.ra p.rn p.rc, .slice p.obj.ad p.obj.n p.obj.c, .bool p.obj.k.neg, .slice p.obj.k.a1 p.obj.k.n1 p.obj.k.c1, .slice p.obj.k.a2 p.obj.k.n2 p.obj.k.c2] 31) = W at *
  have hB := hP.b0
  have hPb := hP.below
  have HPS := Lib.hid hP.size
  have pW := h.on hPb
  have HF := Lib.hid hf
  clear hP h hf
  have k0 := hB.cell 0
  have k1 := hB.cell 1
  have k2 := hB.cell 2
  have k3 := hB.cell 3
  have k4 := hB.cell 4
  have k5 := hB.cell 5
  simp at k0 k1 k2 k3 k4 k5
  have kz := hB.lt
  by_cases e1 : p.vars ≤ 4
  rotate_left
  · have HE : Hid (decide (SmPr p) = false) := decide_eq_false (fun h => e1 h.vars)
    have d1 : decide (p.vars ≤ 4) = false := decide_eq_false e1
    go_wp2_with fail
    go_ret
    exact retB_end HE.out.symm hPb
  have d1 : decide (p.vars ≤ 4) = true := decide_eq_true e1
  go_wp2_with fail
  refine (smallforms_c W pW.rows hn HF.out.rows).mono ?_
  rintro e w1 ⟨rfl, hb1⟩
  by_cases e2 : SmFs p.rn 8 p.rows
  rotate_left
  · have HE : Hid (decide (SmPr p) = false) := decide_eq_false (fun h => e2 h.rows)
    rw [decide_eq_false e2]
    clear e2
    go_wp2_with fail
    go_ret
    exact retB_end HE.out.symm (hPb.trans (hb1.mono (by have := HPS.out; omega)))
  rw [decide_eq_true e2]
  have H2 := Lib.hid e2
  clear e2
  have hB1 := hB.on hb1
  have p1 := pW.on hb1
  have k0 := hB1.cell 0
  have k1 := hB1.cell 1
  have k2 := hB1.cell 2
  have k3 := hB1.cell 3
  have k4 := hB1.cell 4
  have k5 := hB1.cell 5
  simp at k0 k1 k2 k3 k4 k5
  have kz := hB1.lt
  clear hB pW
  go_wp2_with fail
  refine (smallform_c w1 p.obj p1.obj HF.out.obj).mono ?_
  rintro e w2 ⟨rfl, hb2⟩
  have hb12 := hb1.trans (hb2.mono hb1.size)
  by_cases e3 : SmF p.obj
  rotate_left
  · have HE : Hid (decide (SmPr p) = false) := decide_eq_false (fun h => e3 h.obj)
    rw [decide_eq_false e3]
    clear e3
    go_wp2_with fail
    go_ret
    exact retB_end HE.out.symm (hPb.trans (hb12.mono (by have := HPS.out; omega)))
  rw [decide_eq_true e3]
  have H3 := Lib.hid e3
  clear e3
  have hB2 := hB1.on hb2
  have p2 := p1.on hb2
  have k0 := hB2.cell 0
  have k1 := hB2.cell 1
  have k2 := hB2.cell 2
  have k3 := hB2.cell 3
  have k4 := hB2.cell 4
  have k5 := hB2.cell 5
  simp at k0 k1 k2 k3 k4 k5
  have kz := hB2.lt
  clear hB1 p1
  have HD : Hid (decide (PV p) = decide (SmPr p)) := decide_eq_decide.2 ⟨fun h => ⟨e1, H2.out, H3.out, h⟩, fun h => h.pv⟩
  go_wp2_with fail
  refine (fpvalid_any w2 p p2 HF.out).mono ?_
  rintro e w3 ⟨rfl, hb3⟩
  rw [HD.out]
  go_wp2_with fail
  go_ret
  exact ⟨rfl, hPb.trans ((hb12.trans (hb3.mono hb12.size)).mono (by have := HPS.out; omega))⟩
end Go.Proofs.YtledagemcknlcaaGreat
namespace Go.Proofs.YtledagemcknlcaaGreat
open Go.RowKit

theorem sgR_nonneg {q : Rat} : 0 ≤ sgR q ↔ 0 ≤ q := by
  unfold sgR
  rw [← Rat.num_nonneg]
  exact Int.sign_nonneg_iff
theorem fev_ev {f : FD} {w : World} (h : f.In w) (xs : List RD) : fev f xs = evV (sem f).1 (sem f).2 (ptq xs) := fev_sem h xs
theorem termV_lt {ts : List TD} {vars : Int} (h : ∀ i, TermV ts vars i) {i : Nat} {t : TD} (ht : ts[i]? = some t) : ∀ (k : Nat) (u : TD), ts[i + 1 + k]? = some u → t.v < u.v := by
  intro k
  induction k with
  | zero => intro u hu; exact (h (i + 1) u hu).2.2.1 i t rfl ht
  | succ k ih =>
    intro u hu
    have hl := (List.getElem?_eq_some_iff.1 hu).1
    have hs : ts[i + 1 + k]? = some (ts[i + 1 + k]'(by omega)) := List.getElem?_eq_getElem _
    have h1 := ih _ hs
    have h2 := (h (i + 1 + (k + 1)) u hu).2.2.1 (i + 1 + k) _ rfl hs
    omega
theorem formV_srt {f : FD} {vars : Int} (hv : FormV f.ts f.k vars) {n : Nat} (hn : vars = (n : Int)) : Srt (sem f).1 n := by
  have hg : ∀ x ∈ fm f.ts, ∃ (i : Nat) (t : TD), f.ts[i]? = some t ∧ x = (t.v, t.c.q) := fun x hx => by
    unfold fm at hx
    obtain ⟨t, ht, rfl⟩ := List.mem_map.1 hx
    obtain ⟨i, hi, e⟩ := List.mem_iff_getElem.1 ht
    exact ⟨i, t, by rw [← e]; exact List.getElem?_eq_getElem hi, rfl⟩
  show Srt (fm f.ts) n
  refine ⟨?_, fun x hx => ?_, fun x hx => ?_⟩
  · rw [List.pairwise_iff_getElem]
    intro i j hi hj hij
    have hi' : i < f.ts.length := by rw [fm_length] at hi; exact hi
    have hj' : j < f.ts.length := by rw [fm_length] at hj; exact hj
    have h1 := termV_lt hv.1 (List.getElem?_eq_getElem hi') (j - (i + 1)) (f.ts[j]'hj') (by rw [show i + 1 + (j - (i + 1)) = j by omega]; exact List.getElem?_eq_getElem hj')
    simpa [fm] using h1
  · obtain ⟨i, t, ht, rfl⟩ := hg x hx; exact (hv.1 i t ht).1
  · obtain ⟨i, t, ht, rfl⟩ := hg x hx; have := (hv.1 i t ht).2.1; show t.v < _; omega
/-- the numbers of a program -/
def aP (p : PD) (i j : Nat) : Rat := (p.rows[i]?.map fun f => coefT f.ts (j : Int)).getD 0
def bP (p : PD) (i : Nat) : Rat := (p.rows[i]?.map fun f => f.k.q).getD 0
def cP (p : PD) (j : Nat) : Rat := coefT p.obj.ts (j : Int)
def xP (xs : List RD) (j : Nat) : Rat := ptq xs (j : Int)
theorem evV_colN (g : FD → Rat) (rows : List FD) (n : Nat) (q0 : Rat) (x : Int → Rat) : evV (colN g rows n) q0 x = q0 + sumN (fun i => (rows[i]?.map g).getD 0 * x (i : Int)) n := by
  induction n with
  | zero => show q0 = q0 + 0; grind
  | succ n ih =>
    rcases h : rows[n]? with _ | f
    · have e : colN g rows (n + 1) = colN g rows n := by rw [colN, h]; simp
      rw [e, ih, sumN, h]; show _ = _ + (_ + 0 * _); grind
    · rw [colN_step h, evV_append, evV_put1, ih, sumN, h]; show _ = _ + (_ + g f * _); grind
theorem dualF_mem {p : PD} {n j : Nat} (h : j < n) : dualF p j ∈ dualB p n ∧ dualG p j ∈ dualB p n := by
  induction n with
  | zero => omega
  | succ n ih =>
    rw [dualB]
    rcases Nat.lt_or_ge j n with h1 | h1
    · have := ih h1; exact ⟨List.mem_append.2 (.inl this.1), List.mem_append.2 (.inl this.2)⟩
    · have e : j = n := by omega
      subst e; exact ⟨List.mem_append.2 (.inr (by simp)), List.mem_append.2 (.inr (by simp))⟩
theorem feas_mem {d : PD} {w : World} {ys : List RD} (hd : d.In w) (hy : FeasS d ys) {S : List (Int × Rat) × Rat} (hS : S ∈ d.rows.map sem) : 0 ≤ evV S.1 S.2 (ptq ys) := by
  obtain ⟨f, hf, rfl⟩ := List.mem_map.1 hS
  obtain ⟨i, hi, e⟩ := List.mem_iff_getElem.1 hf
  have h1 : d.rows[i]? = some f := by rw [← e]; exact List.getElem?_eq_getElem hi
  rw [← fev_ev (hd.rows.ok i f h1)]
  exact sgR_nonneg.1 (hy.rows i f h1)
theorem prog_val {p : PD} {w : World} {xs : List RD} (hp : p.In w) (pv : PV p) {n : Nat} (hn : p.vars = (n : Int)) : fev p.obj xs = p.obj.k.q + sumN (fun j => cP p j * xP xs j) n := by
  rw [fev_ev hp.obj, evV_sum (formV_srt pv.obj hn)]
  refine congrArg (_ + ·) (sumN_congr fun j _ => ?_)
  show coefV (fm _) _ * _ = coefT _ _ * _
  rw [coefT_fm]
  rfl
theorem prog_row {p : PD} {w : World} {xs : List RD} (hp : p.In w) (hx : FeasS p xs) {n : Nat} (hn : p.vars = (n : Int)) (i : Nat) (hi : i < p.rn) : 0 ≤ bP p i + sumN (fun j => aP p i j * xP xs j) n := by
  have hl := hp.rows.len
  have h1 : p.rows[i]? = some (p.rows[i]'(by omega)) := List.getElem?_eq_getElem _
  have h2 := sgR_nonneg.1 (hx.rows i _ h1)
  rw [fev_ev (hp.rows.ok i _ h1), evV_sum (formV_srt (hx.pv.rows i _ h1) hn)] at h2
  unfold bP aP
  rw [h1]
  simp only [Option.map_some, Option.getD_some, coefT_fm]
  exact h2
structure IsDual (p d : PD) : Prop where
  vars : d.vars = p.rn
  rows : d.rows.map sem = dualA p.rn ++ dualB p p.vars.toNat
  obj : sem d.obj = dualO p
theorem dual_nonneg {p d : PD} {w : World} {ys : List RD} (hd : d.In w) (h : IsDual p d) (hy : FeasS d ys) (i : Nat) (hi : i < p.rn) : 0 ≤ xP ys i := by
  have h1 := feas_mem hd hy (S := ([((i : Int), (1 : Rat))], (0 : Rat))) (by
    rw [h.rows]
    exact List.mem_append.2 (.inl (by unfold dualA; exact List.mem_map.2 ⟨i, by simpa using hi, rfl⟩)))
  rw [evV_cons, evV_nil] at h1
  show 0 ≤ ptq ys (i : Int)
  grind
theorem dual_eq {p d : PD} {w : World} {ys : List RD} (hd : d.In w) (h : IsDual p d) (hy : FeasS d ys) (j : Nat) (hj : j < p.vars.toNat) : sumN (fun i => aP p i j * xP ys i) p.rn = cP p j := by
  have hm := dualF_mem (p := p) hj
  have h1 := feas_mem hd hy (S := dualF p j) (by rw [h.rows]; exact List.mem_append.2 (.inr hm.1))
  have h2 := feas_mem hd hy (S := dualG p j) (by rw [h.rows]; exact List.mem_append.2 (.inr hm.2))
  unfold dualG at h2
  rw [evV_merge0] at h2
  have e : evV (dualF p j).1 (dualF p j).2 (ptq ys) = -(cP p j) + sumN (fun i => aP p i j * xP ys i) p.rn := evV_colN _ _ _ _ _
  rw [e] at h1 h2
  have h3 : ((-1 : Int) : Rat) = -1 := rfl
  rw [h3] at h2
  grind
theorem dual_val {p d : PD} {w : World} {ys : List RD} (hd : d.In w) (h : IsDual p d) : fev d.obj ys = -(p.obj.k.q) + sumN (fun i => bP p i * xP ys i) p.rn := by
  rw [fev_ev hd.obj, h.obj]
  exact evV_colN _ _ _ _ _
theorem weak_pd {p d : PD} {w wd : World} {xs ys : List RD} (hp : p.In w) (hd : d.In wd) (h : IsDual p d) (hx : FeasS p xs) (hy : FeasS d ys) : 0 ≤ sgR (valQ p xs + valQ d ys) := by
  rw [sgR_nonneg]
  have hn : p.vars = (p.vars.toNat : Int) := by have := hx.pv.v0; omega
  unfold valQ
  rw [if_pos ⟨hx.pv, hx.len⟩, if_pos ⟨hy.pv, hy.len⟩, prog_val hp hx.pv hn, dual_val hd h]
  have h1 := (weak_dual (fun i hi => prog_row hp hx hn i hi) (dual_nonneg hd h hy) (dual_eq hd h hy)).2
  grind
end Go.Proofs.YtledagemcknlcaaGreat
namespace Go.Proofs.YtledagemcknlcaaGreat
open Go.ChangeShapes Go.WideShapes Go.RowKit Go.Deep

theorem bulk_one_le {H : Type} (d : DataW H) : 1 ≤ Rows.uptoBulk d := by
  cases d with
  | lit l => cases l <;> simp [Rows.uptoBulk]
  | nil => simp [Rows.uptoBulk]
  | ptr d => simp [Rows.uptoBulk]
  | slice elems spare => simp [Rows.uptoBulk]
  | agg parts => simp [Rows.uptoBulk]
  | iface t d => simp [Rows.uptoBulk]
  | map entries => simp [Rows.uptoBulk]
  | held h => simp [Rows.uptoBulk]
theorem bulk_part_le {H : Type} {d : DataW H} {l : List (DataW H)} (h : d ∈ l) : Rows.uptoBulk d ≤ Rows.uptoBulkAll l := by
  induction l with
  | nil => cases h
  | cons x r ih =>
    simp only [Rows.uptoBulkAll]
    cases List.mem_cons.1 h with
    | inl e => subst e; omega
    | inr e => have := ih e; omega
theorem bulk_length_le {H : Type} (l : List (DataW H)) : l.length ≤ Rows.uptoBulkAll l := by
  induction l with
  | nil => simp [Rows.uptoBulkAll]
  | cons x r ih => have := bulk_one_le x; simp only [Rows.uptoBulkAll, List.length_cons]; omega
theorem bulk_agg {H : Type} {d : DataW H} {l : List (DataW H)} (h : d ∈ l) : Rows.uptoBulk d ≤ Rows.uptoBulk (.agg l) := by
  have := bulk_part_le h
  simp only [Rows.uptoBulk]
  omega
theorem bulk_slice {H : Type} {d : DataW H} {l r : List (DataW H)} (h : d ∈ l) : Rows.uptoBulk d ≤ Rows.uptoBulk (.slice l r) := by
  have := bulk_part_le h
  simp only [Rows.uptoBulk]
  omega
theorem bulk_slice_len {H : Type} (l r : List (DataW H)) : l.length ≤ Rows.uptoBulk (.slice l r) := by
  have := bulk_length_le l
  simp only [Rows.uptoBulk]
  omega
/-- all that a form holds is bounded -/
structure BdF (B : Nat) (f : FD) : Prop where
  n : f.n ≤ B
  ts : ∀ (i : Nat) (t : TD), f.ts[i]? = some t → Few B t.c
  k : Few B f.k
structure BdP (B : Nat) (p : PD) : Prop where
  rn : p.rn ≤ B
  obj : BdF B p.obj
  rows : ∀ (i : Nat) (f : FD), p.rows[i]? = some f → BdF B f
theorem Few.mono {m M : Nat} {r : RD} (h : Few m r) (hm : m ≤ M) : Few M r := ⟨Nat.le_trans h.1 hm, Nat.le_trans h.2 hm⟩
theorem BdF.mono {m M : Nat} {f : FD} (h : BdF m f) (hm : m ≤ M) : BdF M f := ⟨Nat.le_trans h.n hm, fun i t ht => (h.ts i t ht).mono hm, h.k.mono hm⟩
theorem BdP.mono {m M : Nat} {p : PD} (h : BdP m p) (hm : m ≤ M) : BdP M p := ⟨Nat.le_trans h.rn hm, h.obj.mono hm, fun i t ht => (h.rows i t ht).mono hm⟩
theorem BdF.few {m : Nat} {f : FD} (h : BdF m f) (hm : m ≤ 1048576) : FewF f := ⟨Nat.le_trans h.n (by omega), fun i t ht => (h.ts i t ht).mono (by omega), h.k.mono (by omega)⟩
theorem BdP.few {m : Nat} {p : PD} (h : BdP m p) (hm : m ≤ 1048576) : FewP p := ⟨h.obj.few hm, fun i f hf => (h.rows i f hf).few hm⟩
section
variable {H : Type} {enc : TypeId × Value → H} {w : World} {base : Nat} {spare : Nat → Bool} {held : Bool}
theorem fldB {t : TypeId} {fs : Array Field} {fuel : Nat} {cs : List Value} {x : DataW H × List MemPlace} (hs : Tryz.prog.underlying t = some (.struct fs)) (h : DataW.trod enc Tryz.prog w base spare held fuel t cs = some x) :
    cs.length = Tryz.prog.cellsOf t ∧ ∀ (i : Nat) (f : Field) (T : TypeId) (o : Nat), fs[i]? = some f → f.type = T → f.offset = o → ∃ n y, DataW.trod enc Tryz.prog w base spare held n T ((cs.drop o).take (Tryz.prog.cellsOf T)) = some y ∧ Rows.uptoBulk y.1 ≤ Rows.uptoBulk x.1 := by
  obtain ⟨xs, n, _, hx, hl, hlen, hg⟩ := DataW.trod_struct hs h
  refine ⟨hl, fun i f T o hf hT ho => ⟨n, xs[i]'(by rw [hlen]; exact (Array.getElem?_eq_some_iff.1 hf).1), ?_, ?_⟩⟩
  · subst hT ho
    rw [hg i f hf]
    exact List.getElem?_eq_getElem _
  · rw [hx]
    exact bulk_agg (List.mem_map.2 ⟨_, List.getElem_mem _, rfl⟩)
theorem natB {fuel : Nat} {ad : Option Addr} {n c : Nat} {x : DataW H × List MemPlace} (h : DataW.trod enc Tryz.prog w base spare held fuel 25 [.slice ad n c] = some x) : n ≤ Rows.uptoBulk x.1 := by
  rcases open_ints Tryz.underlying25 Tryz.underlying99 c75 h with ⟨e, _⟩ | ⟨a, len, cap, zs, e, _, hl, hm, hlen, hx, _, _⟩
  · cases e; omega
  · cases e
    rw [hx]
    have h1 := bulk_slice_len (H := H) (lits .u32 (zs.take n)) (lits .u32 (zs.drop n))
    have h2 : (lits (H := H) .u32 (zs.take n)).length = n := by
      simp only [lits, List.length_map, List.length_take, hlen]
      split <;> omega
    rw [h2] at h1
    exact h1
set_option maxRecDepth 100000 in
theorem ratB {fuel : Nat} {cs : List Value} {x : DataW H × List MemPlace} (h : DataW.trod enc Tryz.prog w base spare held fuel 27 cs = some x) :
    ∃ r : RD, cs = [.bool r.neg, .slice r.a1 r.n1 r.c1, .slice r.a2 r.n2 r.c2] ∧ r.In w ∧ Few (Rows.uptoBulk x.1) r := by
  obtain ⟨hl, hf⟩ := fldB Tryz.underlying27 h
  rw [c27] at hl
  match cs, hl with
  | [x0, x1, x2], _ =>
    obtain ⟨n0, y0, h0, _⟩ := hf 0 _ 4 0 rfl rfl rfl
    obtain ⟨n1, y1, h1, b1⟩ := hf 1 _ 25 1 rfl rfl rfl
    obtain ⟨n2, y2, h2, b2⟩ := hf 2 _ 25 2 rfl rfl rfl
    simp only [c4, c25, List.drop_zero, List.drop_succ_cons, List.take_succ_cons, List.take_zero] at h0 h1 h2
    obtain ⟨b, e0, _⟩ := DataW.trod_bool Tryz.underlying4 h0
    obtain ⟨a1, m1, d1, l1, e1, g1, k1⟩ := op_nat h1
    obtain ⟨a2, m2, d2, l2, e2, g2, k2⟩ := op_nat h2
    cases e0; cases e1; cases e2
    exact ⟨⟨b, a1, m1, d1, l1, a2, m2, d2, l2⟩, rfl, ⟨g1, g2⟩, Nat.le_trans (natB h1) b1, Nat.le_trans (natB h2) b2⟩
set_option maxRecDepth 100000 in
theorem termB {fuel : Nat} {cs : List Value} {x : DataW H × List MemPlace} (h : DataW.trod enc Tryz.prog w base spare held fuel 52 cs = some x) :
    ∃ t : TD, cs = [.int .i64 t.v, .bool t.c.neg, .slice t.c.a1 t.c.n1 t.c.c1, .slice t.c.a2 t.c.n2 t.c.c2] ∧ t.c.In w ∧ Few (Rows.uptoBulk x.1) t.c := by
  obtain ⟨hl, hf⟩ := fldB Tryz.underlying52 h
  rw [c50] at hl
  match cs, hl with
  | [x0, x1, x2, x3], _ =>
    obtain ⟨n0, y0, h0, _⟩ := hf 0 _ 3 0 rfl rfl rfl
    obtain ⟨n1, y1, h1, b1⟩ := hf 1 _ 27 1 rfl rfl rfl
    simp only [c3, c27, List.drop_zero, List.drop_succ_cons, List.take_succ_cons, List.take_zero] at h0 h1
    obtain ⟨v, e0, _⟩ := DataW.trod_int Tryz.underlying3 h0
    obtain ⟨r, e1, g1, q1⟩ := ratB h1
    cases e0; cases e1
    exact ⟨⟨v, r⟩, rfl, g1, q1.mono b1⟩
/-- a slice of structs of k cells, element by element -/
theorem sliceB {T : Type} [Inhabited T] {t e : TypeId} {k fuel : Nat} {cs : List Value} {x : DataW H × List MemPlace} (ht : Tryz.prog.underlying t = some (.slice e)) (hk : Tryz.prog.cellsOf e = k) (h0k : 0 < k) (P : T → List Value → Prop)
    (hel : ∀ n cs y, DataW.trod enc Tryz.prog w base spare held n e cs = some y → Rows.uptoBulk y.1 ≤ Rows.uptoBulk x.1 → ∃ u, P u cs) (h : DataW.trod enc Tryz.prog w base spare held fuel t cs = some x) :
    ∃ ad n c, ∃ us : List T, cs = [.slice ad n c] ∧ us.length = n ∧ n ≤ c ∧ n ≤ maxLen ∧ n ≤ Rows.uptoBulk x.1 ∧ (0 < n → ∃ b o, ad = some ⟨b, o, none⟩ ∧ b < w.heap.size ∧ ∀ (i : Nat) (u : T), us[i]? = some u → ∃ cs', P u cs' ∧ cs'.length = k ∧ ∀ j, j < k → w.cell? ⟨b, o + i * k + j, none⟩ = cs'[j]?) := by
  rcases open_slice ht h with ⟨rfl, _⟩ | ⟨a, len, cap, m, n, D, Pl, rfl, _, hl, hm, hmm, hx, hi⟩
  · exact ⟨none, 0, 0, [], rfl, rfl, by omega, by simp [maxLen], by omega, fun h => by omega⟩
  · have hbl : len ≤ Rows.uptoBulk x.1 := by
      rw [hx]
      have := bulk_slice_len ((List.range len).map D) ((List.range (m - len)).map fun j => D (len + j))
      simpa using this
    have hbe : ∀ i, i < len → Rows.uptoBulk (D i) ≤ Rows.uptoBulk x.1 := fun i hi => by
      rw [hx]
      exact bulk_slice (List.mem_map.2 ⟨i, by simpa using hi, rfl⟩)
    have hlm : len ≤ m := by rw [hmm]; split <;> omega
    obtain ⟨U, hU⟩ := choose_lt (n := len) (p := fun i (u : T) => ∃ cs', P u cs' ∧ w.cells? base (a.add (i * k)) k = some cs') (fun i hil => by
      obtain ⟨cs', h1, h2⟩ := hi i (by omega)
      rw [hk] at h1
      obtain ⟨u, hu⟩ := hel _ _ _ h2 (hbe i hil)
      exact ⟨u, cs', hu, h1⟩)
    refine ⟨some a, len, cap, (List.range len).map U, rfl, by simp, hl, by omega, hbl, fun h0 => ?_⟩
    have hz := (hU 0 h0).choose_spec.2
    obtain ⟨_, hz1, hz2⟩ := World.cells?_some hz
    have hz3 := hz2 0 h0k
    rw [List.getElem?_eq_getElem (by omega)] at hz3
    have hs0 := World.cell?_spot hz3
    have hb0 := World.block_lt_of_cell? w _ hz3
    obtain ⟨b, o, sp⟩ := a
    have hsp : sp = none := by
      simp [Addr.add] at hs0
      exact hs0
    subst hsp
    refine ⟨b, o, rfl, by rw [addr_at, addr_at] at hb0; exact hb0, fun i u hu => ?_⟩
    have hil : i < len := by have := (List.getElem?_eq_some_iff.1 hu).1; simpa using this
    simp [hil] at hu
    subst hu
    obtain ⟨cs', hp, hc⟩ := hU i hil
    obtain ⟨_, q1, q2⟩ := World.cells?_some hc
    refine ⟨cs', hp, q1, fun j hj => ?_⟩
    have := q2 j hj
    rw [addr_at, addr_at] at this
    exact this
theorem termsB {fuel : Nat} {cs : List Value} {x : DataW H × List MemPlace} (h : DataW.trod enc Tryz.prog w base spare held fuel 23 cs = some x) :
    ∃ ad n c ts, cs = [.slice ad n c] ∧ TermsR w ad n c ts ∧ n ≤ Rows.uptoBulk x.1 ∧ ∀ (i : Nat) (t : TD), ts[i]? = some t → Few (Rows.uptoBulk x.1) t.c := by
  obtain ⟨ad, n, c, us, rfl, h1, h2, h3, hb, h4⟩ := sliceB Tryz.underlying23 c50 (by omega) (fun (t : TD) cs => cs = [.int .i64 t.v, .bool t.c.neg, .slice t.c.a1 t.c.n1 t.c.c1, .slice t.c.a2 t.c.n2 t.c.c2] ∧ t.c.In w ∧ Few (Rows.uptoBulk x.1) t.c) (fun n cs y h hb => by obtain ⟨t, e, g, q⟩ := termB h; exact ⟨t, e, g, q.mono hb⟩) h
  have hp : ∀ (i : Nat) (t : TD), us[i]? = some t → t.c.In w ∧ Few (Rows.uptoBulk x.1) t.c := fun i t ht => by
    obtain ⟨b, o, _, _, hc⟩ := h4 (by have := (List.getElem?_eq_some_iff.1 ht).1; omega)
    obtain ⟨_, ⟨_, hp⟩, _⟩ := hc i t ht
    exact hp
  refine ⟨ad, n, c, us, rfl, ⟨h1, h2, fun i t ht => (hp i t ht).1, fun h0 => ?_⟩, hb, fun i t ht => (hp i t ht).2⟩
  obtain ⟨b, o, e, hb, hc⟩ := h4 h0
  refine ⟨b, o, e, hb, fun i t ht => ?_⟩
  obtain ⟨cs', ⟨rfl, _⟩, _, hj⟩ := hc i t ht
  exact ⟨hj 0 (by omega), hj 1 (by omega), hj 2 (by omega), hj 3 (by omega)⟩
set_option maxRecDepth 100000 in
theorem formB {fuel : Nat} {cs : List Value} {x : DataW H × List MemPlace} (h : DataW.trod enc Tryz.prog w base spare held fuel 29 cs = some x) :
    ∃ f : FD, cs = [.slice f.ad f.n f.c, .bool f.k.neg, .slice f.k.a1 f.k.n1 f.k.c1, .slice f.k.a2 f.k.n2 f.k.c2] ∧ f.In w ∧ BdF (Rows.uptoBulk x.1) f := by
  obtain ⟨hl, hf⟩ := fldB Tryz.underlying29 h
  rw [c29] at hl
  match cs, hl with
  | [x0, x1, x2, x3], _ =>
    obtain ⟨n0, y0, h0, b0⟩ := hf 0 _ 23 0 rfl rfl rfl
    obtain ⟨n1, y1, h1, b1⟩ := hf 1 _ 27 1 rfl rfl rfl
    simp only [c23, c27, List.drop_zero, List.drop_succ_cons, List.take_succ_cons, List.take_zero] at h0 h1
    obtain ⟨ad, n, c, ts, e0, g0, q0, r0⟩ := termsB h0
    obtain ⟨r, e1, g1, q1⟩ := ratB h1
    cases e0; cases e1
    exact ⟨⟨ad, n, c, ts, r⟩, rfl, ⟨g0, g1⟩, ⟨Nat.le_trans q0 b0, fun i t ht => (r0 i t ht).mono b0, q1.mono b1⟩⟩
theorem rowsB {fuel : Nat} {cs : List Value} {x : DataW H × List MemPlace} (h : DataW.trod enc Tryz.prog w base spare held fuel 22 cs = some x) :
    ∃ ad n c fs, cs = [.slice ad n c] ∧ RowsR w ad n c fs ∧ n ≤ Rows.uptoBulk x.1 ∧ ∀ (i : Nat) (f : FD), fs[i]? = some f → BdF (Rows.uptoBulk x.1) f := by
  obtain ⟨ad, n, c, us, rfl, h1, h2, h3, hb, h4⟩ := sliceB Tryz.underlying22 c29 (by omega) (fun (f : FD) cs => cs = [.slice f.ad f.n f.c, .bool f.k.neg, .slice f.k.a1 f.k.n1 f.k.c1, .slice f.k.a2 f.k.n2 f.k.c2] ∧ f.In w ∧ BdF (Rows.uptoBulk x.1) f) (fun n cs y h hb => by obtain ⟨t, e, g, q⟩ := formB h; exact ⟨t, e, g, q.mono hb⟩) h
  have hp : ∀ (i : Nat) (t : FD), us[i]? = some t → t.In w ∧ BdF (Rows.uptoBulk x.1) t := fun i t ht => by
    obtain ⟨b, o, _, _, hc⟩ := h4 (by have := (List.getElem?_eq_some_iff.1 ht).1; omega)
    obtain ⟨_, ⟨_, hp⟩, _⟩ := hc i t ht
    exact hp
  refine ⟨ad, n, c, us, rfl, ⟨h1, h2, fun i t ht => (hp i t ht).1, fun h0 => ?_⟩, hb, fun i t ht => (hp i t ht).2⟩
  obtain ⟨b, o, e, hb, hc⟩ := h4 h0
  refine ⟨b, o, e, hb, fun i t ht => ?_⟩
  obtain ⟨cs', ⟨rfl, _⟩, _, hj⟩ := hc i t ht
  exact ⟨hj 0 (by omega), hj 1 (by omega), hj 2 (by omega), hj 3 (by omega)⟩
set_option maxRecDepth 100000 in
theorem progB {fuel : Nat} {cs : List Value} {x : DataW H × List MemPlace} (h : DataW.trod enc Tryz.prog w base spare held fuel 31 cs = some x) :
    ∃ p : PD, cs = [.int .i64 p.vars, .slice p.ra p.rn p.rc, .slice p.obj.ad p.obj.n p.obj.c, .bool p.obj.k.neg, .slice p.obj.k.a1 p.obj.k.n1 p.obj.k.c1, .slice p.obj.k.a2 p.obj.k.n2 p.obj.k.c2] ∧ p.In w ∧ BdP (Rows.uptoBulk x.1) p := by
  obtain ⟨hl, hf⟩ := fldB Tryz.underlying31 h
  rw [c31] at hl
  match cs, hl with
  | [x0, x1, x2, x3, x4, x5], _ =>
    obtain ⟨n0, y0, h0, _⟩ := hf 0 _ 3 0 rfl rfl rfl
    obtain ⟨n1, y1, h1, b1⟩ := hf 1 _ 22 1 rfl rfl rfl
    obtain ⟨n2, y2, h2, b2⟩ := hf 2 _ 29 2 rfl rfl rfl
    simp only [c3, c22, c29, List.drop_zero, List.drop_succ_cons, List.take_succ_cons, List.take_zero] at h0 h1 h2
    obtain ⟨v, e0, _⟩ := DataW.trod_int Tryz.underlying3 h0
    obtain ⟨ad, n, c, fs, e1, g1, q1, r1⟩ := rowsB h1
    obtain ⟨f, e2, g2, q2⟩ := formB h2
    cases e0; cases e1; cases e2
    exact ⟨⟨v, ad, n, c, fs, f⟩, rfl, ⟨g1, g2⟩, ⟨Nat.le_trans q1 b1, q2.mono b2, fun i t ht => (r1 i t ht).mono b1⟩⟩
end
end Go.Proofs.YtledagemcknlcaaGreat
namespace Go.Proofs.YtledagemcknlcaaGreat
open Go.RowKit

theorem OkP.mono {m M : Nat} {xs : List RD} (h : OkP m xs) (hm : m ≤ M) : OkP M xs := fun i r hr => ⟨(h i r hr).1, Nat.le_trans (h i r hr).2 hm⟩
theorem SmF.lim {f : FD} (h : SmF f) : LimF 2 f := ⟨by have := h.n; omega, fun i t ht => ⟨(h.ts i t ht).1, (h.ts i t ht).2.1⟩, ⟨h.k.1, h.k.2.1⟩⟩
theorem SmPr.lim {p : PD} (h : SmPr p) : LimP 2 p := ⟨h.obj.lim, fun i f hf => (h.rows.2 i f hf).lim⟩
theorem SmPr.ok {p : PD} {w : World} (h : SmPr p) (hp : p.In w) : OkPD 3 p := ⟨fun i f hf => form_ok (hp.rows.ok i f hf) (h.lim.rows i f hf) (h.pv.rows i f hf), form_ok hp.obj h.lim.obj h.pv.obj, h.pv.rn⟩
theorem fev_H2 {f : FD} {vars : Int} {m : Nat} {w : World} {xs : List RD} (h : f.In w) (hl : LimF m f) (hm : m ≤ 65535) (hv : FormV f.ts f.k vars) (hox : OkP (m + 1) xs) : H (fev f xs) ≤ 8600000000 := by
  have h1 := evN_H (form_okT h hl hv) hox (rd_H h.const hv.2 hl.k) f.n
  have h2 : f.n * (2 * (m + 1) + 3) ≤ 65536 * (2 * 65536 + 3) := Nat.mul_le_mul hl.n (by omega)
  unfold fev
  omega
theorem valQ_H {p : PD} {w : World} {xs : List RD} {m : Nat} (hp : p.In w) (hl : LimP m p) (hm : m ≤ 65535) (hx : OkP (m + 1) xs) : H (valQ p xs) ≤ 8600000000 := by
  unfold valQ
  split
  · rename_i h9
    exact fev_H2 (m := m) hp.obj hl.obj hm h9.1.obj hx
  · show H (0 : Rat) ≤ 8600000000
    rw [H_zero]; omega
theorem FeasS.valE {p : PD} {xs : List RD} (h : FeasS p xs) : Go.Proofs.YtledagemcknlcaaGreat.valE p xs = 0 := by
  unfold Go.Proofs.YtledagemcknlcaaGreat.valE
  rw [if_pos h.pv, if_pos h.len]

end Go.Proofs.YtledagemcknlcaaGreat
