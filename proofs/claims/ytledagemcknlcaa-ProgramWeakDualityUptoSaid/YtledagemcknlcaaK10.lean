/- relucertlaw27.forms: what the call returns. relucertlaw27.ProgramValid: the call returns true. arguments that came in: what their readings hold. -/
import Derived.Test.YtledagemcknlcaaK8
import Derived.Test.YtledagemcknlcaaK9
import Derived.Deep.Slices
import Derived.ChangeArms
import Derived.ChangeSlices
import Derived.DataReads
import Derived.OpenShut
set_option linter.all false
namespace Go.Proofs.Ytledagemcknlcaa
open Go.RowKit

/-- a form has few terms with few limbs -/
structure FormsF (f : FD) : Prop where
  n : f.n ≤ 10
  k1 : f.k.n1 ≤ 4
  k2 : f.k.n2 ≤ 4
  ts : ∀ (i : Nat) (t : TD), f.ts[i]? = some t → t.c.n1 ≤ 4 ∧ t.c.n2 ≤ 4
structure FormsS (p : PD) : Prop where
  rn : p.rn ≤ 10
  obj : FormsF p.obj
  rows : ∀ (i : Nat) (f : FD), p.rows[i]? = some f → FormsF f
noncomputable instance (p : PD) : Decidable (FormsS p) := Classical.propDecidable _
theorem FormsF.lim {f : FD} (h : FormsF f) : LimF 4 f := ⟨by have := h.n; omega, h.ts, ⟨h.k1, h.k2⟩⟩
theorem FormsS.lim {p : PD} (h : FormsS p) : LimP 4 p := ⟨h.obj.lim, fun i f hf => (h.rows i f hf).lim⟩

set_option maxRecDepth 100000 in
set_option maxHeartbeats 12800000 in
theorem forms_aux (w : World) (p : PD) (ra : Option Addr) (hra : p.ra = ra) (hp : p.In w) :
    Calls Try.prog 7 #[.agg #[.int .i64 p.vars, .slice ra p.rn p.rc, .slice p.obj.ad p.obj.n p.obj.c, .bool p.obj.k.neg, .slice p.obj.k.a1 p.obj.k.n1 p.obj.k.c1, .slice p.obj.k.a2 p.obj.k.n2 p.obj.k.c2]] w (RetB (decide (FormsS p)) w) := by
  have hP := Pro1.mk' w #[.int .i64 p.vars, .slice ra p.rn p.rc, .slice p.obj.ad p.obj.n p.obj.c, .bool p.obj.k.neg, .slice p.obj.k.a1 p.obj.k.n1 p.obj.k.c1, .slice p.obj.k.a2 p.obj.k.n2 p.obj.k.c2] 31
  go_enter Try.func7, Try.ntmps7
  go_upto_region 1 with (fail)
  generalize w.alloc (.cells #[.int .i64 p.vars, .slice ra p.rn p.rc, .slice p.obj.ad p.obj.n p.obj.c, .bool p.obj.k.neg, .slice p.obj.k.a1 p.obj.k.n1 p.obj.k.c1, .slice p.obj.k.a2 p.obj.k.n2 p.obj.k.c2] 31) = W at *
  have k00 := hP.b0.cell 0
  have k01 := hP.b0.cell 1
  have k02 := hP.b0.cell 2
  have k03 := hP.b0.cell 3
  have k04 := hP.b0.cell 4
  have k05 := hP.b0.cell 5
  simp at k00 k01 k02 k03 k04 k05
  have z0 := hP.b0.lt
  have hPb := hP.below
  have HPS := Lib.hid hP.size
  have pW := hp.on hPb
  have gr : RowsR W ra p.rn p.rc p.rows := by rw [← hra]; exact pW.rows
  have HRL := Lib.hid gr.len
  clear hP hp hra
  by_cases e1 : 10 < p.rn
  · have HE : Hid (decide (FormsS p) = false) := decide_eq_false (fun h => by have := h.rn; omega)
    have d1 : decide (10 < p.rn) = true := decide_eq_true e1
    have d2 : decide ((10 : Int) < (p.rn : Int)) = true := decide_eq_true (by omega)
    go_wp2_with fail
    go_ret
    exact retB_end HE.out.symm hPb
  have e0 : decide (10 < p.rn) = false := decide_eq_false e1
  have e0' : decide ((10 : Int) < (p.rn : Int)) = false := decide_eq_false (by omega)
  have hrn : p.rn ≤ 10 := by omega
  clear e1
  go_wp2_with fail
  go_loopw [3] (fun s3 wr => ∃ i : Int, -1 ≤ i ∧ i ≤ (p.rn : Int) ∧ s3 = .int .i64 i ∧ Hid (0 ≤ i → FormsF p.obj) ∧ Hid (∀ (j : Nat) (f : FD), (j : Int) < i → p.rows[j]? = some f → FormsF f) ∧ Below W.heap.size W wr) (fun i _ => ((p.rn : Int) - intOf i).toNat)
  case atStart => exact ⟨-1, by omega, by omega, rfl, (fun h => by omega : (0 : Int) ≤ -1 → FormsF p.obj), (fun j f hj => by omega : ∀ (j : Nat) (f : FD), (j : Int) < -1 → p.rows[j]? = some f → FormsF f), Below.refl _ _⟩
  case round =>
    obtain ⟨i, hi0, hi1, rfl, HO, HR, hb⟩ := hrel
    obtain ⟨hcr, hfr⟩ := bcell hb
    have zr := Nat.lt_of_lt_of_le z0 hb.size
    rcases Int.lt_or_le i 0 with hi2 | hi2
    · obtain rfl : i = -1 := by omega
      have l1 : decide ((-1 : Int) < (p.rn : Int)) = true := decide_eq_true (by omega)
      have gf := pW.obj.on hb
      go_upto_region 9 with (fail)
      have hQ := Pro1.mk' wr #[.slice p.obj.ad p.obj.n p.obj.c, .bool p.obj.k.neg, .slice p.obj.k.a1 p.obj.k.n1 p.obj.k.c1, .slice p.obj.k.a2 p.obj.k.n2 p.obj.k.c2] 29
      generalize wr.alloc (.cells #[.slice p.obj.ad p.obj.n p.obj.c, .bool p.obj.k.neg, .slice p.obj.k.a1 p.obj.k.n1 p.obj.k.c1, .slice p.obj.k.a2 p.obj.k.n2 p.obj.k.c2] 29) = U at *
      have u0 := hQ.b0.cell 0
      have u1 := hQ.b0.cell 1
      have u2 := hQ.b0.cell 2
      have u3 := hQ.b0.cell 3
      simp at u0 u1 u2 u3
      have uz := hQ.b0.lt
      have hbU := hb.trans (hQ.below.mono hb.size)
      obtain ⟨hcU, hfU⟩ := bcell hbU
      have gU := gf.on hQ.below
      have zU := Nat.lt_of_lt_of_le z0 hbU.size
      clear hQ hcr hfr
      by_cases c1 : 10 < p.obj.n
      · have HE : Hid (decide (FormsS p) = false) := decide_eq_false (fun h => by have h9 := (h.obj).n; omega)
        have d1 : decide (10 < p.obj.n) = true := decide_eq_true c1
        have d2 : decide ((10 : Int) < (p.obj.n : Int)) = true := decide_eq_true (by omega)
        go_wp2_with fail
        go_ret
        exact retB_end HE.out.symm (hPb.trans (hbU.mono (by have := HPS.out; omega)))
      have d1 : decide (10 < p.obj.n) = false := decide_eq_false c1
      have d2 : decide ((10 : Int) < (p.obj.n : Int)) = false := decide_eq_false (by omega)
      by_cases c2 : 4 < p.obj.k.n1
      · have HE : Hid (decide (FormsS p) = false) := decide_eq_false (fun h => by have h9 := (h.obj).k1; omega)
        have d3 : decide (4 < p.obj.k.n1) = true := decide_eq_true c2
        have d4 : decide ((4 : Int) < (p.obj.k.n1 : Int)) = true := decide_eq_true (by omega)
        go_wp2_with fail
        go_ret
        exact retB_end HE.out.symm (hPb.trans (hbU.mono (by have := HPS.out; omega)))
      have d3 : decide (4 < p.obj.k.n1) = false := decide_eq_false c2
      have d4 : decide ((4 : Int) < (p.obj.k.n1 : Int)) = false := decide_eq_false (by omega)
      by_cases c3 : 4 < p.obj.k.n2
      · have HE : Hid (decide (FormsS p) = false) := decide_eq_false (fun h => by have h9 := (h.obj).k2; omega)
        have d5 : decide (4 < p.obj.k.n2) = true := decide_eq_true c3
        have d6 : decide ((4 : Int) < (p.obj.k.n2 : Int)) = true := decide_eq_true (by omega)
        go_wp2_with fail
        go_ret
        exact retB_end HE.out.symm (hPb.trans (hbU.mono (by have := HPS.out; omega)))
      have d5 : decide (4 < p.obj.k.n2) = false := decide_eq_false c3
      have d6 : decide ((4 : Int) < (p.obj.k.n2 : Int)) = false := decide_eq_false (by omega)
      have HK : Hid (p.obj.n ≤ 10 ∧ p.obj.k.n1 ≤ 4 ∧ p.obj.k.n2 ≤ 4) := ⟨by omega, by omega, by omega⟩
      have hfn : p.obj.n ≤ 10 := by omega
      clear c1 c2 c3
      go_wp2_with fail
      obtain ⟨Uo, rfl⟩ : ∃ Uo : World, Uo = U := ⟨_, rfl⟩
      go_loopw [5] (fun s5 wi => ∃ j, j ≤ p.obj.n ∧ s5 = .int .i64 (j : Nat) ∧ Hid (∀ (l : Nat) (t : TD), l < j → p.obj.ts[l]? = some t → t.c.n1 ≤ 4 ∧ t.c.n2 ≤ 4) ∧ Below Uo.heap.size Uo wi) (fun j _ => p.obj.n - (intOf j).toNat)
      case atStart => exact ⟨0, by omega, rfl, (fun l t hl => by omega : ∀ (l : Nat) (t : TD), l < 0 → p.obj.ts[l]? = some t → t.c.n1 ≤ 4 ∧ t.c.n2 ≤ 4), Below.refl _ _⟩
      case round =>
        obtain ⟨j, hj, rfl, HJ, hbi⟩ := hrel
        obtain ⟨hci, hfi⟩ := bcell hbi
        have ui := Nat.lt_of_lt_of_le uz hbi.size
        by_cases hlt : j < p.obj.n
        · obtain ⟨b, o, t, hfa, hbl, HT, gt, t0, t1, t2, t3⟩ := (gU.on hbi).terms.at_ hlt
          have t2' : wr.cell? ⟨b, o + j * 4 + 1 + 1, none⟩ = some (.slice t.c.a1 t.c.n1 t.c.c1) := t2
          have t3' : wr.cell? ⟨b, o + j * 4 + 1 + 2, none⟩ = some (.slice t.c.a2 t.c.n2 t.c.c2) := t3
          by_cases c4 : 4 < t.c.n1
          · have HE : Hid (decide (FormsS p) = false) := decide_eq_false (fun h => by have h9 := ((h.obj).ts j t HT.out).1; omega)
            have d7 : decide (4 < t.c.n1) = true := decide_eq_true c4
            have d8 : decide ((4 : Int) < (t.c.n1 : Int)) = true := decide_eq_true (by omega)
            go_wp2_with fail
            go_ret
            exact retB_end HE.out.symm (hPb.trans ((hbU.trans (hbi.mono hbU.size)).mono (by have := HPS.out; omega)))
          have d7 : decide (4 < t.c.n1) = false := decide_eq_false c4
          have d8 : decide ((4 : Int) < (t.c.n1 : Int)) = false := decide_eq_false (by omega)
          by_cases c5 : 4 < t.c.n2
          · have HE : Hid (decide (FormsS p) = false) := decide_eq_false (fun h => by have h9 := ((h.obj).ts j t HT.out).2; omega)
            have d9 : decide (4 < t.c.n2) = true := decide_eq_true c5
            have d10 : decide ((4 : Int) < (t.c.n2 : Int)) = true := decide_eq_true (by omega)
            go_wp2_with fail
            go_ret
            exact retB_end HE.out.symm (hPb.trans ((hbU.trans (hbi.mono hbU.size)).mono (by have := HPS.out; omega)))
          have d9 : decide (4 < t.c.n2) = false := decide_eq_false c5
          have d10 : decide ((4 : Int) < (t.c.n2 : Int)) = false := decide_eq_false (by omega)
          have HN : Hid (t.c.n1 ≤ 4 ∧ t.c.n2 ≤ 4) := ⟨by omega, by omega⟩
          clear c4 c5
          go_wp2_with fail
          go_roundw
          case rel => exact ⟨j + 1, by omega, by go_num, (fun l t' hl ht' => (Nat.lt_or_ge l j).elim (fun h9 => HJ.out l t' h9 ht') (fun h9 => by have e9 : l = j := (by omega); rw [e9] at ht'; have := HT.out.symm.trans ht'; cases this; exact HN.out) : ∀ (l : Nat) (t : TD), l < j + 1 → p.obj.ts[l]? = some t → t.c.n1 ≤ 4 ∧ t.c.n2 ≤ 4), hbi⟩
          case measure => simp [intOf]; omega
        · have d7 : decide (j < p.obj.n) = false := decide_eq_false hlt
          have d8 : decide ((j : Int) < (p.obj.n : Int)) = false := decide_eq_false (by omega)
          have HFF : Hid (FormsF p.obj) := ⟨HK.out.1, HK.out.2.1, HK.out.2.2, fun l t ht => HJ.out l t (by have := (List.getElem?_eq_some_iff.1 ht).1; have := gU.terms.len; omega) ht⟩
          have hbn := hbU.trans (hbi.mono hbU.size)
          go_wp2_with fail
          go_roundw
          case rel => exact ⟨0, by omega, by omega, rfl, (fun _ => HFF.out : (0 : Int) ≤ 0 → FormsF p.obj), (fun j f hj => by omega : ∀ (j : Nat) (f : FD), (j : Int) < 0 → p.rows[j]? = some f → FormsF f), hbn⟩
          case measure => (simp [intOf]; try omega)
    · obtain ⟨i, rfl⟩ : ∃ k : Nat, i = (k : Int) := ⟨i.toNat, by omega⟩
      by_cases hlt0 : i < p.rn
      · obtain ⟨b0, o0, f, rfl, hbl0, HF0, gf, r0, r1, r2, r3⟩ := (gr.on hb).at_ hlt0
        have l1 : decide ((i : Int) < (p.rn : Int)) = true := decide_eq_true (by omega)
        have l2 : decide (i < p.rn) = true := decide_eq_true hlt0
        go_upto_region 9 with (fail)
        have hQ := Pro1.mk' wr #[.slice f.ad f.n f.c, .bool f.k.neg, .slice f.k.a1 f.k.n1 f.k.c1, .slice f.k.a2 f.k.n2 f.k.c2] 29
        generalize wr.alloc (.cells #[.slice f.ad f.n f.c, .bool f.k.neg, .slice f.k.a1 f.k.n1 f.k.c1, .slice f.k.a2 f.k.n2 f.k.c2] 29) = U at *
        have u0 := hQ.b0.cell 0
        have u1 := hQ.b0.cell 1
        have u2 := hQ.b0.cell 2
        have u3 := hQ.b0.cell 3
        simp at u0 u1 u2 u3
        have uz := hQ.b0.lt
        have hbU := hb.trans (hQ.below.mono hb.size)
        obtain ⟨hcU, hfU⟩ := bcell hbU
        have gU := gf.on hQ.below
        have zU := Nat.lt_of_lt_of_le z0 hbU.size
        clear hQ hcr hfr
        by_cases c1 : 10 < f.n
        · have HE : Hid (decide (FormsS p) = false) := decide_eq_false (fun h => by have h9 := (h.rows i f HF0.out).n; omega)
          have d1 : decide (10 < f.n) = true := decide_eq_true c1
          have d2 : decide ((10 : Int) < (f.n : Int)) = true := decide_eq_true (by omega)
          go_wp2_with fail
          go_ret
          exact retB_end HE.out.symm (hPb.trans (hbU.mono (by have := HPS.out; omega)))
        have d1 : decide (10 < f.n) = false := decide_eq_false c1
        have d2 : decide ((10 : Int) < (f.n : Int)) = false := decide_eq_false (by omega)
        by_cases c2 : 4 < f.k.n1
        · have HE : Hid (decide (FormsS p) = false) := decide_eq_false (fun h => by have h9 := (h.rows i f HF0.out).k1; omega)
          have d3 : decide (4 < f.k.n1) = true := decide_eq_true c2
          have d4 : decide ((4 : Int) < (f.k.n1 : Int)) = true := decide_eq_true (by omega)
          go_wp2_with fail
          go_ret
          exact retB_end HE.out.symm (hPb.trans (hbU.mono (by have := HPS.out; omega)))
        have d3 : decide (4 < f.k.n1) = false := decide_eq_false c2
        have d4 : decide ((4 : Int) < (f.k.n1 : Int)) = false := decide_eq_false (by omega)
        by_cases c3 : 4 < f.k.n2
        · have HE : Hid (decide (FormsS p) = false) := decide_eq_false (fun h => by have h9 := (h.rows i f HF0.out).k2; omega)
          have d5 : decide (4 < f.k.n2) = true := decide_eq_true c3
          have d6 : decide ((4 : Int) < (f.k.n2 : Int)) = true := decide_eq_true (by omega)
          go_wp2_with fail
          go_ret
          exact retB_end HE.out.symm (hPb.trans (hbU.mono (by have := HPS.out; omega)))
        have d5 : decide (4 < f.k.n2) = false := decide_eq_false c3
        have d6 : decide ((4 : Int) < (f.k.n2 : Int)) = false := decide_eq_false (by omega)
        have HK : Hid (f.n ≤ 10 ∧ f.k.n1 ≤ 4 ∧ f.k.n2 ≤ 4) := ⟨by omega, by omega, by omega⟩
        have hfn : f.n ≤ 10 := by omega
        clear c1 c2 c3
        go_wp2_with fail
        obtain ⟨Uo, rfl⟩ : ∃ Uo : World, Uo = U := ⟨_, rfl⟩
        go_loopw [5] (fun s5 wi => ∃ j, j ≤ f.n ∧ s5 = .int .i64 (j : Nat) ∧ Hid (∀ (l : Nat) (t : TD), l < j → f.ts[l]? = some t → t.c.n1 ≤ 4 ∧ t.c.n2 ≤ 4) ∧ Below Uo.heap.size Uo wi) (fun j _ => f.n - (intOf j).toNat)
        case atStart => exact ⟨0, by omega, rfl, (fun l t hl => by omega : ∀ (l : Nat) (t : TD), l < 0 → f.ts[l]? = some t → t.c.n1 ≤ 4 ∧ t.c.n2 ≤ 4), Below.refl _ _⟩
        case round =>
          obtain ⟨j, hj, rfl, HJ, hbi⟩ := hrel
          obtain ⟨hci, hfi⟩ := bcell hbi
          have ui := Nat.lt_of_lt_of_le uz hbi.size
          by_cases hlt : j < f.n
          · obtain ⟨b, o, t, hfa, hbl, HT, gt, t0, t1, t2, t3⟩ := (gU.on hbi).terms.at_ hlt
            have t2' : wr.cell? ⟨b, o + j * 4 + 1 + 1, none⟩ = some (.slice t.c.a1 t.c.n1 t.c.c1) := t2
            have t3' : wr.cell? ⟨b, o + j * 4 + 1 + 2, none⟩ = some (.slice t.c.a2 t.c.n2 t.c.c2) := t3
            by_cases c4 : 4 < t.c.n1
            · have HE : Hid (decide (FormsS p) = false) := decide_eq_false (fun h => by have h9 := ((h.rows i f HF0.out).ts j t HT.out).1; omega)
              have d7 : decide (4 < t.c.n1) = true := decide_eq_true c4
              have d8 : decide ((4 : Int) < (t.c.n1 : Int)) = true := decide_eq_true (by omega)
              go_wp2_with fail
              go_ret
              exact retB_end HE.out.symm (hPb.trans ((hbU.trans (hbi.mono hbU.size)).mono (by have := HPS.out; omega)))
            have d7 : decide (4 < t.c.n1) = false := decide_eq_false c4
            have d8 : decide ((4 : Int) < (t.c.n1 : Int)) = false := decide_eq_false (by omega)
            by_cases c5 : 4 < t.c.n2
            · have HE : Hid (decide (FormsS p) = false) := decide_eq_false (fun h => by have h9 := ((h.rows i f HF0.out).ts j t HT.out).2; omega)
              have d9 : decide (4 < t.c.n2) = true := decide_eq_true c5
              have d10 : decide ((4 : Int) < (t.c.n2 : Int)) = true := decide_eq_true (by omega)
              go_wp2_with fail
              go_ret
              exact retB_end HE.out.symm (hPb.trans ((hbU.trans (hbi.mono hbU.size)).mono (by have := HPS.out; omega)))
            have d9 : decide (4 < t.c.n2) = false := decide_eq_false c5
            have d10 : decide ((4 : Int) < (t.c.n2 : Int)) = false := decide_eq_false (by omega)
            have HN : Hid (t.c.n1 ≤ 4 ∧ t.c.n2 ≤ 4) := ⟨by omega, by omega⟩
            clear c4 c5
            go_wp2_with fail
            go_roundw
            case rel => exact ⟨j + 1, by omega, by go_num, (fun l t' hl ht' => (Nat.lt_or_ge l j).elim (fun h9 => HJ.out l t' h9 ht') (fun h9 => by have e9 : l = j := (by omega); rw [e9] at ht'; have := HT.out.symm.trans ht'; cases this; exact HN.out) : ∀ (l : Nat) (t : TD), l < j + 1 → f.ts[l]? = some t → t.c.n1 ≤ 4 ∧ t.c.n2 ≤ 4), hbi⟩
            case measure => simp [intOf]; omega
          · have d7 : decide (j < f.n) = false := decide_eq_false hlt
            have d8 : decide ((j : Int) < (f.n : Int)) = false := decide_eq_false (by omega)
            have HFF : Hid (FormsF f) := ⟨HK.out.1, HK.out.2.1, HK.out.2.2, fun l t ht => HJ.out l t (by have := (List.getElem?_eq_some_iff.1 ht).1; have := gU.terms.len; omega) ht⟩
            have hbn := hbU.trans (hbi.mono hbU.size)
            go_wp2_with fail
            go_roundw
            case rel => exact ⟨(i : Int) + 1, by omega, by omega, by go_num, (fun _ => HO.out (by omega) : (0 : Int) ≤ (i : Int) + 1 → FormsF p.obj), (fun j' f' hj' hf' => (Nat.lt_or_ge j' i).elim (fun h9 => HR.out j' f' (by omega) hf') (fun h9 => by have e9 : j' = i := (by omega); rw [e9] at hf'; have := HF0.out.symm.trans hf'; cases this; exact HFF.out) : ∀ (j : Nat) (f : FD), (j : Int) < (i : Int) + 1 → p.rows[j]? = some f → FormsF f), hbn⟩
            case measure => (simp [intOf]; try omega)
      · have HE : Hid (decide (FormsS p) = true) := decide_eq_true ⟨hrn, HO.out (by omega), fun j f hf => HR.out j f (by have := (List.getElem?_eq_some_iff.1 hf).1; have := HRL.out; omega) hf⟩
        have l1 : decide ((i : Int) < (p.rn : Int)) = false := decide_eq_false (by omega)
        have l2 : decide (i < p.rn) = false := decide_eq_false hlt0
        go_wp2_with fail
        go_ret
        exact retB_end HE.out.symm (hPb.trans (hb.mono (by have := HPS.out; omega)))
theorem forms_any (w : World) (p : PD) (hp : p.In w) : Calls Try.prog 7 #[.agg #[.int .i64 p.vars, .slice p.ra p.rn p.rc, .slice p.obj.ad p.obj.n p.obj.c, .bool p.obj.k.neg, .slice p.obj.k.a1 p.obj.k.n1 p.obj.k.c1, .slice p.obj.k.a2 p.obj.k.n2 p.obj.k.c2]] w (RetB (decide (FormsS p)) w) := forms_aux w p p.ra rfl hp
end Go.Proofs.Ytledagemcknlcaa
namespace Go.Proofs.Ytledagemcknlcaa
open Go.RowKit

set_option maxRecDepth 100000 in
set_option maxHeartbeats 3200000 in
theorem valid_law (w : World) (p : PD) (hp : p.In w) :
    Calls Try.prog 3 #[.agg #[.int .i64 p.vars, .slice p.ra p.rn p.rc, .slice p.obj.ad p.obj.n p.obj.c, .bool p.obj.k.neg, .slice p.obj.k.a1 p.obj.k.n1 p.obj.k.c1, .slice p.obj.k.a2 p.obj.k.n2 p.obj.k.c2]] w (RetB true w) := by
  have hP := Pro1.mk' w #[.int .i64 p.vars, .slice p.ra p.rn p.rc, .slice p.obj.ad p.obj.n p.obj.c, .bool p.obj.k.neg, .slice p.obj.k.a1 p.obj.k.n1 p.obj.k.c1, .slice p.obj.k.a2 p.obj.k.n2 p.obj.k.c2] 31
  go_enter Try.func3, Try.ntmps3
  go_upto_region 1 with (fail)
  generalize w.alloc (.cells #[.int .i64 p.vars, .slice p.ra p.rn p.rc, .slice p.obj.ad p.obj.n p.obj.c, .bool p.obj.k.neg, .slice p.obj.k.a1 p.obj.k.n1 p.obj.k.c1, .slice p.obj.k.a2 p.obj.k.n2 p.obj.k.c2] 31) = W at *
  have k0 := hP.b0.cell 0
  have k1 := hP.b0.cell 1
  have k2 := hP.b0.cell 2
  have k3 := hP.b0.cell 3
  have k4 := hP.b0.cell 4
  have k5 := hP.b0.cell 5
  have kz := hP.b0.lt
  have hPb := hP.below
  have HPS := Lib.hid hP.size
  have pW := hp.on hPb
  simp at k0 k1 k2 k3 k4 k5
  clear hP hp
  go_wp2_with fail
  refine (awake_c W).mono ?_
  rintro e U ⟨rfl, hbU⟩
  have pU := pW.on hbU
  have hwU : Below w.heap.size w U := hPb.trans (hbU.mono (by have := HPS.out; omega))
  have k0 : U.cell? ⟨w.heap.size, 0, none⟩ = _ := (hbU.cell (p := ⟨w.heap.size, 0, none⟩) kz).trans k0
  have k1 : U.cell? ⟨w.heap.size, 1, none⟩ = _ := (hbU.cell (p := ⟨w.heap.size, 1, none⟩) kz).trans k1
  have k2 : U.cell? ⟨w.heap.size, 2, none⟩ = _ := (hbU.cell (p := ⟨w.heap.size, 2, none⟩) kz).trans k2
  have k3 : U.cell? ⟨w.heap.size, 3, none⟩ = _ := (hbU.cell (p := ⟨w.heap.size, 3, none⟩) kz).trans k3
  have k4 : U.cell? ⟨w.heap.size, 4, none⟩ = _ := (hbU.cell (p := ⟨w.heap.size, 4, none⟩) kz).trans k4
  have k5 : U.cell? ⟨w.heap.size, 5, none⟩ = _ := (hbU.cell (p := ⟨w.heap.size, 5, none⟩) kz).trans k5
  have uz : w.heap.size < U.heap.size := Nat.lt_of_lt_of_le kz hbU.size
  obtain ⟨hcx, hfx⟩ := upcell U
  obtain ⟨bF, hbF⟩ : ∃ b, decide (FormsS p) = b := ⟨_, rfl⟩
  obtain ⟨bV, hbV⟩ : ∃ b, decide (PV p) = b := ⟨_, rfl⟩
  have HF : Hid (∀ x : Up U, Calls Try.prog 7 #[.agg #[.int .i64 p.vars, .slice p.ra p.rn p.rc, .slice p.obj.ad p.obj.n p.obj.c, .bool p.obj.k.neg, .slice p.obj.k.a1 p.obj.k.n1 p.obj.k.c1, .slice p.obj.k.a2 p.obj.k.n2 p.obj.k.c2]] x.w (RetB bF x.w)) := fun x => by rw [← hbF]; exact forms_any x.w p (pU.on x.below)
  go_upto_region 3 with (fail)
  cases bF with
  | false =>
    clear hbF hbV
    refine wp_region_up (by kernel_rfl) (by kernel_rfl) ?_
    repeat (go_big_quiet_step ((go_at_call 7; exact up_b (HF.out _))))
    refine wpQuiet_nil ?_
    intro x
    go_wp2_with fail
    go_ret
    exact ⟨rfl, hwU.trans (x.below.mono hwU.size)⟩
  | true =>
    have hl := ((of_decide_eq_true hbF).lim).few (by omega)
    have HV1 : Hid (∀ x : Up U, Calls Try.prog 8 #[.agg #[.int .i64 p.vars, .slice p.ra p.rn p.rc, .slice p.obj.ad p.obj.n p.obj.c, .bool p.obj.k.neg, .slice p.obj.k.a1 p.obj.k.n1 p.obj.k.c1, .slice p.obj.k.a2 p.obj.k.n2 p.obj.k.c2]] x.w (RetB bV x.w)) := fun x => by rw [← hbV]; exact pvalid_any x.w p (pU.on x.below) hl
    have HV2 : Hid (∀ x : Up U, Calls Try.prog 9 #[.agg #[.int .i64 p.vars, .slice p.ra p.rn p.rc, .slice p.obj.ad p.obj.n p.obj.c, .bool p.obj.k.neg, .slice p.obj.k.a1 p.obj.k.n1 p.obj.k.c1, .slice p.obj.k.a2 p.obj.k.n2 p.obj.k.c2]] x.w (RetB bV x.w)) := fun x => by rw [← hbV]; exact fpvalid_any x.w p (pU.on x.below) hl
    clear hbF hbV hl
    refine wp_region_up (by kernel_rfl) (by kernel_rfl) ?_
    repeat (go_big_quiet_step ((first | (go_at_call 7; exact up_b (HF.out _)) | (go_at_call 8; exact up_b (HV1.out _)) | (go_at_call 9; exact up_b (HV2.out _)))))
    refine wpQuiet_nil ?_
    intro x
    go_wp2_with fail
    go_ret
    refine ⟨?_, hwU.trans (x.below.mono hwU.size)⟩
    cases bV <;> rfl
end Go.Proofs.Ytledagemcknlcaa
namespace Go.Proofs.Ytledagemcknlcaa
open Go.ChangeShapes Go.WideShapes Go.RowKit Go.Deep

section
variable {H : Type} {enc : TypeId × Value → H} {w : World} {base : Nat} {spare : Nat → Bool} {held : Bool}
theorem fld {t : TypeId} {fs : Array Field} {fuel : Nat} {cs : List Value} {x : DataW H × List MemPlace} (hs : Try.prog.underlying t = some (.struct fs)) (h : DataW.trod enc Try.prog w base spare held fuel t cs = some x) :
    cs.length = Try.prog.cellsOf t ∧ ∀ (i : Nat) (f : Field) (T : TypeId) (o : Nat), fs[i]? = some f → f.type = T → f.offset = o → ∃ n y, DataW.trod enc Try.prog w base spare held n T ((cs.drop o).take (Try.prog.cellsOf T)) = some y := by
  obtain ⟨xs, n, _, _, hl, hlen, hg⟩ := DataW.trod_struct hs h
  refine ⟨hl, fun i f T o hf hT ho => ⟨n, xs[i]'(by rw [hlen]; exact (Array.getElem?_eq_some_iff.1 hf).1), ?_⟩⟩
  subst hT ho
  rw [hg i f hf]
  exact List.getElem?_eq_getElem _
theorem addr_at {b o i : Nat} : (⟨b, o, none⟩ : Addr).add i = ⟨b, o + i, none⟩ := by
  unfold Addr.add
  split
  · rename_i h; subst h; rfl
  · rfl
theorem c4 : Try.prog.cellsOf 4 = 1 := by kernel_rfl
theorem c3 : Try.prog.cellsOf 3 = 1 := by kernel_rfl
theorem c25 : Try.prog.cellsOf 25 = 1 := by kernel_rfl
theorem c75 : Try.prog.cellsOf 75 = 1 := by kernel_rfl
theorem c27 : Try.prog.cellsOf 27 = 3 := by kernel_rfl
theorem c50 : Try.prog.cellsOf 50 = 4 := by kernel_rfl
theorem c23 : Try.prog.cellsOf 23 = 1 := by kernel_rfl
theorem c29 : Try.prog.cellsOf 29 = 4 := by kernel_rfl
theorem c22 : Try.prog.cellsOf 22 = 1 := by kernel_rfl
theorem c31 : Try.prog.cellsOf 31 = 6 := by kernel_rfl
theorem op_nat {fuel : Nat} {cs : List Value} {x : DataW H × List MemPlace} (h : DataW.trod enc Try.prog w base spare held fuel 25 cs = some x) :
    ∃ ad n c l, cs = [.slice ad n c] ∧ LimR w ad n c l ∧ n ≤ maxLen := by
  rcases open_ints Try.underlying25 Try.underlying75 c75 h with ⟨rfl, _⟩ | ⟨a, len, cap, zs, rfl, _, hl, hm, hlen, _, hc, hwf⟩
  · exact ⟨none, 0, 0, [], rfl, LimR.nil _ _ _, by simp [maxLen]⟩
  · have hzl : len ≤ zs.length := by rw [hlen]; split <;> omega
    have hget : ∀ i, i < len → ((zs.take len).map Int.toNat).getD i 0 = (zs.getD i 0).toNat := fun i hi => by
      have h1 : i < zs.length := by omega
      simp [List.getD_eq_getElem?_getD, hi, List.getElem?_eq_getElem h1]
    have hw : ∀ i, i < len → 0 ≤ zs.getD i 0 ∧ zs.getD i 0 < 4294967296 := fun i hi => by
      have h1 : i < zs.length := by omega
      have h2 := hwf (zs[i]'h1) (List.getElem_mem _)
      have h3 : zs.getD i 0 = zs[i]'h1 := by simp [List.getD_eq_getElem?_getD, List.getElem?_eq_getElem h1]
      rw [h3]
      have h4 : 0 ≤ zs[i]'h1 ∧ zs[i]'h1 ≤ 4294967295 := by simpa [Lit.wf, IntKind.min, IntKind.max, IntKind.signed, IntKind.bits] using h2
      omega
    refine ⟨some a, len, cap, (zs.take len).map Int.toNat, rfl, ⟨by simp; omega, hl, ?_, fun h0 => ?_⟩, by omega⟩
    · intro y hy
      obtain ⟨i, hi, rfl⟩ := List.getElem_of_mem hy
      have hi' : i < len := by simp at hi; omega
      have h1 := hget i hi'
      rw [List.getD_eq_getElem?_getD, List.getElem?_eq_getElem hi] at h1
      simp only [Option.getD_some] at h1
      rw [h1]
      have := hw i hi'
      omega
    · have hs0 := World.cell?_spot (hc 0 (by omega))
      have hb0 := World.block_lt_of_cell? w _ (hc 0 (by omega))
      obtain ⟨b, o, sp⟩ := a
      have hsp : sp = none := by
        unfold Addr.add at hs0
        simpa using hs0
      subst hsp
      refine ⟨b, o, rfl, by rw [addr_at] at hb0; exact hb0, fun i hi => ?_⟩
      have h1 := hc i (by omega)
      rw [addr_at] at h1
      rw [h1, hget i hi, Int.toNat_of_nonneg (hw i hi).1]
set_option maxRecDepth 100000 in
theorem op_rat {fuel : Nat} {cs : List Value} {x : DataW H × List MemPlace} (h : DataW.trod enc Try.prog w base spare held fuel 27 cs = some x) :
    ∃ r : RD, cs = [.bool r.neg, .slice r.a1 r.n1 r.c1, .slice r.a2 r.n2 r.c2] ∧ r.In w ∧ r.n1 ≤ maxLen ∧ r.n2 ≤ maxLen := by
  obtain ⟨hl, hf⟩ := fld Try.underlying27 h
  rw [c27] at hl
  match cs, hl with
  | [x0, x1, x2], _ =>
    obtain ⟨n0, y0, h0⟩ := hf 0 _ 4 0 rfl rfl rfl
    obtain ⟨n1, y1, h1⟩ := hf 1 _ 25 1 rfl rfl rfl
    obtain ⟨n2, y2, h2⟩ := hf 2 _ 25 2 rfl rfl rfl
    simp only [c4, c25, List.drop_zero, List.drop_succ_cons, List.take_succ_cons, List.take_zero] at h0 h1 h2
    obtain ⟨b, e0, _⟩ := DataW.trod_bool Try.underlying4 h0
    obtain ⟨a1, m1, d1, l1, e1, g1, k1⟩ := op_nat h1
    obtain ⟨a2, m2, d2, l2, e2, g2, k2⟩ := op_nat h2
    cases e0; cases e1; cases e2
    exact ⟨⟨b, a1, m1, d1, l1, a2, m2, d2, l2⟩, rfl, ⟨g1, g2⟩, k1, k2⟩
set_option maxRecDepth 100000 in
theorem op_term {fuel : Nat} {cs : List Value} {x : DataW H × List MemPlace} (h : DataW.trod enc Try.prog w base spare held fuel 50 cs = some x) :
    ∃ t : TD, cs = [.int .i64 t.v, .bool t.c.neg, .slice t.c.a1 t.c.n1 t.c.c1, .slice t.c.a2 t.c.n2 t.c.c2] ∧ t.c.In w := by
  obtain ⟨hl, hf⟩ := fld Try.underlying50 h
  rw [c50] at hl
  match cs, hl with
  | [x0, x1, x2, x3], _ =>
    obtain ⟨n0, y0, h0⟩ := hf 0 _ 3 0 rfl rfl rfl
    obtain ⟨n1, y1, h1⟩ := hf 1 _ 27 1 rfl rfl rfl
    simp only [c3, c27, List.drop_zero, List.drop_succ_cons, List.take_succ_cons, List.take_zero] at h0 h1
    obtain ⟨v, e0, _⟩ := DataW.trod_int Try.underlying3 h0
    obtain ⟨r, e1, g1, _⟩ := op_rat h1
    cases e0; cases e1
    exact ⟨⟨v, r⟩, rfl, g1⟩
/-- a slice of structs of k cells, element by element -/
theorem op_slice {T : Type} [Inhabited T] {t e : TypeId} {k fuel : Nat} {cs : List Value} {x : DataW H × List MemPlace} (ht : Try.prog.underlying t = some (.slice e)) (hk : Try.prog.cellsOf e = k) (h0k : 0 < k) (P : T → List Value → Prop)
    (hel : ∀ n cs y, DataW.trod enc Try.prog w base spare held n e cs = some y → ∃ u, P u cs) (h : DataW.trod enc Try.prog w base spare held fuel t cs = some x) :
    ∃ ad n c, ∃ us : List T, cs = [.slice ad n c] ∧ us.length = n ∧ n ≤ c ∧ n ≤ maxLen ∧ (0 < n → ∃ b o, ad = some ⟨b, o, none⟩ ∧ b < w.heap.size ∧ ∀ (i : Nat) (u : T), us[i]? = some u → ∃ cs', P u cs' ∧ cs'.length = k ∧ ∀ j, j < k → w.cell? ⟨b, o + i * k + j, none⟩ = cs'[j]?) := by
  rcases open_slice ht h with ⟨rfl, _⟩ | ⟨a, len, cap, m, n, D, Pl, rfl, _, hl, hm, hmm, _, hi⟩
  · exact ⟨none, 0, 0, [], rfl, rfl, by omega, by simp [maxLen], fun h => by omega⟩
  · have hlm : len ≤ m := by rw [hmm]; split <;> omega
    obtain ⟨U, hU⟩ := choose_lt (n := len) (p := fun i (u : T) => ∃ cs', P u cs' ∧ w.cells? base (a.add (i * k)) k = some cs') (fun i hil => by
      obtain ⟨cs', h1, h2⟩ := hi i (by omega)
      rw [hk] at h1
      obtain ⟨u, hu⟩ := hel _ _ _ h2
      exact ⟨u, cs', hu, h1⟩)
    refine ⟨some a, len, cap, (List.range len).map U, rfl, by simp, hl, by omega, fun h0 => ?_⟩
    have hz := (hU 0 h0).choose_spec.2
    obtain ⟨_, hz1, hz2⟩ := World.cells?_some hz
    have hz3 := hz2 0 h0k
    rw [List.getElem?_eq_getElem (by omega)] at hz3
    have hs0 := World.cell?_spot hz3
    have hb0 := World.block_lt_of_cell? w _ hz3
    obtain ⟨b, o, sp⟩ := a
    have hsp : sp = none := by
      simp [Addr.add] at hs0
      exact hs0
    subst hsp
    refine ⟨b, o, rfl, by rw [addr_at, addr_at] at hb0; exact hb0, fun i u hu => ?_⟩
    have hil : i < len := by have := (List.getElem?_eq_some_iff.1 hu).1; simpa using this
    simp [hil] at hu
    subst hu
    obtain ⟨cs', hp, hc⟩ := hU i hil
    obtain ⟨_, q1, q2⟩ := World.cells?_some hc
    refine ⟨cs', hp, q1, fun j hj => ?_⟩
    have := q2 j hj
    rw [addr_at, addr_at] at this
    exact this
instance : Inhabited RD := ⟨⟨false, none, 0, 0, [], none, 0, 0, []⟩⟩
instance : Inhabited TD := ⟨⟨0, default⟩⟩
instance : Inhabited FD := ⟨⟨none, 0, 0, [], default⟩⟩
theorem op_terms {fuel : Nat} {cs : List Value} {x : DataW H × List MemPlace} (h : DataW.trod enc Try.prog w base spare held fuel 23 cs = some x) :
    ∃ ad n c ts, cs = [.slice ad n c] ∧ TermsR w ad n c ts := by
  obtain ⟨ad, n, c, us, rfl, h1, h2, h3, h4⟩ := op_slice Try.underlying23 c50 (by omega) (fun (t : TD) cs => cs = [.int .i64 t.v, .bool t.c.neg, .slice t.c.a1 t.c.n1 t.c.c1, .slice t.c.a2 t.c.n2 t.c.c2] ∧ t.c.In w) (fun n cs y h => op_term h) h
  refine ⟨ad, n, c, us, rfl, h1, h2, fun i t ht => ?_, fun h0 => ?_⟩
  · obtain ⟨b, o, _, _, hc⟩ := h4 (by have := (List.getElem?_eq_some_iff.1 ht).1; omega)
    obtain ⟨_, ⟨_, hp⟩, _⟩ := hc i t ht
    exact hp
  · obtain ⟨b, o, e, hb, hc⟩ := h4 h0
    refine ⟨b, o, e, hb, fun i t ht => ?_⟩
    obtain ⟨cs', ⟨rfl, _⟩, _, hj⟩ := hc i t ht
    exact ⟨hj 0 (by omega), hj 1 (by omega), hj 2 (by omega), hj 3 (by omega)⟩
theorem op_pt {fuel : Nat} {cs : List Value} {x : DataW H × List MemPlace} (h : DataW.trod enc Try.prog w base spare held fuel 34 cs = some x) :
    ∃ ad n c, ∃ us : List RD, cs = [.slice ad n c] ∧ us.length = n ∧ n ≤ c ∧ n ≤ maxLen ∧ (0 < n → ∃ b o, ad = some ⟨b, o, none⟩ ∧ b < w.heap.size ∧ ∀ (i : Nat) (r : RD), us[i]? = some r → (r.In w ∧ r.n1 ≤ maxLen ∧ r.n2 ≤ maxLen) ∧ w.cell? ⟨b, o + i * 3, none⟩ = some (.bool r.neg) ∧ w.cell? ⟨b, o + i * 3 + 1, none⟩ = some (.slice r.a1 r.n1 r.c1) ∧ w.cell? ⟨b, o + i * 3 + 2, none⟩ = some (.slice r.a2 r.n2 r.c2)) := by
  obtain ⟨ad, n, c, us, rfl, h1, h2, h3, h4⟩ := op_slice Try.underlying34 c27 (by omega) (fun (r : RD) cs => cs = [.bool r.neg, .slice r.a1 r.n1 r.c1, .slice r.a2 r.n2 r.c2] ∧ r.In w ∧ r.n1 ≤ maxLen ∧ r.n2 ≤ maxLen) (fun n cs y h => op_rat h) h
  refine ⟨ad, n, c, us, rfl, h1, h2, h3, fun h0 => ?_⟩
  obtain ⟨b, o, e, hb, hc⟩ := h4 h0
  refine ⟨b, o, e, hb, fun i t ht => ?_⟩
  obtain ⟨cs', ⟨rfl, hp⟩, _, hj⟩ := hc i t ht
  exact ⟨hp, hj 0 (by omega), hj 1 (by omega), hj 2 (by omega)⟩
set_option maxRecDepth 100000 in
theorem op_form {fuel : Nat} {cs : List Value} {x : DataW H × List MemPlace} (h : DataW.trod enc Try.prog w base spare held fuel 29 cs = some x) :
    ∃ f : FD, cs = [.slice f.ad f.n f.c, .bool f.k.neg, .slice f.k.a1 f.k.n1 f.k.c1, .slice f.k.a2 f.k.n2 f.k.c2] ∧ f.In w := by
  obtain ⟨hl, hf⟩ := fld Try.underlying29 h
  rw [c29] at hl
  match cs, hl with
  | [x0, x1, x2, x3], _ =>
    obtain ⟨n0, y0, h0⟩ := hf 0 _ 23 0 rfl rfl rfl
    obtain ⟨n1, y1, h1⟩ := hf 1 _ 27 1 rfl rfl rfl
    simp only [c23, c27, List.drop_zero, List.drop_succ_cons, List.take_succ_cons, List.take_zero] at h0 h1
    obtain ⟨ad, n, c, ts, e0, g0⟩ := op_terms h0
    obtain ⟨r, e1, g1, _⟩ := op_rat h1
    cases e0; cases e1
    exact ⟨⟨ad, n, c, ts, r⟩, rfl, ⟨g0, g1⟩⟩
theorem op_rows {fuel : Nat} {cs : List Value} {x : DataW H × List MemPlace} (h : DataW.trod enc Try.prog w base spare held fuel 22 cs = some x) :
    ∃ ad n c fs, cs = [.slice ad n c] ∧ RowsR w ad n c fs := by
  obtain ⟨ad, n, c, us, rfl, h1, h2, h3, h4⟩ := op_slice Try.underlying22 c29 (by omega) (fun (f : FD) cs => cs = [.slice f.ad f.n f.c, .bool f.k.neg, .slice f.k.a1 f.k.n1 f.k.c1, .slice f.k.a2 f.k.n2 f.k.c2] ∧ f.In w) (fun n cs y h => op_form h) h
  refine ⟨ad, n, c, us, rfl, h1, h2, fun i t ht => ?_, fun h0 => ?_⟩
  · obtain ⟨b, o, _, _, hc⟩ := h4 (by have := (List.getElem?_eq_some_iff.1 ht).1; omega)
    obtain ⟨_, ⟨_, hp⟩, _⟩ := hc i t ht
    exact hp
  · obtain ⟨b, o, e, hb, hc⟩ := h4 h0
    refine ⟨b, o, e, hb, fun i t ht => ?_⟩
    obtain ⟨cs', ⟨rfl, _⟩, _, hj⟩ := hc i t ht
    exact ⟨hj 0 (by omega), hj 1 (by omega), hj 2 (by omega), hj 3 (by omega)⟩
set_option maxRecDepth 100000 in
theorem op_prog {fuel : Nat} {cs : List Value} {x : DataW H × List MemPlace} (h : DataW.trod enc Try.prog w base spare held fuel 31 cs = some x) :
    ∃ p : PD, cs = [.int .i64 p.vars, .slice p.ra p.rn p.rc, .slice p.obj.ad p.obj.n p.obj.c, .bool p.obj.k.neg, .slice p.obj.k.a1 p.obj.k.n1 p.obj.k.c1, .slice p.obj.k.a2 p.obj.k.n2 p.obj.k.c2] ∧ p.In w := by
  obtain ⟨hl, hf⟩ := fld Try.underlying31 h
  rw [c31] at hl
  match cs, hl with
  | [x0, x1, x2, x3, x4, x5], _ =>
    obtain ⟨n0, y0, h0⟩ := hf 0 _ 3 0 rfl rfl rfl
    obtain ⟨n1, y1, h1⟩ := hf 1 _ 22 1 rfl rfl rfl
    obtain ⟨n2, y2, h2⟩ := hf 2 _ 29 2 rfl rfl rfl
    simp only [c3, c22, c29, List.drop_zero, List.drop_succ_cons, List.take_succ_cons, List.take_zero] at h0 h1 h2
    obtain ⟨v, e0, _⟩ := DataW.trod_int Try.underlying3 h0
    obtain ⟨ad, n, c, fs, e1, g1⟩ := op_rows h1
    obtain ⟨f, e2, g2⟩ := op_form h2
    cases e0; cases e1; cases e2
    exact ⟨⟨v, ad, n, c, fs, f⟩, rfl, ⟨g1, g2⟩⟩
end
end Go.Proofs.Ytledagemcknlcaa
