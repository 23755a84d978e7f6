/- relucertref18.SameForms, relucertref27.Same, relucertlaw27.ProgramDualMatchesReference: what each call returns. -/
import Derived.Test.YtledagemcknlcaaGreatK15
import Derived.Test.YtledagemcknlcaaGreatK12
set_option linter.all false
namespace Go.Proofs.YtledagemcknlcaaGreat
open Go.RowKit

theorem map_sem_eq {fs gs : List FD} (hl : fs.length = gs.length) (h : ∀ (j : Nat) (f g : FD), fs[j]? = some f → gs[j]? = some g → sem f = sem g) : fs.map sem = gs.map sem := by
  apply List.ext_getElem?
  intro i
  rw [List.getElem?_map, List.getElem?_map]
  rcases h1 : fs[i]? with _ | f
  · have : gs[i]? = none := by rw [List.getElem?_eq_none_iff] at h1 ⊢; omega
    rw [this]
  · have hi := (List.getElem?_eq_some_iff.1 h1).1
    have h2 : gs[i]? = some (gs[i]'(by omega)) := List.getElem?_eq_getElem _
    rw [h2]
    simp only [Option.map_some]
    rw [h i f _ h1 h2]
theorem map_sem_at {fs gs : List FD} (h : fs.map sem = gs.map sem) {i : Nat} {f g : FD} (h1 : fs[i]? = some f) (h2 : gs[i]? = some g) : sem f = sem g := by
  have := congrArg (fun l => l[i]?) h
  simp only [List.getElem?_map, h1, h2, Option.map_some, Option.some.injEq] at this
  exact this
set_option maxRecDepth 100000 in
set_option maxHeartbeats 3200000 in
theorem sameforms_c (w : World) {ad1 ad2 : Option Addr} {n1 c1 n2 c2 : Nat} {fs gs : List FD} {m : Nat} (hf : RowsR w ad1 n1 c1 fs) (hg : RowsR w ad2 n2 c2 gs) (hn : n1 ≤ 9223372036854775807) (hof : ∀ (i : Nat) (f : FD), fs[i]? = some f → OkFD m f) (hog : ∀ (i : Nat) (f : FD), gs[i]? = some f → OkFD m f) (hm : m ≤ 274877906944) :
    Calls Tryz.prog 39 #[.slice ad1 n1 c1, .slice ad2 n2 c2] w (RetB (decide (fs.map sem = gs.map sem)) w) := by
  have HLF := Lib.hid hf.len
  have HLG := Lib.hid hg.len
  have HOF := Lib.hid hof
  have HOG := Lib.hid hog
  clear hof hog
  go_enter Tryz.func39, Tryz.ntmps39
  by_cases e1 : n1 = n2
  rotate_left
  · have HE : Hid (decide (fs.map sem = gs.map sem) = false) := decide_eq_false (fun h => e1 (by have := congrArg List.length h; rw [List.length_map, List.length_map, HLF.out, HLG.out] at this; exact this))
    have d1 : ((n1 : Int) != (n2 : Int)) = true := by simp; omega
    have d2 : (n1 != n2) = true := by simp; omega
    clear e1
    go_wp2_with fail
    go_ret
    exact retB_end HE.out.symm (Below.refl _ _)
  subst e1
  have d1 : ((n1 : Int) != (n1 : Int)) = false := by simp
  have d2 : (n1 != n1) = false := by simp
  go_wp2_with fail
  go_loopw [5] (fun s5 wr => ∃ i, i ≤ n1 ∧ s5 = .int .i64 (i : Nat) ∧ Hid (∀ (j : Nat) (f g : FD), j < i → fs[j]? = some f → gs[j]? = some g → sem f = sem g) ∧ Below w.heap.size w wr) (fun i _ => n1 - (intOf i).toNat)
  case atStart => exact ⟨0, by omega, rfl, (fun j t u hj => by omega : ∀ (j : Nat) (f g : FD), j < 0 → fs[j]? = some f → gs[j]? = some g → sem f = sem g), Below.refl _ _⟩
  case round =>
    obtain ⟨i, hi, rfl, HI, hb⟩ := hrel
    have fr := hf.on hb
    have gr := hg.on hb
    by_cases hlt : i < n1
    · obtain ⟨b, o, f, rfl, hbl, HF, gf, t0, t1, t2, t3⟩ := fr.at_ hlt
      obtain ⟨b', o', g, rfl, hbl', HG, gg, u0, u1, u2, u3⟩ := gr.at_ hlt
      obtain ⟨hcx, hfx⟩ := upcell wr
      obtain ⟨bb, hbb⟩ : ∃ bb, decide (sem f = sem g) = bb := ⟨_, rfl⟩
      have HCM : Hid (∀ x : Up wr, Calls Tryz.prog 21 #[.agg #[.slice f.ad f.n f.c, .bool f.k.neg, .slice f.k.a1 f.k.n1 f.k.c1, .slice f.k.a2 f.k.n2 f.k.c2], .agg #[.slice g.ad g.n g.c, .bool g.k.neg, .slice g.k.a1 g.k.n1 g.k.c1, .slice g.k.a2 g.k.n2 g.k.c2]] x.w (RetB bb x.w)) := fun x => by rw [← hbb]; exact same_c x.w (gf.on x.below) (gg.on x.below) (HOF.out i f HF.out) (HOG.out i g HG.out) hm
      have HBB := Lib.hid hbb
      clear hbb gf gg
      go_upto_region 6 with (fail)
      rcases hbv : bb with _ | _
      · subst hbv
        have HE : Hid (decide (fs.map sem = gs.map sem) = false) := decide_eq_false (fun h => (of_decide_eq_false HBB.out) (map_sem_at h HF.out HG.out))
        refine wp_region_up (by kernel_rfl) (by kernel_rfl) ?_
        repeat (go_big_quiet_step ((go_at_call 21; exact up_b (HCM.out _))))
        refine wpQuiet_nil ?_
        intro x
        go_wp2_with fail
        go_ret
        exact retB_end HE.out.symm (hb.trans (x.below.mono hb.size))
      · subst hbv
        have HN : Hid (sem f = sem g) := (of_decide_eq_true HBB.out : sem f = sem g)
        refine wp_region_up (by kernel_rfl) (by kernel_rfl) ?_
        repeat (go_big_quiet_step ((go_at_call 21; exact up_b (HCM.out _))))
        refine wpQuiet_nil ?_
        intro x
        go_wp2_with fail
        go_roundw
        case rel => exact ⟨i + 1, by omega, by go_num, (fun j' f' g' hj' hf' hg' => (Nat.lt_or_ge j' i).elim (fun h9 => HI.out j' f' g' h9 hf' hg') (fun h9 => by have e9 : j' = i := (by omega); rw [e9] at hf' hg'; have h1 := HF.out.symm.trans hf'; have h2 := HG.out.symm.trans hg'; cases h1; cases h2; exact HN.out) : ∀ (j : Nat) (f g : FD), j < i + 1 → fs[j]? = some f → gs[j]? = some g → sem f = sem g), hb.trans (x.below.mono hb.size)⟩
        case measure => simp [intOf]; omega
    · have HE : Hid (decide (fs.map sem = gs.map sem) = true) := decide_eq_true (map_sem_eq (by rw [HLF.out, HLG.out]) (fun j f g h1 h2 => HI.out j f g (by have := (List.getElem?_eq_some_iff.1 h1).1; have := HLF.out; omega) h1 h2))
      have d6 : decide (i < n1) = false := decide_eq_false hlt
      have d7 : decide ((i : Int) < (n1 : Int)) = false := decide_eq_false (by omega)
      go_wp2_with fail
      go_ret
      exact retB_end HE.out.symm hb
set_option maxRecDepth 100000 in
set_option maxHeartbeats 3200000 in
theorem samep_c (w : World) {a b : PD} {m : Nat} (ha : a.In w) (hb : b.In w) (hoa : ∀ (i : Nat) (f : FD), a.rows[i]? = some f → OkFD m f) (hoao : OkFD m a.obj) (hob : ∀ (i : Nat) (f : FD), b.rows[i]? = some f → OkFD m f) (hobo : OkFD m b.obj) (hm : m ≤ 274877906944) (hn : a.rn ≤ 9223372036854775807)
    (e0 : a.vars = b.vars) (e1 : a.rows.map sem = b.rows.map sem) (e2 : sem a.obj = sem b.obj) :
    Calls Tryz.prog 10 #[.agg #[.int .i64 a.vars, .slice a.ra a.rn a.rc, .slice a.obj.ad a.obj.n a.obj.c, .bool a.obj.k.neg, .slice a.obj.k.a1 a.obj.k.n1 a.obj.k.c1, .slice a.obj.k.a2 a.obj.k.n2 a.obj.k.c2], .agg #[.int .i64 b.vars, .slice b.ra b.rn b.rc, .slice b.obj.ad b.obj.n b.obj.c, .bool b.obj.k.neg, .slice b.obj.k.a1 b.obj.k.n1 b.obj.k.c1, .slice b.obj.k.a2 b.obj.k.n2 b.obj.k.c2]] w (RetB true w) := by
  have H0 := Lib.hid e0
  have H1 := Lib.hid e1
  have H2 := Lib.hid e2
  have HOA := Lib.hid hoa
  have HOB := Lib.hid hob
  clear e0 e1 e2 hoa hob
  have hP := Pro2.mk' w #[.int .i64 a.vars, .slice a.ra a.rn a.rc, .slice a.obj.ad a.obj.n a.obj.c, .bool a.obj.k.neg, .slice a.obj.k.a1 a.obj.k.n1 a.obj.k.c1, .slice a.obj.k.a2 a.obj.k.n2 a.obj.k.c2] #[.int .i64 b.vars, .slice b.ra b.rn b.rc, .slice b.obj.ad b.obj.n b.obj.c, .bool b.obj.k.neg, .slice b.obj.k.a1 b.obj.k.n1 b.obj.k.c1, .slice b.obj.k.a2 b.obj.k.n2 b.obj.k.c2] 31 31
  go_enter Tryz.func10, Tryz.ntmps10
  go_upto_region 1 with (fail)
  generalize (w.alloc (.cells #[.int .i64 a.vars, .slice a.ra a.rn a.rc, .slice a.obj.ad a.obj.n a.obj.c, .bool a.obj.k.neg, .slice a.obj.k.a1 a.obj.k.n1 a.obj.k.c1, .slice a.obj.k.a2 a.obj.k.n2 a.obj.k.c2] 31)).alloc (.cells #[.int .i64 b.vars, .slice b.ra b.rn b.rc, .slice b.obj.ad b.obj.n b.obj.c, .bool b.obj.k.neg, .slice b.obj.k.a1 b.obj.k.n1 b.obj.k.c1, .slice b.obj.k.a2 b.obj.k.n2 b.obj.k.c2] 31) = W at *
  have hPb := hP.below
  have HPS := Lib.hid hP.size
  have aW := ha.on hPb
  have bW := hb.on hPb
  have HA := hP.b0
  have HB := hP.b1
  have k0 := HA.cell 0
  have k1 := HA.cell 1
  have k2 := HA.cell 2
  have k3 := HA.cell 3
  have k4 := HA.cell 4
  have k5 := HA.cell 5
  simp at k0 k1 k2 k3 k4 k5
  have kz := HA.lt
  have l0 := HB.cell 0
  have l1 := HB.cell 1
  have l2 := HB.cell 2
  have l3 := HB.cell 3
  have l4 := HB.cell 4
  have l5 := HB.cell 5
  simp at l0 l1 l2 l3 l4 l5
  have lz := HB.lt
  have d1 : (a.vars == b.vars) = true := by simp [H0.out]
  clear hP ha hb
  go_wp2_with fail
  refine (sameforms_c W aW.rows bW.rows hn HOA.out HOB.out hm).mono ?_
  rintro e w5 ⟨rfl, hb5⟩
  rw [decide_eq_true H1.out]
  have HA5 := HA.on hb5
  have HB5 := HB.on hb5
  clear k0 k1 k2 k3 k4 k5 kz l0 l1 l2 l3 l4 l5 lz
  have k0 := HA5.cell 0
  have k1 := HA5.cell 1
  have k2 := HA5.cell 2
  have k3 := HA5.cell 3
  have k4 := HA5.cell 4
  have k5 := HA5.cell 5
  simp at k0 k1 k2 k3 k4 k5
  have kz := HA5.lt
  have l0 := HB5.cell 0
  have l1 := HB5.cell 1
  have l2 := HB5.cell 2
  have l3 := HB5.cell 3
  have l4 := HB5.cell 4
  have l5 := HB5.cell 5
  simp at l0 l1 l2 l3 l4 l5
  have lz := HB5.lt
  go_wp2_with fail
  refine (same_c w5 (aW.on hb5).obj (bW.on hb5).obj hoao hobo hm).mono ?_
  rintro e w6 ⟨rfl, hb6⟩
  rw [decide_eq_true H2.out]
  go_wp2_with fail
  go_ret
  exact ⟨rfl, hPb.trans ((hb5.trans (hb6.mono hb5.size)).mono (by have := HPS.out; omega))⟩
theorem fdual_c (w : World) (p : PD) {m : Nat} (h : p.In w) (hf : FewP p) (hv : PV p) (ho : OkPD m p) (hm : m ≤ 128) (hm1 : 2 ≤ m) (hrn : p.rn ≤ 64) (hvars : p.vars ≤ 64) :
    Calls Tryz.prog 9 #[.agg #[.int .i64 p.vars, .slice p.ra p.rn p.rc, .slice p.obj.ad p.obj.n p.obj.c, .bool p.obj.k.neg, .slice p.obj.k.a1 p.obj.k.n1 p.obj.k.c1, .slice p.obj.k.a2 p.obj.k.n2 p.obj.k.c2]] w (RetDual (3 * (m + 1) + 1) p w) := fdual_aux w h hf hv ho hm hm1 hrn hvars
theorem none_in (w : World) : PD.In (⟨-1, none, 0, 0, [], ⟨none, 0, 0, [], ⟨false, none, 0, 0, [], none, 0, 0, []⟩⟩⟩ : PD) w := ⟨⟨rfl, Nat.le_refl _, (fun i f hf => by cases hf), (fun h => by cases h)⟩, ⟨termsR_nil _ _ _, zero_in w⟩⟩
theorem none_few : FewP (⟨-1, none, 0, 0, [], ⟨none, 0, 0, [], ⟨false, none, 0, 0, [], none, 0, 0, []⟩⟩⟩ : PD) := ⟨⟨by show 0 ≤ 17592186044416; omega, (fun i t ht => by cases ht), ⟨by show 0 ≤ 1099511627776; omega, by show 0 ≤ 1099511627776; omega⟩⟩, (fun i f hf => by cases hf)⟩
theorem none_no : ¬ PV (⟨-1, none, 0, 0, [], ⟨none, 0, 0, [], ⟨false, none, 0, 0, [], none, 0, 0, []⟩⟩⟩ : PD) := fun h => by have := h.v0; have : (0 : Int) ≤ -1 := this; omega
set_option maxRecDepth 100000 in
set_option maxHeartbeats 6400000 in
theorem dualref_law (w : World) (p : PD) (hp : p.In w) (hf : FewP p) (hrn : p.rn ≤ 9223372036854775807) :
    Calls Tryz.prog 3 #[.agg #[.int .i64 p.vars, .slice p.ra p.rn p.rc, .slice p.obj.ad p.obj.n p.obj.c, .bool p.obj.k.neg, .slice p.obj.k.a1 p.obj.k.n1 p.obj.k.c1, .slice p.obj.k.a2 p.obj.k.n2 p.obj.k.c2]] w (RetB true w) := by
  have hP := Pro1.mk' w #[.int .i64 p.vars, .slice p.ra p.rn p.rc, .slice p.obj.ad p.obj.n p.obj.c, .bool p.obj.k.neg, .slice p.obj.k.a1 p.obj.k.n1 p.obj.k.c1, .slice p.obj.k.a2 p.obj.k.n2 p.obj.k.c2] 31
  go_enter Tryz.func3, Tryz.ntmps3
  go_upto_region 1 with (fail)
  generalize w.alloc (.cells #[.int .i64 p.vars, .slice p.ra p.rn p.rc, .slice p.obj.ad p.obj.n p.obj.c, .bool p.obj.k.neg, .slice p.obj.k.a1 p.obj.k.n1 p.obj.k.c1, .slice p.obj.k.a2 p.obj.k.n2 p.obj.k.c2] 31) = W at *
  have hB := hP.b0
  have hPb := hP.below
  have HPS := Lib.hid hP.size
  have pW := hp.on hPb
  have HF := Lib.hid hf
  clear hP hp hf
  go_wp2_with fail
  refine (awake_c W).mono ?_
  rintro e U ⟨rfl, hbU⟩
  have pU := pW.on hbU
  have hBU := hB.on hbU
  have hwU : Below w.heap.size w U := hPb.trans (hbU.mono (by have := HPS.out; omega))
  clear pW hB
  have k0 := hBU.cell 0
  have k1 := hBU.cell 1
  have k2 := hBU.cell 2
  have k3 := hBU.cell 3
  have k4 := hBU.cell 4
  have k5 := hBU.cell 5
  simp at k0 k1 k2 k3 k4 k5
  have kz := hBU.lt
  go_wp2_with fail
  refine (small_c U p pU HF.out hrn).mono ?_
  rintro e U1 ⟨rfl, hb1⟩
  have hB1 := hBU.on hb1
  have p1 := pU.on hb1
  have hw1 : Below w.heap.size w U1 := hwU.trans (hb1.mono hwU.size)
  clear hBU pU k0 k1 k2 k3 k4 k5 kz
  have k0 := hB1.cell 0
  have k1 := hB1.cell 1
  have k2 := hB1.cell 2
  have k3 := hB1.cell 3
  have k4 := hB1.cell 4
  have k5 := hB1.cell 5
  simp at k0 k1 k2 k3 k4 k5
  have kz := hB1.lt
  by_cases e1 : SmPr p
  rotate_left
  · rw [decide_eq_false e1]
    clear e1
    go_wp2_with fail
    refine (dual_no U1 (⟨-1, none, 0, 0, [], ⟨none, 0, 0, [], ⟨false, none, 0, 0, [], none, 0, 0, []⟩⟩⟩ : PD) (none_in U1) none_few none_no).mono ?_
    rintro e U2 ⟨rfl, hb2⟩
    go_wp2_with fail
    go_ret
    exact ⟨rfl, (hw1.trans (hb2.mono hw1.size)).alloc (hw1.trans (hb2.mono hw1.size)).size _⟩
  rw [decide_eq_true e1]
  have HS := Lib.hid e1
  have HO := Lib.hid (e1.ok p1)
  have hr8 : p.rn ≤ 8 := by have := e1.rows.1; omega
  have hv4 := e1.vars
  clear e1
  go_wp2_with fail
  refine (dual_c U1 p (m := 3) p1 HF.out HS.out.pv HO.out (by omega) (by omega) (by omega) (by omega)).mono ?_
  rintro e U2 ⟨a, rfl, a2, HA1, HA2, HA3, HA4, HA5, hb2⟩
  have HXA := Lib.hid (And.intro HA1 (And.intro HA2 (And.intro HA3 (And.intro HA4 HA5))))
  clear HA1 HA2 HA3 HA4 HA5
  go_upto_region 7 with (fail)
  have hQ := Pro1.mk' U2 #[.int .i64 a.vars, .slice a.ra a.rn a.rc, .slice a.obj.ad a.obj.n a.obj.c, .bool a.obj.k.neg, .slice a.obj.k.a1 a.obj.k.n1 a.obj.k.c1, .slice a.obj.k.a2 a.obj.k.n2 a.obj.k.c2] 31
  generalize U2.alloc (.cells #[.int .i64 a.vars, .slice a.ra a.rn a.rc, .slice a.obj.ad a.obj.n a.obj.c, .bool a.obj.k.neg, .slice a.obj.k.a1 a.obj.k.n1 a.obj.k.c1, .slice a.obj.k.a2 a.obj.k.n2 a.obj.k.c2] 31) = V2 at *
  have hb12 := hb2.trans (hQ.below.mono hb2.size)
  have hB2 := hB1.on hb12
  have p2 := p1.on hb12
  have a2 := a2.on hQ.below
  have hA2 := hQ.b0
  have hw2 : Below w.heap.size w V2 := hw1.trans (hb12.mono hw1.size)
  clear hB1 p1 hQ hb12 hb2 k0 k1 k2 k3 k4 k5 kz
  have k0 := hB2.cell 0
  have k1 := hB2.cell 1
  have k2 := hB2.cell 2
  have k3 := hB2.cell 3
  have k4 := hB2.cell 4
  have k5 := hB2.cell 5
  simp at k0 k1 k2 k3 k4 k5
  have kz := hB2.lt
  go_wp2_with fail
  refine (fdual_c V2 p (m := 3) p2 HF.out HS.out.pv HO.out (by omega) (by omega) (by omega) (by omega)).mono ?_
  rintro e U3 ⟨b, rfl, b3, HB1, HB2, HB3, HB4, HB5, hb3⟩
  have HXB := Lib.hid (And.intro HB1 (And.intro HB2 (And.intro HB3 (And.intro HB4 HB5))))
  clear HB1 HB2 HB3 HB4 HB5
  go_upto_region 8 with (fail)
  have hQ := Pro1.mk' U3 #[.int .i64 b.vars, .slice b.ra b.rn b.rc, .slice b.obj.ad b.obj.n b.obj.c, .bool b.obj.k.neg, .slice b.obj.k.a1 b.obj.k.n1 b.obj.k.c1, .slice b.obj.k.a2 b.obj.k.n2 b.obj.k.c2] 31
  generalize U3.alloc (.cells #[.int .i64 b.vars, .slice b.ra b.rn b.rc, .slice b.obj.ad b.obj.n b.obj.c, .bool b.obj.k.neg, .slice b.obj.k.a1 b.obj.k.n1 b.obj.k.c1, .slice b.obj.k.a2 b.obj.k.n2 b.obj.k.c2] 31) = V3 at *
  have hb23 := hb3.trans (hQ.below.mono hb3.size)
  have hA3 := hA2.on hb23
  have a3 := a2.on hb23
  have b3 := b3.on hQ.below
  have hB3 := hQ.b0
  have hw3 : Below w.heap.size w V3 := hw2.trans (hb23.mono hw2.size)
  have HAN : Hid (a.rn ≤ 64) := by
    have h1 := a3.rows.len
    have h2 := congrArg List.length HXA.out.2.2.2.1
    rw [List.length_map, List.length_append] at h2
    have h3 : (dualA p.rn).length = p.rn := by simp [dualA]
    have h4 : ∀ k, (dualB p k).length = 2 * k := fun k => by
      induction k with
      | zero => rfl
      | succ k ih => rw [dualB, List.length_append, ih]; simp; omega
    rw [h3, h4] at h2
    show a.rn ≤ 64
    omega
  clear hA2 a2 hB2 p2 hQ hb23 hb3 k0 k1 k2 k3 k4 k5 kz
  have k0 := hA3.cell 0
  have k1 := hA3.cell 1
  have k2 := hA3.cell 2
  have k3 := hA3.cell 3
  have k4 := hA3.cell 4
  have k5 := hA3.cell 5
  simp at k0 k1 k2 k3 k4 k5
  have kz := hA3.lt
  have l0 := hB3.cell 0
  have l1 := hB3.cell 1
  have l2 := hB3.cell 2
  have l3 := hB3.cell 3
  have l4 := hB3.cell 4
  have l5 := hB3.cell 5
  simp at l0 l1 l2 l3 l4 l5
  have lz := hB3.lt
  go_wp2_with fail
  refine (samep_c V3 a3 b3 HXA.out.1 HXA.out.2.1 HXB.out.1 HXB.out.2.1 (by omega) (by have := HAN.out; omega) (by rw [HXA.out.2.2.1, HXB.out.2.2.1]) (by rw [HXA.out.2.2.2.1, HXB.out.2.2.2.1]) (by rw [HXA.out.2.2.2.2, HXB.out.2.2.2.2])).mono ?_
  rintro e U4 ⟨rfl, hb4⟩
  go_wp2_with fail
  go_ret
  exact ⟨rfl, hw3.trans (hb4.mono hw3.size)⟩
end Go.Proofs.YtledagemcknlcaaGreat
