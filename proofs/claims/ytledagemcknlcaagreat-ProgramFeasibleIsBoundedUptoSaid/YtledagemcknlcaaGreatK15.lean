/- relucertref27.Dual: what the call returns. -/
import Derived.Test.YtledagemcknlcaaGreatK14
import Derived.Test.YtledagemcknlcaaGreatK12
set_option linter.all false
namespace Go.Proofs.YtledagemcknlcaaGreat
open Go.RowKit

theorem fm_n {f : FD} {w : World} (h : f.In w) : (fm f.ts).length = f.n := by rw [fm_length, h.terms.len]
theorem form1_len {u s : FD} {w : World} {i : Int} {q k k' : Rat} (hs : s.In w) (h : sem s = (mergeV [] (fm u.ts) q, k)) (hu : sem u = ([(i, (1 : Rat))], k')) : s.n ≤ 1 := by
  have h1 : fm s.ts = mergeV [] (fm u.ts) q := congrArg Prod.fst h
  have h2 : fm u.ts = [(i, (1 : Rat))] := congrArg Prod.fst hu
  rw [← fm_n hs, h1, h2]
  exact Nat.le_trans (mergeV_len0 _ _) (by simp)
/-- one row more in a column -/
theorem obj_step {g g' u s : FD} {f : FD} {prows : List FD} {i : Nat} {k0 : Rat} {G : FD → Rat} (hf : prows[i]? = some f) (hu : sem u = ([((i : Int), (1 : Rat))], (0 : Rat))) (hs : sem s = (mergeV [] (fm u.ts) (G f), u.k.q * G f)) (hg : sem g = (colN G prows i, k0))
    (h : sem g' = (addV (fm g.ts) (fm s.ts), g.k.q + s.k.q)) : sem g' = (colN G prows (i + 1), k0) := by
  have h1 : fm u.ts = [((i : Int), (1 : Rat))] := congrArg Prod.fst hu
  have h2 : u.k.q = 0 := congrArg Prod.snd hu
  have h3 : fm s.ts = mergeV [] (fm u.ts) (G f) := congrArg Prod.fst hs
  have h4 : s.k.q = u.k.q * G f := congrArg Prod.snd hs
  have h5 : fm g.ts = colN G prows i := congrArg Prod.fst hg
  have h6 : g.k.q = k0 := congrArg Prod.snd hg
  rw [h, h5, h3, h1, addV_col hf, h4, h2, h6, Rat.zero_mul, Rat.add_zero]
def DCut2 (X : World) (rn : Nat) (m : Nat) (S : List (Int × Rat) × Rat) (s5 : Value) (wx : World) : Prop :=
  ∃ U B g, s5 = .pointer (some ⟨B, 0, none⟩) ∧ Blk U B 31 #[.int .i64 (rn : Nat), .slice none 0 0, .slice g.ad g.n g.c, .bool g.k.neg, .slice g.k.a1 g.k.n1 g.k.c1, .slice g.k.a2 g.k.n2 g.k.c2] ∧ FD.In g U ∧ OkFD m g ∧ sem g = S ∧ X.heap.size ≤ B ∧ Below X.heap.size X U ∧ U = wx
set_option maxRecDepth 100000 in
set_option maxHeartbeats 25600000 in
theorem fdual_aux (w : World) {pv : Int} {pra : Option Addr} {prn prc : Nat} {prows : List FD} {pobj : FD} {m : Nat} (h : PD.In (⟨pv, pra, prn, prc, prows, pobj⟩ : PD) w) (hf : FewP (⟨pv, pra, prn, prc, prows, pobj⟩ : PD)) (hv : PV (⟨pv, pra, prn, prc, prows, pobj⟩ : PD)) (ho : OkPD m (⟨pv, pra, prn, prc, prows, pobj⟩ : PD)) (hm : m ≤ 128) (hm1 : 2 ≤ m) (hrn : prn ≤ 64) (hvars : pv ≤ 64) :
    Calls Tryz.prog 9 #[.agg #[.int .i64 pv, .slice pra prn prc, .slice pobj.ad pobj.n pobj.c, .bool pobj.k.neg, .slice pobj.k.a1 pobj.k.n1 pobj.k.c1, .slice pobj.k.a2 pobj.k.n2 pobj.k.c2]] w (RetDual (3 * (m + 1) + 1) (⟨pv, pra, prn, prc, prows, pobj⟩ : PD) w) := by
  have hP := Pro2.mk' w #[.int .i64 pv, .slice pra prn prc, .slice pobj.ad pobj.n pobj.c, .bool pobj.k.neg, .slice pobj.k.a1 pobj.k.n1 pobj.k.c1, .slice pobj.k.a2 pobj.k.n2 pobj.k.c2] #[.int .i64 0, .slice none 0 0, .slice none 0 0, .bool false, .slice none 0 0, .slice none 0 0] 31 31
  go_enter Tryz.func9, Tryz.ntmps9
  go_upto_region 1 with (fail)
  generalize (w.alloc (.cells #[.int .i64 pv, .slice pra prn prc, .slice pobj.ad pobj.n pobj.c, .bool pobj.k.neg, .slice pobj.k.a1 pobj.k.n1 pobj.k.c1, .slice pobj.k.a2 pobj.k.n2 pobj.k.c2] 31)).alloc (.cells #[.int .i64 0, .slice none 0 0, .slice none 0 0, .bool false, .slice none 0 0, .slice none 0 0] 31) = W at *
  have hpB := hP.b0
  have hR := hP.b1
  have hPb := hP.below
  have HPS := Lib.hid hP.size
  have pW := h.on hPb
  have k0 := hpB.cell 0
  have k1 := hpB.cell 1
  have k2 := hpB.cell 2
  have k3 := hpB.cell 3
  have k4 := hpB.cell 4
  have k5 := hpB.cell 5
  simp at k0 k1 k2 k3 k4 k5
  have kz := hpB.lt
  clear hP
  go_wp2_with fail
  refine (fpvalid_any W (⟨pv, pra, prn, prc, prows, pobj⟩ : PD) pW hf).mono ?_
  rintro e X ⟨rfl, hbX⟩
  rw [decide_eq_true hv]
  have hv0 : 0 ≤ pv := hv.v0
  have HO := Lib.hid ho
  have HV := Lib.hid hv
  have HFEW := Lib.hid hf
  clear hv ho hf
  have pX := pW.on hbX
  have hpX := hpB.on hbX
  have hRX := hR.on hbX
  have hwX : Below w.heap.size w X := hPb.trans (hbX.mono (by have := HPS.out; omega))
  clear k0 k1 k2 k3 k4 k5 kz
  have k0 := hpX.cell 0
  have k1 := hpX.cell 1
  have k2 := hpX.cell 2
  have k3 := hpX.cell 3
  have k4 := hpX.cell 4
  have k5 := hpX.cell 5
  simp at k0 k1 k2 k3 k4 k5
  have kz := hpX.lt
  have rz := hRX.lt
  clear pW hpB hR
  go_upto_region 3 with (fail)
  have qk : pobj.k.C X pobj.k.q := RD.ok_c pX.obj.const HO.out.obj.k
  have hkH : H pobj.k.q ≤ m := HO.out.obj.kH
  go_cut [4] (fun s5 wx => DCut2 X prn m ([], -pobj.k.q) s5 wx)
  case first =>
    refine wp_region_mono [Spc.det (.pointer (some ⟨w.heap.size, 1, none⟩)), Spc.det (.slice pra prn prc), Spc.det (.int .i64 (prn : Int)), Spc.det (.pointer (some ⟨w.heap.size, 2, none⟩)), Spc.det (.pointer (some ⟨w.heap.size, 3, none⟩)), Spc.det (.agg #[.bool pobj.k.neg, .slice pobj.k.a1 pobj.k.n1 pobj.k.c1, .slice pobj.k.a2 pobj.k.n2 pobj.k.c2]), Spc.rd (fun r => .agg #[.bool r.neg, .slice r.a1 r.n1 r.c1, .slice r.a2 r.n2 r.c2]) (-pobj.k.q), Spc.rd (fun r => .agg #[.slice none 0 0, .bool r.neg, .slice r.a1 r.n1 r.c1, .slice r.a2 r.n2 r.c2]) (-pobj.k.q), Spc.rd (fun r => .agg #[.int .i64 (prn : Int), .slice none 0 0, .slice none 0 0, .bool r.neg, .slice r.a1 r.n1 r.c1, .slice r.a2 r.n2 r.c2]) (-pobj.k.q), Spc.box X.heap.size 31 #[.int .i64 0, .slice none 0 0, .slice none 0 0, .bool false, .slice none 0 0, .slice none 0 0], .any] 10 (A := ?_) (by kernel_rfl) (by kernel_rfl) (by kernel_rfl) ?_ ⟨fun hs u w9 hw9 hd9 K9 hK9 => ?_, fun hs u w9 hw9 hd9 K9 hK9 => ?_, fun hs u w9 hw9 hd9 K9 hK9 => ?_, fun hs u w9 hw9 hd9 K9 hK9 => ?_, fun hs u w9 hw9 hd9 K9 hK9 => ?_, fun hs u w9 hw9 hd9 K9 hK9 => ?_, fun hs u w9 hw9 hd9 K9 hK9 => ?_, fun hs u w9 hw9 hd9 K9 hK9 => ?_, fun hs u w9 hw9 hd9 K9 hK9 => ?_, fun hs u w9 hw9 hd9 K9 hK9 => ?_, fun hs u w9 hw9 hd9 K9 hK9 => ?_, trivial⟩ ?_ ?_
    rotate_left
    · (intro u; simp only [allPut, Act.put, List.setIfInBounds_toArray, List.set_cons_zero, List.set_cons_succ, Nat.zero_add, Nat.reduceAdd]; rfl)
    · clear hs
      obtain ⟨hc9, hf9⟩ := bcell hw9
      clear hd9
      go_simp
      exact hK9.out _ _ _ rfl (Below.refl _ _) rfl
    · clear hs
      obtain ⟨hc9, hf9⟩ := bcell hw9
      simp only [depsOk, Region.binds, if_true, and_true, List.getD_cons_zero, List.getD_cons_succ, Spc.det, Spc.any] at hd9
      generalize u 0 = x0 at hd9 hK9 ⊢
      obtain rfl := hd9
      go_simp
      exact hK9.out _ _ _ rfl (Below.refl _ _) rfl
    · clear hs
      obtain ⟨hc9, hf9⟩ := bcell hw9
      simp only [depsOk, Region.binds, if_true, and_true, List.getD_cons_zero, List.getD_cons_succ, Spc.det, Spc.any] at hd9
      generalize u 1 = x1 at hd9 hK9 ⊢
      obtain rfl := hd9
      go_simp
      exact hK9.out _ _ _ rfl (Below.refl _ _) rfl
    · clear hs
      obtain ⟨hc9, hf9⟩ := bcell hw9
      clear hd9
      go_simp
      exact hK9.out _ _ _ rfl (Below.refl _ _) rfl
    · clear hs
      obtain ⟨hc9, hf9⟩ := bcell hw9
      simp only [depsOk, Region.binds, if_true, and_true, List.getD_cons_zero, List.getD_cons_succ, Spc.det, Spc.any] at hd9
      generalize u 3 = x3 at hd9 hK9 ⊢
      obtain rfl := hd9
      go_simp
      exact hK9.out _ _ _ rfl (Below.refl _ _) rfl
    · clear hs
      obtain ⟨hc9, hf9⟩ := bcell hw9
      simp only [depsOk, Region.binds, if_true, and_true, List.getD_cons_zero, List.getD_cons_succ, Spc.det, Spc.any] at hd9
      generalize u 4 = x4 at hd9 hK9 ⊢
      obtain rfl := hd9
      go_simp
      exact hK9.out _ _ _ rfl (Below.refl _ _) rfl
    · clear hs
      obtain ⟨hc9, hf9⟩ := bcell hw9
      simp only [depsOk, Region.binds, if_true, and_true, List.getD_cons_zero, List.getD_cons_succ, Spc.det, Spc.any] at hd9
      generalize u 5 = x5 at hd9 hK9 ⊢
      obtain rfl := hd9
      go_simp
      go_at_call 34
      refine (fneg_c w9 (RatC.on qk hw9) (by omega)).mono ?_
      intro e w5 hr
      obtain ⟨r, rfl, h1, h2, h3, hb⟩ := hr.spc
      exact hK9.out _ _ _ ⟨r, rfl, h1, h2, h3⟩ hb rfl
    · clear hs
      obtain ⟨hc9, hf9⟩ := bcell hw9
      simp only [depsOk, Region.binds, if_true, and_true, List.getD_cons_zero, List.getD_cons_succ, Spc.det, Spc.any] at hd9
      generalize u 6 = x6 at hd9 hK9 ⊢
      obtain ⟨r, rfl, h1, h2, h3⟩ := hd9
      go_simp
      exact hK9.out _ _ _ ⟨r, rfl, h1, h2, h3⟩ (Below.refl _ _) rfl
    · clear hs
      obtain ⟨hc9, hf9⟩ := bcell hw9
      simp only [depsOk, Region.binds, if_true, and_true, List.getD_cons_zero, List.getD_cons_succ, Spc.det, Spc.any] at hd9
      generalize u 2 = x2 at hd9 hK9 ⊢
      generalize u 7 = x7 at hd9 hK9 ⊢
      obtain ⟨rfl, r, rfl, h1, h2, h3⟩ := hd9
      go_simp
      exact hK9.out _ _ _ ⟨r, rfl, h1, h2, h3⟩ (Below.refl _ _) rfl
    · clear hs
      obtain ⟨hc9, hf9⟩ := bcell hw9
      clear hd9
      go_simp
      exact hK9.out _ _ _ ⟨w9.heap.size, rfl, hw9.size, Blk.new _ _ _⟩ ((Below.refl _ _).alloc (Nat.le_refl _) _) rfl
    · exact absurd rfl hs
    · intro hs; exact absurd hs (by decide)
    · intro o9 ho9 u w9 hw9 hsp9
      cases ho9
      obtain ⟨hc9, hf9⟩ := bcell hw9
      have q0 := hsp9 0 (by decide) (by decide)
      have q1 := hsp9 1 (by decide) (by decide)
      have q2 := hsp9 2 (by decide) (by decide)
      have q3 := hsp9 3 (by decide) (by decide)
      have q4 := hsp9 4 (by decide) (by decide)
      have q5 := hsp9 5 (by decide) (by decide)
      have q6 := hsp9 6 (by decide) (by decide)
      have q7 := hsp9 7 (by decide) (by decide)
      have q8 := hsp9 8 (by decide) (by decide)
      have q9 := hsp9 9 (by decide) (by decide)
      simp only [List.getD_cons_zero, List.getD_cons_succ, Spc.det] at q0 q1 q2 q3 q4 q5 q6 q7 q8 q9
      clear hsp9
      generalize u 0 = x0 at q0 ⊢
      subst q0
      generalize u 1 = x1 at q1 ⊢
      subst q1
      generalize u 2 = x2 at q2 ⊢
      subst q2
      generalize u 3 = x3 at q3 ⊢
      subst q3
      generalize u 4 = x4 at q4 ⊢
      subst q4
      generalize u 5 = x5 at q5 ⊢
      subst q5
      generalize u 6 = x6 at q6 ⊢
      generalize u 7 = x7 at q7 ⊢
      generalize u 8 = x8 at q8 ⊢
      generalize u 9 = x9 at q9 ⊢
      obtain ⟨r, rfl, h1, h2, h3⟩ := q8
      obtain ⟨B, rfl, hB, hb⟩ := q9
      refine wpOp_step rfl (fun K8 hK8 => ?_)
      have b0 := hb.cell 0
      have b1 := hb.cell 1
      have b2 := hb.cell 2
      have b3 := hb.cell 3
      have b4 := hb.cell 4
      have b5 := hb.cell 5
      have f0 := hb.frozen 0
      have f1 := hb.frozen 1
      have f2 := hb.frozen 2
      have f3 := hb.frozen 3
      have f4 := hb.frozen 4
      have f5 := hb.frozen 5
      simp at b0 b1 b2 b3 b4 b5
      go_simp
      refine hK8 _ _ ?_
      clear hK8 K8
      go_wp2_with fail
      go_meet
      exact ⟨_, B, ⟨none, 0, 0, [], r⟩, rfl, hb.set6_ _ _ _ _ _ _, (⟨termsR_nil _ _ _, h1⟩ : FD.In ⟨none, 0, 0, [], r⟩ w9).set6 hb _ _ _ _ _ _ _ _ _ _ _ _ _ _, ⟨(fun i t ht => by cases ht), h2, by show H r.q ≤ m; rw [h3, H_neg]; omega, by show 0 ≤ 65536; omega⟩, by show (_, r.q) = _; rw [h3]; rfl, hB, below_set6 hw9 hB _ _ _ _ _ _, rfl⟩
  case rest =>
    obtain ⟨Y, B, g, rfl, hBY, hgY, hog, hsg, hBge, hbY, rfl⟩ := hcut
    have hD0 : DOut w Y Y.heap.size B (3 * (m + 1) + 1) (⟨pv, pra, prn, prc, prows, pobj⟩ : PD) prn ([], -pobj.k.q) [] none 0 0 [] g := {
      row := Row.nil _ _ _ _ _
      all := fun i f hf => by cases hf
      ok := fun i f hf => by cases hf
      sem := (rfl : List.map sem [] = [])
      box := hBY
      obj := hgY
      objok := hog.mono (by omega)
      objsem := hsg
      pbox := hpX.on hbY
      res := hRX.on hbY
      below := hwX.trans (hbY.mono hwX.size)
      base_le := Nat.le_refl _
      B_lt := hBY.lt
      B_ge := by have := HPS.out; have := hbX.size; omega }
    clear qk hBY hgY hog hsg k0 k1 k2 k3 k4 k5 kz hpX hRX hbX pX hbY
    have k0 := hD0.pbox.cell 0
    have k1 := hD0.pbox.cell 1
    have k2 := hD0.pbox.cell 2
    have k3 := hD0.pbox.cell 3
    have k4 := hD0.pbox.cell 4
    have k5 := hD0.pbox.cell 5
    simp at k0 k1 k2 k3 k4 k5
    obtain ⟨i0, hi0, hz0, hz1, hz2⟩ := info_parts Tryz.infoAffine
    have HI := Lib.hid (And.intro hi0 (And.intro hz0 (And.intro hz1 hz2)))
    clear hi0 hz0 hz1 hz2
    go_wp2_with fail
    go_loopw [5] (fun s5 wr => ∃ i ra rc fs g, i ≤ prn ∧ s5 = .int .i64 (i : Nat) ∧ DOut w wr Y.heap.size B (3 * (m + 1) + 1) (⟨pv, pra, prn, prc, prows, pobj⟩ : PD) prn (colN (fun f : FD => f.k.q) prows i, -pobj.k.q) (dualA i) ra i rc fs g) (fun i _ => prn - (intOf i).toNat)
    case atStart => exact ⟨0, _, _, [], _, by omega, rfl, hD0⟩
    case round =>
      clear hD0 k0 k1 k2 k3 k4 k5
      obtain ⟨i, ra, rc, fs, g, hi, rfl, hD⟩ := hrel
      have k0 := hD.pbox.cell 0
      have k1 := hD.pbox.cell 1
      have k2 := hD.pbox.cell 2
      have k3 := hD.pbox.cell 3
      have k4 := hD.pbox.cell 4
      have k5 := hD.pbox.cell 5
      simp at k0 k1 k2 k3 k4 k5
      have kz := hD.pbox.lt
      by_cases hlt : i < prn
      · go_upto_region 7 with (fail)
        have b1 := hD.box.cell 1
        have bz := hD.box.lt
        simp at b1
        have hU0 : Below wr.heap.size wr wr.drew := Below.drew (Below.refl _ _)
        refine wp_region_T 7 (fun w' => w'.cell? ⟨B, 1, none⟩ = some (.slice ra i rc)) (by kernel_rfl) (by (try dsimp only); go_keep) (fun hHeld => ?_)
        refine wpT_take 0 (v := ?_) rfl (by kernel_rfl) (fun _ _ _ h => h) (by rfl) (by assumption) ?_ ?_
        rotate_left
        · (intro w9 hS9; (try dsimp only at hS9); go_simp; try with_reducible rfl)
        try simp only [Act.put, List.setIfInBounds_toArray, List.set_cons_zero, List.set_cons_succ]
        refine wpT_take 1 (v := ?_) rfl (by kernel_rfl) (fun _ _ _ h => h) (by rfl) (by assumption) ?_ ?_
        rotate_left
        · (intro w9 hS9; (try dsimp only at hS9); go_simp; try with_reducible rfl)
        try simp only [Act.put, List.setIfInBounds_toArray, List.set_cons_zero, List.set_cons_succ]
        refine wpT_take 2 (v := ?_) rfl (by kernel_rfl) (fun _ _ _ h => h) (by rfl) (by assumption) ?_ ?_
        rotate_left
        · (intro w9 hS9; (try dsimp only at hS9); go_simp; try with_reducible rfl)
        try simp only [Act.put, List.setIfInBounds_toArray, List.set_cons_zero, List.set_cons_succ]
        refine wpT_only 3 rfl (by kernel_rfl) (fun K hK => ?_)
        go_simp
        go_at_call 35; refine (funit_c _ i (by omega)).mono ?_; rintro e w5 ⟨u, rfl, hu5, hou, hsu, hb5'⟩; have HSU := Lib.hid hsu; clear hsu; have hb5 : Below wr.heap.size wr w5 := hU0.trans hb5'; obtain ⟨hc5, hf5⟩ := bcell hb5; have bz5 := Nat.lt_of_lt_of_le bz hb5.size; have hal1 : Below w5.heap.size w5 (w5.alloc (.cells #[.slice u.ad u.n u.c, .bool u.k.neg, .slice u.k.a1 u.k.n1 u.k.c1, .slice u.k.a2 u.k.n2 u.k.c2] 29)) := (Below.refl _ _).alloc (Nat.le_refl _) _; have hD6 := (hD.on hb5).on hal1; have hu6 := hu5.on hal1
        go_wp2_with fail
        have hOld := hHeld
        clear hHeld
        refine hK.out _ _ ?_ (fun hHeld => ?_)
        · (try dsimp only); go_keep
        clear hOld hK K
        try simp only [Act.put, List.setIfInBounds_toArray, List.set_cons_zero, List.set_cons_succ]
        refine wpT_only 4 rfl (by kernel_rfl) (fun K hK => ?_)
        go_simp
        have hOld := hHeld
        clear hHeld
        refine hK.out _ _ ?_ (fun hHeld => ?_)
        · (try dsimp only); go_keep
        clear hOld hK K
        try simp only [Act.put, List.setIfInBounds_toArray, List.set_cons_zero, List.set_cons_succ]
        refine wpT_only 5 rfl (by kernel_rfl) (fun K hK => ?_)
        refine step_row _ rfl (.tmp 30) (.tmp 33) _ rfl Y.heap.size 29 i0 (.agg #[.slice none 0 0, .bool false, .slice none 0 0, .slice none 0 0]) 4 80 Tryz.underlying22 HI.out.1 HI.out.2.1 HI.out.2.2.1 HI.out.2.2.2 rfl (by omega) (.slice ra i rc) i (fcells fs) rfl hD6.row ⟨w5.heap.size, 0, none⟩ 1 1 [.slice u.ad u.n u.c, .bool u.k.neg, .slice u.k.a1 u.k.n1 u.k.c1, .slice u.k.a2 u.k.n2 u.k.c2] rfl rfl (cells_news w5 #[.slice u.ad u.n u.c, .bool u.k.neg, .slice u.k.a1 u.k.n1 u.k.c1, .slice u.k.a2 u.k.n2 u.k.c2] _) (fcells_one [u]) (by simp only [maxLen]; omega) (by omega) hD6.base_le (by omega) affine_zero (fcells_notI [u]) ?_; intro v7 w7 hr7 hg7 ho7; obtain ⟨ad7, c7, rfl⟩ := hr7.shape; obtain ⟨hB7, hD7⟩ := hD6.app (gs := [u]) (rs' := dualA (i + 1)) hg7 hr7 (one_all hu6 (hou.mono (by omega))) (by rw [← dualA_succ]; simp only [List.map_cons, List.map_nil, HSU.out]); have y1 := hB7.cell 1; have yf := hB7.frozen 1; have yz := hB7.lt; simp at y1
        have hOld := hHeld
        clear hHeld
        refine hK.out _ _ ?_ (fun hHeld => ?_)
        · (try dsimp only); go_keep
        clear hOld hK K
        try simp only [Act.put, List.setIfInBounds_toArray, List.set_cons_zero, List.set_cons_succ]
        refine wpT_take 6 (v := ?_) rfl (by kernel_rfl) (fun _ _ _ h => h) (by rfl) (by assumption) ?_ ?_
        rotate_left
        · (intro w9 hS9; (try dsimp only at hS9); go_simp; try with_reducible rfl)
        try simp only [Act.put, List.setIfInBounds_toArray, List.set_cons_zero, List.set_cons_succ]
        refine wpT_last 7 rfl rfl (by kernel_rfl) (fun K hK => ?_)
        go_simp
        refine hK.out _ _ ?_
        clear hK K
        try simp only [Act.put, List.setIfInBounds_toArray, List.set_cons_zero, List.set_cons_succ]
        refine wpT_done (by kernel_rfl) ?_ _
        go_upto_region 8 with (fail)
        generalize w7.setCell ⟨B, 1, none⟩ (.slice ad7 (i + 1) c7) = V at *
        have bV := hD7.box
        have hbb := hD7.below
        obtain ⟨b, o, f, rfl, hbl, HF, gf, r0, r1, r2, r3⟩ := (h.on hbb).rows.at_ (i := i) hlt
        have r1' : V.cell? ⟨b, o + i * 4 + 1, none⟩ = some (.bool f.k.neg) := r1
        have r2' : V.cell? ⟨b, o + i * 4 + 1 + 1, none⟩ = some (.slice f.k.a1 f.k.n1 f.k.c1) := r2
        have r3' : V.cell? ⟨b, o + i * 4 + 1 + 2, none⟩ = some (.slice f.k.a2 f.k.n2 f.k.c2) := r3
        have hgV := hD7.obj
        have HS := hD7.objsem
        have hog : OkFD m g := hD7.objok.tight HS.out (colN_H (fun i f hf => (HO.out.rows i f hf).kH)) (by rw [H_neg]; exact HO.out.obj.kH)
        have gk := RD.ok_c gf.const (HO.out.rows i f HF.out).k
        have HKH := Lib.hid (HO.out.rows i f HF.out).kH
        have HGN : Hid (g.n ≤ 64) := by
          have h1 := fm_n hgV
          have h2 : fm g.ts = colN (fun f : FD => f.k.q) prows i := congrArg Prod.fst HS.out
          rw [h2] at h1
          have h3 := colN_len (fun f : FD => f.k.q) prows i
          show g.n ≤ 64
          omega
        have hDV := hD7
        have c2 := bV.cell 2
        have c3 := bV.cell 3
        have c4 := bV.cell 4
        have c5 := bV.cell 5
        have cz := bV.lt
        have cf2 := bV.frozen 2
        have cf3 := bV.frozen 3
        have cf4 := bV.frozen 4
        have cf5 := bV.frozen 5
        have d1 := hD7.pbox.cell 1
        have dz := hD7.pbox.lt
        simp at c2 c3 c4 c5 d1
        have lo : decide ((i : Int) < 0) = false := decide_eq_false (by omega)
        have hi' : decide ((prn : Int) ≤ (i : Int)) = false := decide_eq_false (by omega)
        have hU0 : Below V.heap.size V V.drew := Below.drew (Below.refl _ _)
        clear hD7 r0 r1 r2 r3
        go_wp2_with fail
        refine wp_region_T 13 (fun w' => w'.cell? ⟨B, 2, none⟩ = some (.slice g.ad g.n g.c) ∧ w'.cell? ⟨B, 3, none⟩ = some (.bool g.k.neg) ∧ w'.cell? ⟨B, 4, none⟩ = some (.slice g.k.a1 g.k.n1 g.k.c1) ∧ w'.cell? ⟨B, 5, none⟩ = some (.slice g.k.a2 g.k.n2 g.k.c2) ∧ w'.cell? ⟨w.heap.size, 1, none⟩ = some (.slice (some ⟨b, o, none⟩) prn prc) ∧ w'.cell? ⟨b, o + i * 4 + 1, none⟩ = some (.bool f.k.neg) ∧ w'.cell? ⟨b, o + i * 4 + 1 + 1, none⟩ = some (.slice f.k.a1 f.k.n1 f.k.c1) ∧ w'.cell? ⟨b, o + i * 4 + 1 + 2, none⟩ = some (.slice f.k.a2 f.k.n2 f.k.c2)) (by kernel_rfl) (by (try dsimp only); go_keep) (fun hHeld => ?_)
        refine wpT_take 0 (v := ?_) rfl (by kernel_rfl) (fun _ _ _ h => h) (by rfl) (by assumption) ?_ ?_
        rotate_left
        · (intro w9 hS9; (try dsimp only at hS9); go_simp; try with_reducible rfl)
        try simp only [Act.put, List.setIfInBounds_toArray, List.set_cons_zero, List.set_cons_succ]
        refine wpT_take 1 (v := ?_) rfl (by kernel_rfl) (fun _ _ _ h => h) (by rfl) (by assumption) ?_ ?_
        rotate_left
        · (intro w9 hS9; (try dsimp only at hS9); go_simp; try with_reducible rfl)
        try simp only [Act.put, List.setIfInBounds_toArray, List.set_cons_zero, List.set_cons_succ]
        refine wpT_take 2 (v := ?_) rfl (by kernel_rfl) (fun _ _ _ h => h) (by rfl) (by assumption) ?_ ?_
        rotate_left
        · (intro w9 hS9; (try dsimp only at hS9); go_simp; try with_reducible rfl)
        try simp only [Act.put, List.setIfInBounds_toArray, List.set_cons_zero, List.set_cons_succ]
        refine wpT_take 4 (v := ?_) rfl (by kernel_rfl) (fun _ _ _ h => h) (by rfl) (by assumption) ?_ ?_
        rotate_left
        · (intro w9 hS9; (try dsimp only at hS9); go_simp; try with_reducible rfl)
        try simp only [Act.put, List.setIfInBounds_toArray, List.set_cons_zero, List.set_cons_succ]
        refine wpT_take 5 (v := ?_) rfl (by kernel_rfl) (fun _ _ _ h => h) (by rfl) (by assumption) ?_ ?_
        rotate_left
        · (intro w9 hS9; (try dsimp only at hS9); go_simp; try with_reducible rfl)
        try simp only [Act.put, List.setIfInBounds_toArray, List.set_cons_zero, List.set_cons_succ]
        refine wpT_take 6 (v := ?_) rfl (by kernel_rfl) (fun _ _ _ h => h) (by rfl) (by assumption) ?_ ?_
        rotate_left
        · (intro w9 hS9; (try dsimp only at hS9); go_simp; try with_reducible rfl)
        try simp only [Act.put, List.setIfInBounds_toArray, List.set_cons_zero, List.set_cons_succ]
        refine wpT_take 7 (v := ?_) rfl (by kernel_rfl) (fun _ _ _ h => h) (by rfl) (by assumption) ?_ ?_
        rotate_left
        · (intro w9 hS9; (try dsimp only at hS9); go_simp; try with_reducible rfl)
        try simp only [Act.put, List.setIfInBounds_toArray, List.set_cons_zero, List.set_cons_succ]
        refine wpT_take 8 (v := ?_) rfl (by kernel_rfl) (fun _ _ _ h => h) (by rfl) (by assumption) ?_ ?_
        rotate_left
        · (intro w9 hS9; (try dsimp only at hS9); go_simp; try with_reducible rfl)
        try simp only [Act.put, List.setIfInBounds_toArray, List.set_cons_zero, List.set_cons_succ]
        refine wpT_take 9 (v := ?_) rfl (by kernel_rfl) (fun _ _ _ h => h) (by rfl) (by assumption) ?_ ?_
        rotate_left
        · (intro w9 hS9; (try dsimp only at hS9); go_simp; try with_reducible rfl)
        try simp only [Act.put, List.setIfInBounds_toArray, List.set_cons_zero, List.set_cons_succ]
        refine wpT_only 3 rfl (by kernel_rfl) (fun K hK => ?_)
        go_simp
        go_at_call 35; refine (funit_c _ i (by omega)).mono ?_; rintro e w6 ⟨u, rfl, hu6, hou, hsu, hb6'⟩; have HSU := Lib.hid hsu; clear hsu; have hb6 : Below V.heap.size V w6 := hU0.trans hb6'; obtain ⟨hc6, hf6⟩ := bcell hb6
        go_wp2_with fail
        have hOld := hHeld
        clear hHeld
        refine hK.out _ _ ?_ (fun hHeld => ?_)
        · (try dsimp only); go_keep
        clear hOld hK K
        try simp only [Act.put, List.setIfInBounds_toArray, List.set_cons_zero, List.set_cons_succ]
        refine wpT_only 10 rfl (by kernel_rfl) (fun K hK => ?_)
        go_simp
        go_at_call 37; refine (fscale_c (m := 1) (mq := m) _ hu6 hou (RatC.on gk hb6) HKH.out (by omega)).mono ?_; rintro e w7 ⟨s, rfl, hs7, hos, hss, hb7'⟩; have HSS := Lib.hid hss; clear hss; have hb7 : Below V.heap.size V w7 := hb6.trans (hb7'.mono hb6.size); obtain ⟨hc7, hf7⟩ := bcell hb7
        go_wp2_with fail
        have hOld := hHeld
        clear hHeld
        refine hK.out _ _ ?_ (fun hHeld => ?_)
        · (try dsimp only); go_keep
        clear hOld hK K
        try simp only [Act.put, List.setIfInBounds_toArray, List.set_cons_zero, List.set_cons_succ]
        refine wpT_only 11 rfl (by kernel_rfl) (fun K hK => ?_)
        go_simp
        go_at_call 36; refine (fadd_f (m := m) (mg := 1 + m + 1) _ (hgV.on hb7) hog hs7 hos (by omega) (by have := HGN.out; have := hos.n; have h9 := form1_len hs7 HSS.out HSU.out; omega)).mono ?_; rintro e w8 ⟨g', rfl, hg8, hog', hsg', hb8'⟩; have hb8 : Below V.heap.size V w8 := hb7.trans (hb8'.mono hb7.size); obtain ⟨hc8, hf8⟩ := bcell hb8; have HSG : Hid (sem g' = (colN (fun f : FD => f.k.q) prows (i + 1), -pobj.k.q)) := obj_step HF.out HSU.out HSS.out HS.out hsg'; clear hsg'; have hD8 := hDV.on hb8; have c2 := hD8.box.cell 2; have c3 := hD8.box.cell 3; have c4 := hD8.box.cell 4; have c5 := hD8.box.cell 5; have f2 := hD8.box.frozen 2; have f3 := hD8.box.frozen 3; have f4 := hD8.box.frozen 4; have f5 := hD8.box.frozen 5; have bz8 := hD8.box.lt; simp at c2 c3 c4 c5
        go_wp2_with fail
        have hOld := hHeld
        clear hHeld
        refine hK.out _ _ ?_ (fun hHeld => ?_)
        · (try dsimp only); go_keep
        clear hOld hK K
        try simp only [Act.put, List.setIfInBounds_toArray, List.set_cons_zero, List.set_cons_succ]
        refine wpT_take 12 (v := ?_) rfl (by kernel_rfl) (fun _ _ _ h => h) (by rfl) (by assumption) ?_ ?_
        rotate_left
        · (intro w9 hS9; (try dsimp only at hS9); go_simp; try with_reducible rfl)
        try simp only [Act.put, List.setIfInBounds_toArray, List.set_cons_zero, List.set_cons_succ]
        refine wpT_last 13 rfl rfl (by kernel_rfl) (fun K hK => ?_)
        go_simp
        refine hK.out _ _ ?_
        clear hK K
        try simp only [Act.put, List.setIfInBounds_toArray, List.set_cons_zero, List.set_cons_succ]
        refine wpT_done (by kernel_rfl) ?_ _
        have hD9 := hD8.setobj hg8 ((hog'.tight HSG.out (colN_H (fun i f hf => (HO.out.rows i f hf).kH)) (by rw [H_neg]; exact HO.out.obj.kH)).mono (by omega)) HSG
        go_wp2_with fail
        go_roundw
        case rel => exact ⟨i + 1, _, _, _, g', by omega, by go_num, hD9⟩
        case measure => simp [intOf]; omega
      · have e : i = prn := by omega
        have d6 : decide (i < prn) = false := decide_eq_false (by omega)
        have d7 : decide ((i : Int) < (prn : Int)) = false := decide_eq_false (by omega)
        have hDn : DOut w wr Y.heap.size B (3 * (m + 1) + 1) (⟨pv, pra, prn, prc, prows, pobj⟩ : PD) prn (dualO (⟨pv, pra, prn, prc, prows, pobj⟩ : PD)) (dualA prn ++ dualB (⟨pv, pra, prn, prc, prows, pobj⟩ : PD) 0) ra prn rc fs g := by rw [e] at hD; rw [show dualB (⟨pv, pra, prn, prc, prows, pobj⟩ : PD) 0 = [] from rfl, List.append_nil]; exact hD
        clear hD e
        have k0 := hDn.pbox.cell 0
        have k1 := hDn.pbox.cell 1
        have k2 := hDn.pbox.cell 2
        have k3 := hDn.pbox.cell 3
        have k4 := hDn.pbox.cell 4
        have k5 := hDn.pbox.cell 5
        simp at k0 k1 k2 k3 k4 k5
        go_wp2_with fail
        go_loopw [6] (fun s6 wr => ∃ j ra rn rc fs, j ≤ pv.toNat ∧ s6 = .int .i64 (j : Nat) ∧ DOut w wr Y.heap.size B (3 * (m + 1) + 1) (⟨pv, pra, prn, prc, prows, pobj⟩ : PD) prn (dualO (⟨pv, pra, prn, prc, prows, pobj⟩ : PD)) (dualA prn ++ dualB (⟨pv, pra, prn, prc, prows, pobj⟩ : PD) j) ra rn rc fs g ∧ rn ≤ prn + 2 * j) (fun j _ => pv.toNat - (intOf j).toNat)
        case atStart => exact ⟨0, _, _, _, _, by omega, rfl, hDn, by omega⟩
        case round =>
          clear hDn k0 k1 k2 k3 k4 k5
          obtain ⟨j, ra, rn, rc, fs, hj, rfl, hD, hrn'⟩ := hrel
          have k0 := hD.pbox.cell 0
          have k1 := hD.pbox.cell 1
          have k2 := hD.pbox.cell 2
          have k3 := hD.pbox.cell 3
          have k4 := hD.pbox.cell 4
          have k5 := hD.pbox.cell 5
          simp at k0 k1 k2 k3 k4 k5
          have kz := hD.pbox.lt
          by_cases hlt : (j : Int) < pv
          · have d8 : decide ((j : Int) < pv) = true := decide_eq_true hlt
            have pU := h.on hD.below
            go_wp2_with fail
            refine (fcoef_c wr (f := pobj) (j : Int) pU.obj HO.out.obj).mono ?_
            rintro e w5 ⟨s5, a5, n5, c5, a6, n6, c6, rfl, g5, hb5⟩
            have hcH : H (coefT pobj.ts (j : Int)) ≤ m + 1 := coefT_H HO.out.obj.ts _
            go_wp2_with fail
            refine (fneg_c w5 g5 (by omega)).mono ?_
            rintro e U hr6
            obtain ⟨r, rfl, hr1, hr2, hr3, hb6⟩ := hr6.spc
            have HR3 := Lib.hid hr3
            have HR2 := Lib.hid hr2
            clear hr2 hr3
            have hb56 := hb5.trans (hb6.mono hb5.size)
            have hDU := hD.on hb56
            go_upto_region 13 with (fail)
            have hQ := Pro1.mk' U #[.slice none 0 0, .bool r.neg, .slice r.a1 r.n1 r.c1, .slice r.a2 r.n2 r.c2] 29
            generalize U.alloc (.cells #[.slice none 0 0, .bool r.neg, .slice r.a1 r.n1 r.c1, .slice r.a2 r.n2 r.c2] 29) = V at *
            have hF0 : FBox U V U.heap.size (m + 1) ⟨none, 0, 0, [], r⟩ := ⟨hQ.b0, ⟨termsR_nil _ _ _, hr1.on hQ.below⟩, ⟨(fun i t ht => by cases ht), HR2.out, by show H r.q ≤ m + 1; rw [HR3.out, H_neg]; exact hcH, by show 0 ≤ 65536; omega⟩, hQ.below⟩
            have HS0 : Hid (sem ⟨none, 0, 0, [], r⟩ = (colN (fun f : FD => coefT f.ts (j : Int)) prows 0, -(coefT pobj.ts (j : Int)))) := by show (_, r.q) = _; rw [HR3.out]; rfl
            clear hQ hD k0 k1 k2 k3 k4 k5 kz pU g5 hb5 hb6 hb56 hr1
            go_wp2_with fail
            go_loopw [8] (fun s8 wr => ∃ i g', i ≤ prn ∧ s8 = .int .i64 (i : Nat) ∧ FBox U wr U.heap.size (m + 1) g' ∧ Hid (sem g' = (colN (fun f : FD => coefT f.ts (j : Int)) prows i, -(coefT pobj.ts (j : Int))))) (fun i _ => prn - (intOf i).toNat)
            case atStart => exact ⟨0, _, by omega, rfl, hF0, HS0⟩
            case round =>
              clear hF0 HS0
              obtain ⟨i, g1, hi, rfl, hF, HS⟩ := hrel
              have hDr := hDU.on hF.below
              have k1 := hDr.pbox.cell 1
              simp at k1
              have kz := hDr.pbox.lt
              by_cases hlt2 : i < prn
              · have hbb := hDr.below
                obtain ⟨b, o, f, rfl, hbl, HFI, gf, r0, r1, r2, r3⟩ := (h.on hbb).rows.at_ (i := i) hlt2
                have r1' : wr.cell? ⟨b, o + i * 4 + 1, none⟩ = some (.bool f.k.neg) := r1
                have r2' : wr.cell? ⟨b, o + i * 4 + 2, none⟩ = some (.slice f.k.a1 f.k.n1 f.k.c1) := r2
                have r3' : wr.cell? ⟨b, o + i * 4 + 3, none⟩ = some (.slice f.k.a2 f.k.n2 f.k.c2) := r3
                have HOF := Lib.hid (HO.out.rows i f HFI.out)
                have HKH : H (coefT f.ts (j : Int)) ≤ m + 1 := coefT_H HOF.out.ts _
                have HGN : Hid (g1.n ≤ 64) := by
                  have h1 := fm_n hF.data
                  have h2 : fm g1.ts = colN (fun f : FD => coefT f.ts (j : Int)) prows i := congrArg Prod.fst HS.out
                  rw [h2] at h1
                  have h3 := colN_len (fun f : FD => coefT f.ts (j : Int)) prows i
                  show g1.n ≤ 64
                  omega
                have x0 := hF.box.cell 0
                have x1 := hF.box.cell 1
                have x2 := hF.box.cell 2
                have x3 := hF.box.cell 3
                simp at x0 x1 x2 x3
                have xz := hF.box.lt
                have xf0 := hF.box.frozen 0
                have xf1 := hF.box.frozen 1
                have xf2 := hF.box.frozen 2
                have xf3 := hF.box.frozen 3
                have d1 := hDr.pbox.cell 1
                have dz := hDr.pbox.lt
                simp at d1
                have lo : decide ((i : Int) < 0) = false := decide_eq_false (by omega)
                have hi' : decide ((prn : Int) ≤ (i : Int)) = false := decide_eq_false (by omega)
                have hU0 : Below wr.heap.size wr wr.drew := Below.drew (Below.refl _ _)
                have r0' : wr.cell? ⟨b, o + i * 4, none⟩ = some (.slice f.ad f.n f.c) := r0
                clear r0 r1 r2 r3
                go_upto_region 16 with (fail)
                refine wp_region_T 12 (fun w' => w'.cell? ⟨U.heap.size, 0, none⟩ = some (.slice g1.ad g1.n g1.c) ∧ w'.cell? ⟨U.heap.size, 1, none⟩ = some (.bool g1.k.neg) ∧ w'.cell? ⟨U.heap.size, 2, none⟩ = some (.slice g1.k.a1 g1.k.n1 g1.k.c1) ∧ w'.cell? ⟨U.heap.size, 3, none⟩ = some (.slice g1.k.a2 g1.k.n2 g1.k.c2) ∧ w'.cell? ⟨w.heap.size, 1, none⟩ = some (.slice (some ⟨b, o, none⟩) prn prc) ∧ w'.cell? ⟨b, o + i * 4, none⟩ = some (.slice f.ad f.n f.c) ∧ w'.cell? ⟨b, o + i * 4 + 1, none⟩ = some (.bool f.k.neg) ∧ w'.cell? ⟨b, o + i * 4 + 2, none⟩ = some (.slice f.k.a1 f.k.n1 f.k.c1) ∧ w'.cell? ⟨b, o + i * 4 + 3, none⟩ = some (.slice f.k.a2 f.k.n2 f.k.c2)) (by kernel_rfl) (by (try dsimp only); go_keep) (fun hHeld => ?_)
                refine wpT_take 0 (v := ?_) rfl (by kernel_rfl) (fun _ _ _ h => h) (by rfl) (by assumption) ?_ ?_
                rotate_left
                · (intro w9 hS9; (try dsimp only at hS9); go_simp; try with_reducible rfl)
                try simp only [Act.put, List.setIfInBounds_toArray, List.set_cons_zero, List.set_cons_succ]
                refine wpT_take 1 (v := ?_) rfl (by kernel_rfl) (fun _ _ _ h => h) (by rfl) (by assumption) ?_ ?_
                rotate_left
                · (intro w9 hS9; (try dsimp only at hS9); go_simp; try with_reducible rfl)
                try simp only [Act.put, List.setIfInBounds_toArray, List.set_cons_zero, List.set_cons_succ]
                refine wpT_take 3 (v := ?_) rfl (by kernel_rfl) (fun _ _ _ h => h) (by rfl) (by assumption) ?_ ?_
                rotate_left
                · (intro w9 hS9; (try dsimp only at hS9); go_simp; try with_reducible rfl)
                try simp only [Act.put, List.setIfInBounds_toArray, List.set_cons_zero, List.set_cons_succ]
                refine wpT_take 4 (v := ?_) rfl (by kernel_rfl) (fun _ _ _ h => h) (by rfl) (by assumption) ?_ ?_
                rotate_left
                · (intro w9 hS9; (try dsimp only at hS9); go_simp; try with_reducible rfl)
                try simp only [Act.put, List.setIfInBounds_toArray, List.set_cons_zero, List.set_cons_succ]
                refine wpT_take 5 (v := ?_) rfl (by kernel_rfl) (fun _ _ _ h => h) (by rfl) (by assumption) ?_ ?_
                rotate_left
                · (intro w9 hS9; (try dsimp only at hS9); go_simp; try with_reducible rfl)
                try simp only [Act.put, List.setIfInBounds_toArray, List.set_cons_zero, List.set_cons_succ]
                refine wpT_take 6 (v := ?_) rfl (by kernel_rfl) (fun _ _ _ h => h) (by rfl) (by assumption) ?_ ?_
                rotate_left
                · (intro w9 hS9; (try dsimp only at hS9); go_simp; try with_reducible rfl)
                try simp only [Act.put, List.setIfInBounds_toArray, List.set_cons_zero, List.set_cons_succ]
                refine wpT_take 7 (v := ?_) rfl (by kernel_rfl) (fun _ _ _ h => h) (by rfl) (by assumption) ?_ ?_
                rotate_left
                · (intro w9 hS9; (try dsimp only at hS9); go_simp; try with_reducible rfl)
                try simp only [Act.put, List.setIfInBounds_toArray, List.set_cons_zero, List.set_cons_succ]
                refine wpT_take 8 (v := ?_) rfl (by kernel_rfl) (fun _ _ _ h => h) (by rfl) (by assumption) ?_ ?_
                rotate_left
                · (intro w9 hS9; (try dsimp only at hS9); go_simp; try with_reducible rfl)
                try simp only [Act.put, List.setIfInBounds_toArray, List.set_cons_zero, List.set_cons_succ]
                refine wpT_only 2 rfl (by kernel_rfl) (fun K hK => ?_)
                go_simp
                go_at_call 35; refine (funit_c _ i (by omega)).mono ?_; rintro e w6 ⟨u, rfl, hu6, hou, hsu, hb6'⟩; have HSU := Lib.hid hsu; clear hsu; have hb6 : Below wr.heap.size wr w6 := hU0.trans hb6'; obtain ⟨hc6, hf6⟩ := bcell hb6
                go_wp2_with fail
                have hOld := hHeld
                clear hHeld
                refine hK.out _ _ ?_ (fun hHeld => ?_)
                · (try dsimp only); go_keep
                clear hOld hK K
                try simp only [Act.put, List.setIfInBounds_toArray, List.set_cons_zero, List.set_cons_succ]
                refine wpT_only 9 rfl (by kernel_rfl) (fun K hK => ?_)
                go_simp
                go_at_call 38; refine (fcoef_c _ (f := f) (j : Int) (gf.on hb6) HOF.out).mono ?_; rintro e w7 hr7; obtain ⟨r7, rfl, hr71, hr72, hr73, hb7'⟩ := hr7.spc; have HR7 := Lib.hid (And.intro hr72 hr73); clear hr72 hr73; have hb7 : Below wr.heap.size wr w7 := hb6.trans (hb7'.mono hb6.size); obtain ⟨hc7, hf7⟩ := bcell hb7
                go_wp2_with fail
                have hOld := hHeld
                clear hHeld
                refine hK.out _ _ ?_ (fun hHeld => ?_)
                · (try dsimp only); go_keep
                clear hOld hK K
                try simp only [Act.put, List.setIfInBounds_toArray, List.set_cons_zero, List.set_cons_succ]
                refine wpT_only 10 rfl (by kernel_rfl) (fun K hK => ?_)
                go_simp
                go_at_call 37; refine (fscale_c (m := 1) (mq := m + 1) _ (hu6.on hb7') hou (RD.ratC hr71 HR7.out.1 HR7.out.2) HKH (by omega)).mono ?_; rintro e w8 ⟨s, rfl, hs8, hos, hss, hb8'⟩; have HSS := Lib.hid hss; clear hss; have hb8 : Below wr.heap.size wr w8 := hb7.trans (hb8'.mono hb7.size); obtain ⟨hc8, hf8⟩ := bcell hb8
                go_wp2_with fail
                have hOld := hHeld
                clear hHeld
                refine hK.out _ _ ?_ (fun hHeld => ?_)
                · (try dsimp only); go_keep
                clear hOld hK K
                try simp only [Act.put, List.setIfInBounds_toArray, List.set_cons_zero, List.set_cons_succ]
                refine wpT_only 11 rfl (by kernel_rfl) (fun K hK => ?_)
                go_simp
                go_at_call 36; refine (fadd_f (m := m + 1) (mg := 1 + (m + 1) + 1) _ (hF.data.on hb8) hF.ok hs8 hos (by omega) (by have := HGN.out; have h9 := form1_len hs8 HSS.out HSU.out; omega)).mono ?_; rintro e w9 ⟨g', rfl, hg9, hog', hsg', hb9'⟩; have hb9 : Below wr.heap.size wr w9 := hb8.trans (hb9'.mono hb8.size); obtain ⟨hc9, hf9⟩ := bcell hb9; have HSG : Hid (sem g' = (colN (fun f : FD => coefT f.ts (j : Int)) prows (i + 1), -(coefT pobj.ts (j : Int)))) := obj_step (G := fun f : FD => coefT f.ts (j : Int)) HFI.out HSU.out HSS.out HS.out hsg'; clear hsg'; have xz9 := Nat.lt_of_lt_of_le xz hb9.size
                go_wp2_with fail
                have hOld := hHeld
                clear hHeld
                refine hK.out _ _ ?_ (fun hHeld => ?_)
                · (try dsimp only); go_keep
                clear hOld hK K
                try simp only [Act.put, List.setIfInBounds_toArray, List.set_cons_zero, List.set_cons_succ]
                refine wpT_last 12 rfl rfl (by kernel_rfl) (fun K hK => ?_)
                go_simp
                refine hK.out _ _ ?_
                clear hK K
                try simp only [Act.put, List.setIfInBounds_toArray, List.set_cons_zero, List.set_cons_succ]
                refine wpT_done (by kernel_rfl) ?_ _
                have hF' := hF.set hb9 hg9 (hog'.tight HSG.out (colN_H (fun i f hf => coefT_H (HO.out.rows i f hf).ts _)) (by rw [H_neg]; exact hcH)) (Nat.le_refl _)
                go_wp2_with fail
                go_roundw
                case rel => exact ⟨i + 1, g', by omega, by go_num, hF', HSG⟩
                case measure => simp [intOf]; omega
              · have e : i = prn := by omega
                subst e
                have HSF : Hid (sem g1 = dualF (⟨pv, pra, i, prc, prows, pobj⟩ : PD) j) := HS.out
                have x0 := hF.box.cell 0
                have x1 := hF.box.cell 1
                have x2 := hF.box.cell 2
                have x3 := hF.box.cell 3
                simp at x0 x1 x2 x3
                have xz := hF.box.lt
                have b1 := hDr.box.cell 1
                have bz := hDr.box.lt
                simp at b1
                have hU0 : Below wr.heap.size wr wr.drew := Below.drew (Below.refl _ _)
                have HRL : Hid (∀ g, (Value.slice ra rn rc).ownBlock = some g → g < U.heap.size) := fun g hg => (hDU.row.own.lt g hg).2
                have ebB : B ≠ U.heap.size := by have := hDU.B_lt; have := hDU.base_le; omega
                have hgV := hF.data
                have hog := hF.ok
                have hQB := hF.box
                go_upto_region 17 with (fail)
                refine wp_region_T 9 (fun w' => w'.cell? ⟨U.heap.size, 0, none⟩ = some (.slice g1.ad g1.n g1.c) ∧ w'.cell? ⟨U.heap.size, 1, none⟩ = some (.bool g1.k.neg) ∧ w'.cell? ⟨U.heap.size, 2, none⟩ = some (.slice g1.k.a1 g1.k.n1 g1.k.c1) ∧ w'.cell? ⟨U.heap.size, 3, none⟩ = some (.slice g1.k.a2 g1.k.n2 g1.k.c2) ∧ w'.cell? ⟨B, 1, none⟩ = some (.slice ra rn rc)) (by kernel_rfl) (by (try dsimp only); go_keep) (fun hHeld => ?_)
                refine wpT_take 0 (v := ?_) rfl (by kernel_rfl) (fun _ _ _ h => h) (by rfl) (by assumption) ?_ ?_
                rotate_left
                · (intro w9 hS9; (try dsimp only at hS9); go_simp; try with_reducible rfl)
                try simp only [Act.put, List.setIfInBounds_toArray, List.set_cons_zero, List.set_cons_succ]
                refine wpT_take 1 (v := ?_) rfl (by kernel_rfl) (fun _ _ _ h => h) (by rfl) (by assumption) ?_ ?_
                rotate_left
                · (intro w9 hS9; (try dsimp only at hS9); go_simp; try with_reducible rfl)
                try simp only [Act.put, List.setIfInBounds_toArray, List.set_cons_zero, List.set_cons_succ]
                refine wpT_take 2 (v := ?_) rfl (by kernel_rfl) (fun _ _ _ h => h) (by rfl) (by assumption) ?_ ?_
                rotate_left
                · (intro w9 hS9; (try dsimp only at hS9); go_simp; try with_reducible rfl)
                try simp only [Act.put, List.setIfInBounds_toArray, List.set_cons_zero, List.set_cons_succ]
                refine wpT_take 3 (v := ?_) rfl (by kernel_rfl) (fun _ _ _ h => h) (by rfl) (by assumption) ?_ ?_
                rotate_left
                · (intro w9 hS9; (try dsimp only at hS9); go_simp; try with_reducible rfl)
                try simp only [Act.put, List.setIfInBounds_toArray, List.set_cons_zero, List.set_cons_succ]
                refine wpT_only 4 rfl (by kernel_rfl) (fun K hK => ?_)
                go_simp
                go_at_call 19; refine (frof_any _ (-1) (by omega) (by omega)).mono ?_; rintro e w8 ⟨s8, a9, n9, c9, a10, n10, c10, rfl, g8, hb8'⟩; have hb8 : Below wr.heap.size wr w8 := hU0.trans hb8'; obtain ⟨hc8, hf8⟩ := bcell hb8; have bz8 := Nat.lt_of_lt_of_le bz hb8.size
                go_wp2_with fail
                have hOld := hHeld
                clear hHeld
                refine hK.out _ _ ?_ (fun hHeld => ?_)
                · (try dsimp only); go_keep
                clear hOld hK K
                try simp only [Act.put, List.setIfInBounds_toArray, List.set_cons_zero, List.set_cons_succ]
                refine wpT_only 5 rfl (by kernel_rfl) (fun K hK => ?_)
                go_simp
                go_at_call 37; refine (fscale_c (m := m + 1) (mq := 1) _ (hgV.on hb8) hog g8 (by rw [H_mone]; omega) (by omega)).mono ?_; rintro e w9 ⟨f2, rfl, hf9, hof2, hsf2, hb9'⟩; have HSF2 : Hid (sem f2 = (mergeV [] (sem g1).1 ((-1 : Int) : Rat), (sem g1).2 * ((-1 : Int) : Rat))) := hsf2; clear hsf2; have hb9 : Below wr.heap.size wr w9 := hb8.trans (hb9'.mono hb8.size); obtain ⟨hc9, hf9x⟩ := bcell hb9; have bz9 := Nat.lt_of_lt_of_le bz hb9.size; have vz9 := Nat.lt_of_lt_of_le xz hb9.size; have hal : Below w9.heap.size w9 (w9.alloc (.cells #[.slice g1.ad g1.n g1.c, .bool g1.k.neg, .slice g1.k.a1 g1.k.n1 g1.k.c1, .slice g1.k.a2 g1.k.n2 g1.k.c2, .slice f2.ad f2.n f2.c, .bool f2.k.neg, .slice f2.k.a1 f2.k.n1 f2.k.c1, .slice f2.k.a2 f2.k.n2 f2.k.c2] 29)) := (Below.refl _ _).alloc (Nat.le_refl _) _; have hD10 := (hDr.on hb9).on hal; have hfa := (hgV.on hb9).on hal; have hfb := hf9.on hal
                go_wp2_with fail
                have hOld := hHeld
                clear hHeld
                refine hK.out _ _ ?_ (fun hHeld => ?_)
                · (try dsimp only); go_keep
                clear hOld hK K
                try simp only [Act.put, List.setIfInBounds_toArray, List.set_cons_zero, List.set_cons_succ]
                refine wpT_only 6 rfl (by kernel_rfl) (fun K hK => ?_)
                go_simp
                have hOld := hHeld
                clear hHeld
                refine hK.out _ _ ?_ (fun hHeld => ?_)
                · (try dsimp only); go_keep
                clear hOld hK K
                try simp only [Act.put, List.setIfInBounds_toArray, List.set_cons_zero, List.set_cons_succ]
                refine wpT_only 7 rfl (by kernel_rfl) (fun K hK => ?_)
                refine step_row _ rfl (.tmp 81) (.tmp 86) _ rfl Y.heap.size 29 i0 (.agg #[.slice none 0 0, .bool false, .slice none 0 0, .slice none 0 0]) 4 80 Tryz.underlying22 HI.out.1 HI.out.2.1 HI.out.2.2.1 HI.out.2.2.2 rfl (by omega) (.slice ra rn rc) rn (fcells fs) rfl hD10.row ⟨w9.heap.size, 0, none⟩ 2 2 [.slice g1.ad g1.n g1.c, .bool g1.k.neg, .slice g1.k.a1 g1.k.n1 g1.k.c1, .slice g1.k.a2 g1.k.n2 g1.k.c2, .slice f2.ad f2.n f2.c, .bool f2.k.neg, .slice f2.k.a1 f2.k.n1 f2.k.c1, .slice f2.k.a2 f2.k.n2 f2.k.c2] rfl rfl (cells_news w9 #[.slice g1.ad g1.n g1.c, .bool g1.k.neg, .slice g1.k.a1 g1.k.n1 g1.k.c1, .slice g1.k.a2 g1.k.n2 g1.k.c2, .slice f2.ad f2.n f2.c, .bool f2.k.neg, .slice f2.k.a1 f2.k.n1 f2.k.c1, .slice f2.k.a2 f2.k.n2 f2.k.c2] _) (fcells_one [g1, f2]) (by simp only [maxLen]; omega) (by omega) hD10.base_le (by omega) affine_zero (fcells_notI [g1, f2]) ?_; intro v7 w10 hr7 hg7 ho7; obtain ⟨ad7, c7, rfl⟩ := hr7.shape; obtain ⟨hB7, hD11⟩ := hD10.app (gs := [g1, f2]) (rs' := dualA i ++ dualB (⟨pv, pra, i, prc, prows, pobj⟩ : PD) (j + 1)) hg7 hr7 (two_all hfa (hog.mono (by omega)) hfb (hof2.mono (by omega))) (dual_step HSF HSF2); have hQ10 := ((hQB.on hb9).alloc (.cells #[.slice g1.ad g1.n g1.c, .bool g1.k.neg, .slice g1.k.a1 g1.k.n1 g1.k.c1, .slice g1.k.a2 g1.k.n2 g1.k.c2, .slice f2.ad f2.n f2.c, .bool f2.k.neg, .slice f2.k.a1 f2.k.n1 f2.k.c1, .slice f2.k.a2 f2.k.n2 f2.k.c2] 29)).grown hg7 (fun h9 => by have := HRL.out _ h9.symm; omega); have q0 := hQ10.cell 0; have q1 := hQ10.cell 1; have q2 := hQ10.cell 2; have q3 := hQ10.cell 3; simp at q0 q1 q2 q3; have y1 := hB7.cell 1; have yf := hB7.frozen 1; have yz := hB7.lt; simp at y1
                have hOld := hHeld
                clear hHeld
                refine hK.out _ _ ?_ (fun hHeld => ?_)
                · (try dsimp only); go_keep
                clear hOld hK K
                try simp only [Act.put, List.setIfInBounds_toArray, List.set_cons_zero, List.set_cons_succ]
                refine wpT_take 8 (v := ?_) rfl (by kernel_rfl) (fun _ _ _ h => h) (by rfl) (by assumption) ?_ ?_
                rotate_left
                · (intro w9 hS9; (try dsimp only at hS9); go_simp; try with_reducible rfl)
                try simp only [Act.put, List.setIfInBounds_toArray, List.set_cons_zero, List.set_cons_succ]
                refine wpT_last 9 rfl rfl (by kernel_rfl) (fun K hK => ?_)
                go_simp
                refine hK.out _ _ ?_
                clear hK K
                try simp only [Act.put, List.setIfInBounds_toArray, List.set_cons_zero, List.set_cons_succ]
                refine wpT_done (by kernel_rfl) ?_ _
                go_wp2_with fail
                go_roundw
                case rel => exact ⟨j + 1, _, _, _, _, by omega, by go_num, hD11, by omega⟩
                case measure => simp [intOf]; omega
          · have d8 : decide ((j : Int) < pv) = false := decide_eq_false hlt
            have hID : IsDual (⟨pv, pra, prn, prc, prows, pobj⟩ : PD) (⟨(prn : Nat), ra, rn, rc, fs, g⟩ : PD) := ⟨rfl, by rw [show ((⟨pv, pra, prn, prc, prows, pobj⟩ : PD).vars.toNat) = j from (by show pv.toNat = j; omega)]; exact hD.sem.out, hD.objsem.out⟩
            have hIn : PD.In (⟨(prn : Nat), ra, rn, rc, fs, g⟩ : PD) wr := ⟨hD.row.forms hD.all, hD.obj⟩
            have hFW : FewP (⟨(prn : Nat), ra, rn, rc, fs, g⟩ : PD) := ⟨(OkFD.lim hD.obj hD.objok).few (by omega), fun i f hf => (OkFD.lim (hD.all i f hf) (hD.ok i f hf)).few (by omega)⟩
            have hPV : PV (⟨(prn : Nat), ra, rn, rc, fs, g⟩ : PD) := dual_pv hID (by show prn ≤ 1280; omega) (by show rn ≤ 4096; omega) hD.objok hD.ok
            have HC : Hid (Calls Tryz.prog 25 #[.agg #[.int .i64 (prn : Int), .slice ra rn rc, .slice g.ad g.n g.c, .bool g.k.neg, .slice g.k.a1 g.k.n1 g.k.c1, .slice g.k.a2 g.k.n2 g.k.c2]] wr (RetB true wr)) := by
              have h9 := fpvalid_any wr (⟨(prn : Nat), ra, rn, rc, fs, g⟩ : PD) hIn hFW
              rw [decide_eq_true hPV] at h9
              exact h9
            clear hID hIn hFW hPV
            have b0 := hD.box.cell 0
            have b1 := hD.box.cell 1
            have b2 := hD.box.cell 2
            have b3 := hD.box.cell 3
            have b4 := hD.box.cell 4
            have b5 := hD.box.cell 5
            simp at b0 b1 b2 b3 b4 b5
            have bz := hD.box.lt
            clear k0 k1 k2 k3 k4 k5
            have k00 := hD.pbox.cell 0
            simp at k00
            go_wp2_with fail
            refine HC.out.mono ?_
            rintro e w9 ⟨rfl, hb9⟩
            have hD9 := hD.on hb9
            have HF := Lib.hid (hD9.fin rfl (by rw [show ((⟨pv, pra, prn, prc, prows, pobj⟩ : PD).vars.toNat) = j from (by show pv.toNat = j; omega)]))
            clear HC b0 b1 b2 b3 b4 b5
            have b0 := hD9.box.cell 0
            have b1 := hD9.box.cell 1
            have b2 := hD9.box.cell 2
            have b3 := hD9.box.cell 3
            have b4 := hD9.box.cell 4
            have b5 := hD9.box.cell 5
            simp at b0 b1 b2 b3 b4 b5
            have bz := hD9.box.lt
            have r0 := hD9.res.cell 0
            have r1 := hD9.res.cell 1
            have r2 := hD9.res.cell 2
            have r3 := hD9.res.cell 3
            have r4 := hD9.res.cell 4
            have r5 := hD9.res.cell 5
            simp at r0 r1 r2 r3 r4 r5
            have rz := hD9.res.lt
            have rf0 := hD9.res.frozen 0
            have rf1 := hD9.res.frozen 1
            have rf2 := hD9.res.frozen 2
            have rf3 := hD9.res.frozen 3
            have rf4 := hD9.res.frozen 4
            have rf5 := hD9.res.frozen 5
            go_wp2_with fail
            exact bodyPost_ret (v := .tuple #[.agg #[.int .i64 (prn : Nat), .slice ra rn rc, .slice g.ad g.n g.c, .bool g.k.neg, .slice g.k.a1 g.k.n1 g.k.c1, .slice g.k.a2 g.k.n2 g.k.c2], .int .i64 0]) (by simp [results, Tryz.results9, go_sem, *]) rfl HF.out
end Go.Proofs.YtledagemcknlcaaGreat
