/- relucertref07.Add: what the call returns. relucertref07.Coef, relucertref27.unit: what each call returns. the reference's dual: plain facts, and the dual under way. -/
import Derived.Test.YtledagemcknlcaaGreatK13
import Derived.Test.YtledagemcknlcaaGreatK12
set_option linter.all false
namespace Go.Proofs.YtledagemcknlcaaGreat
open Go.RowKit

/-- the sum of two lists of terms -/
def addV (F G : List (Int × Rat)) : List (Int × Rat) := G.foldl (fun l t => plusV false l t.1 t.2) F
/-- a form in a box of the call's own -/
structure FBox (W wr : World) (B m : Nat) (h : FD) : Prop where
  box : Blk wr B 29 #[.slice h.ad h.n h.c, .bool h.k.neg, .slice h.k.a1 h.k.n1 h.k.c1, .slice h.k.a2 h.k.n2 h.k.c2]
  data : h.In wr
  ok : OkFD m h
  below : Below W.heap.size W wr
theorem FBox.on {W wr w' : World} {B m : Nat} {h : FD} (hF : FBox W wr B m h) (hb : Below wr.heap.size wr w') : FBox W w' B m h := ⟨hF.box.on hb, hF.data.on hb, hF.ok, hF.below.trans (hb.mono hF.below.size)⟩
theorem FD.In.set4 {w : World} {B : Nat} {t : TypeId} {f : FD} (h : f.In w) {x : Bool} {a a' a'' : Option Addr} {m k m' k' m'' k'' : Nat} (hB : Blk w B t #[.slice a m k, .bool x, .slice a' m' k', .slice a'' m'' k'']) (a1 : Option Addr) (n1 c1 : Nat) (s : Bool) (a2 : Option Addr) (n2 c2 : Nat) (a3 : Option Addr) (n3 c3 : Nat) :
    f.In ((((w.setCell ⟨B, 0, none⟩ (.slice a1 n1 c1)).setCell ⟨B, 1, none⟩ (.bool s)).setCell ⟨B, 2, none⟩ (.slice a2 n2 c2)).setCell ⟨B, 3, none⟩ (.slice a3 n3 c3)) := ⟨h.terms.set4 hB _ _ _ _ _ _ _ _ _ _, h.const.set4 hB _ _ _ _ _ _ _ _ _ _⟩
/-- another form is stored -/
theorem FBox.set {W wr w' : World} {B m m' : Nat} {h h' : FD} (hF : FBox W wr B m h) (hb : Below wr.heap.size wr w') (hd : h'.In w') (ho : OkFD m' h') (hB : W.heap.size ≤ B) : FBox W ((((w'.setCell ⟨B, 0, none⟩ (.slice h'.ad h'.n h'.c)).setCell ⟨B, 1, none⟩ (.bool h'.k.neg)).setCell ⟨B, 2, none⟩ (.slice h'.k.a1 h'.k.n1 h'.k.c1)).setCell ⟨B, 3, none⟩ (.slice h'.k.a2 h'.k.n2 h'.k.c2)) B m' h' :=
  ⟨(hF.box.on hb).set4 _ _ _ _, hd.set4 (hF.box.on hb) _ _ _ _ _ _ _ _ _ _, ho, below_set4 (hF.below.trans (hb.mono hF.below.size)) hB _ _ _ _⟩
theorem plusV_true_len : ∀ (F : List (Int × Rat)) (v : Int) (q : Rat), (plusV true F v q).length ≤ F.length
  | [], v, q => by simp [plusV]
  | t :: F, v, q => by
    have h1 := plusV_true_len F v q
    have h3 := put1_len t.1 (t.2 + q)
    have h4 := put1_len t.1 t.2
    rw [plusV]
    split
    · rw [List.length_append, List.length_cons]; omega
    · split
      · rename_i h7; exact absurd h7.1 (by simp)
      · rw [List.length_append, List.length_cons]; omega
theorem plusV_len : ∀ (d : Bool) (F : List (Int × Rat)) (v : Int) (q : Rat), (plusV d F v q).length ≤ F.length + 1
  | d, [], v, q => by rw [plusV]; split; simp; exact Nat.le_trans (put1_len v q) (by simp)
  | d, t :: F, v, q => by
    have h1 := plusV_len true F v q
    have h2 := plusV_len d F v q
    have h3 := put1_len t.1 (t.2 + q)
    have h4 := put1_len t.1 t.2
    have h5 := put1_len v q
    have h6 : d = false ∧ v < t.1 → (plusV true F v q).length ≤ F.length := fun _ => plusV_true_len F v q
    rw [plusV]
    split
    · rw [List.length_append, List.length_cons]; omega
    · split
      · rename_i h7; have := h6 h7; rw [List.length_append, List.length_append, List.length_cons]; omega
      · rw [List.length_append, List.length_cons]; omega
theorem addV_succ {F G : List (Int × Rat)} {i : Nat} {t : Int × Rat} (h : G[i]? = some t) : addV F (G.take (i + 1)) = plusV false (addV F (G.take i)) t.1 t.2 := by
  unfold addV
  rw [List.take_add_one, h, List.foldl_append]
  rfl
set_option maxRecDepth 100000 in
set_option maxHeartbeats 12800000 in
theorem fadd_aux (w : World) {f g : FD} {ga : Option Addr} (hga : g.ad = ga) {m mg : Nat} (hf : f.In w) (hof : OkFD m f) (hg : g.In w) (hog : OkFD mg g) (hm : m + 65537 * (mg + 1) ≤ 68719476736) (hn : f.n + g.n ≤ 65535) :
    Calls Tryz.prog 36 #[.agg #[.slice f.ad f.n f.c, .bool f.k.neg, .slice f.k.a1 f.k.n1 f.k.c1, .slice f.k.a2 f.k.n2 f.k.c2], .agg #[.slice ga g.n g.c, .bool g.k.neg, .slice g.k.a1 g.k.n1 g.k.c1, .slice g.k.a2 g.k.n2 g.k.c2]] w (RetFD (m + 65537 * (mg + 1)) (addV (fm f.ts) (fm g.ts), f.k.q + g.k.q) w) := by
  have hTR : TermsR w ga g.n g.c g.ts := by rw [← hga]; exact hg.terms
  clear hga
  have hP := Pro3.mk' w #[.slice f.ad f.n f.c, .bool f.k.neg, .slice f.k.a1 f.k.n1 f.k.c1, .slice f.k.a2 f.k.n2 f.k.c2] #[.slice ga g.n g.c, .bool g.k.neg, .slice g.k.a1 g.k.n1 g.k.c1, .slice g.k.a2 g.k.n2 g.k.c2] #[.slice none 0 0, .bool false, .slice none 0 0, .slice none 0 0] 29 29 29
  go_enter Tryz.func36, Tryz.ntmps36
  go_upto_region 1 with (fail)
  generalize ((w.alloc (.cells #[.slice f.ad f.n f.c, .bool f.k.neg, .slice f.k.a1 f.k.n1 f.k.c1, .slice f.k.a2 f.k.n2 f.k.c2] 29)).alloc (.cells #[.slice ga g.n g.c, .bool g.k.neg, .slice g.k.a1 g.k.n1 g.k.c1, .slice g.k.a2 g.k.n2 g.k.c2] 29)).alloc (.cells #[.slice none 0 0, .bool false, .slice none 0 0, .slice none 0 0] 29) = W at *
  have HOF := Lib.hid hof
  have HOG := Lib.hid hog
  have HLG := Lib.hid hg.terms.len
  have hPb := hP.below
  have HPS := Lib.hid hP.size
  have fW := hf.const.on hPb
  have gW := hg.const.on hPb
  have ftW := hf.terms.on hPb
  have tW := hTR.on hPb
  have hA := hP.b0
  have hG := hP.b1
  have hR := hP.b2
  have kz0 := hA.lt
  have kz1 := hG.lt
  have k0 := hA.cell 0
  have k1 := hA.cell 1
  have k2 := hA.cell 2
  have k3 := hA.cell 3
  simp at k0 k1 k2 k3
  have y0 := hG.cell 0
  have y1 := hG.cell 1
  have y2 := hG.cell 2
  have y3 := hG.cell 3
  simp at y0 y1 y2 y3
  clear hP hof hog hf hg hTR
  go_cut [5] (fun s5 wx => ∃ B r U, s5 = .pointer (some ⟨B, 0, none⟩) ∧ W.heap.size ≤ B ∧ Blk U B 29 #[.slice f.ad f.n f.c, .bool r.neg, .slice r.a1 r.n1 r.c1, .slice r.a2 r.n2 r.c2] ∧ RD.In r U ∧ RD.Ok r ∧ RD.q r = f.k.q + g.k.q ∧ Below W.heap.size W U ∧ U = wx)
  case first =>
    refine wp_region_mono [Spc.det (.pointer (some ⟨w.heap.size, 0, none⟩)), Spc.det (.slice f.ad f.n f.c), Spc.det (.pointer (some ⟨w.heap.size, 1, none⟩)), Spc.det (.agg #[.bool f.k.neg, .slice f.k.a1 f.k.n1 f.k.c1, .slice f.k.a2 f.k.n2 f.k.c2]), Spc.det (.pointer (some ⟨w.heap.size + 1, 1, none⟩)), Spc.det (.agg #[.bool g.k.neg, .slice g.k.a1 g.k.n1 g.k.c1, .slice g.k.a2 g.k.n2 g.k.c2]), Spc.rd (fun r => .agg #[.bool r.neg, .slice r.a1 r.n1 r.c1, .slice r.a2 r.n2 r.c2]) (f.k.q + g.k.q), Spc.rd (fun r => .agg #[.slice f.ad f.n f.c, .bool r.neg, .slice r.a1 r.n1 r.c1, .slice r.a2 r.n2 r.c2]) (f.k.q + g.k.q), Spc.box W.heap.size 29 #[.slice none 0 0, .bool false, .slice none 0 0, .slice none 0 0], .any] 9 (A := ?_) (by kernel_rfl) (by kernel_rfl) (by kernel_rfl) ?_ ⟨fun hs u w9 hw9 hd9 K9 hK9 => ?_, fun hs u w9 hw9 hd9 K9 hK9 => ?_, fun hs u w9 hw9 hd9 K9 hK9 => ?_, fun hs u w9 hw9 hd9 K9 hK9 => ?_, fun hs u w9 hw9 hd9 K9 hK9 => ?_, fun hs u w9 hw9 hd9 K9 hK9 => ?_, fun hs u w9 hw9 hd9 K9 hK9 => ?_, fun hs u w9 hw9 hd9 K9 hK9 => ?_, fun hs u w9 hw9 hd9 K9 hK9 => ?_, fun hs u w9 hw9 hd9 K9 hK9 => ?_, trivial⟩ ?_ ?_
    rotate_left
    · (intro u; simp only [allPut, Act.put, List.setIfInBounds_toArray, List.set_cons_zero, List.set_cons_succ, Nat.zero_add, Nat.reduceAdd]; rfl)
    · clear hs
      obtain ⟨hc9, hf9⟩ := bcell hw9
      clear hd9
      go_simp
      exact hK9.out _ _ _ rfl (Below.refl _ _) rfl
    · clear hs
      obtain ⟨hc9, hf9⟩ := bcell hw9
      simp only [depsOk, Region.binds, if_true, and_true, List.getD_cons_zero, List.getD_cons_succ, Spc.det, Spc.any] at hd9
      generalize u 0 = x0 at hd9 hK9 ⊢
      obtain rfl := hd9
      go_simp
      exact hK9.out _ _ _ rfl (Below.refl _ _) rfl
    · clear hs
      obtain ⟨hc9, hf9⟩ := bcell hw9
      clear hd9
      go_simp
      exact hK9.out _ _ _ rfl (Below.refl _ _) rfl
    · clear hs
      obtain ⟨hc9, hf9⟩ := bcell hw9
      simp only [depsOk, Region.binds, if_true, and_true, List.getD_cons_zero, List.getD_cons_succ, Spc.det, Spc.any] at hd9
      generalize u 2 = x2 at hd9 hK9 ⊢
      obtain rfl := hd9
      go_simp
      exact hK9.out _ _ _ rfl (Below.refl _ _) rfl
    · clear hs
      obtain ⟨hc9, hf9⟩ := bcell hw9
      clear hd9
      go_simp
      exact hK9.out _ _ _ rfl (Below.refl _ _) rfl
    · clear hs
      obtain ⟨hc9, hf9⟩ := bcell hw9
      simp only [depsOk, Region.binds, if_true, and_true, List.getD_cons_zero, List.getD_cons_succ, Spc.det, Spc.any] at hd9
      generalize u 4 = x4 at hd9 hK9 ⊢
      obtain rfl := hd9
      go_simp
      exact hK9.out _ _ _ rfl (Below.refl _ _) rfl
    · clear hs
      obtain ⟨hc9, hf9⟩ := bcell hw9
      simp only [depsOk, Region.binds, if_true, and_true, List.getD_cons_zero, List.getD_cons_succ, Spc.det, Spc.any] at hd9
      generalize u 3 = x3 at hd9 hK9 ⊢
      generalize u 5 = x5 at hd9 hK9 ⊢
      obtain ⟨rfl, rfl⟩ := hd9
      go_simp
      go_at_call 13
      refine (fradd_c w9 (RD.ok_c (fW.on hw9) HOF.out.k) (RD.ok_c (gW.on hw9) HOG.out.k) (by have := HOF.out.kH; omega) (by have := HOG.out.kH; omega)).mono ?_
      intro e w5 hr
      obtain ⟨r, rfl, h1, h2, h3, hb⟩ := hr.spc
      exact hK9.out _ _ _ ⟨r, rfl, h1, h2, h3⟩ hb rfl
    · clear hs
      obtain ⟨hc9, hf9⟩ := bcell hw9
      simp only [depsOk, Region.binds, if_true, and_true, List.getD_cons_zero, List.getD_cons_succ, Spc.det, Spc.any] at hd9
      generalize u 1 = x1 at hd9 hK9 ⊢
      generalize u 6 = x6 at hd9 hK9 ⊢
      obtain ⟨rfl, r, rfl, h1, h2, h3⟩ := hd9
      go_simp
      exact hK9.out _ _ _ ⟨r, rfl, h1, h2, h3⟩ (Below.refl _ _) rfl
    · clear hs
      obtain ⟨hc9, hf9⟩ := bcell hw9
      clear hd9
      go_simp
      exact hK9.out _ _ _ ⟨w9.heap.size, rfl, hw9.size, Blk.new _ _ _⟩ ((Below.refl _ _).alloc (Nat.le_refl _) _) rfl
    · exact absurd rfl hs
    · intro hs; exact absurd hs (by decide)
    · intro o9 ho9 u w9 hw9 hsp9
      cases ho9
      obtain ⟨hc9, hf9⟩ := bcell hw9
      have q0 := hsp9 0 (by decide) (by decide)
      have q1 := hsp9 1 (by decide) (by decide)
      have q2 := hsp9 2 (by decide) (by decide)
      have q3 := hsp9 3 (by decide) (by decide)
      have q4 := hsp9 4 (by decide) (by decide)
      have q5 := hsp9 5 (by decide) (by decide)
      have q6 := hsp9 6 (by decide) (by decide)
      have q7 := hsp9 7 (by decide) (by decide)
      have q8 := hsp9 8 (by decide) (by decide)
      simp only [List.getD_cons_zero, List.getD_cons_succ, Spc.det] at q0 q1 q2 q3 q4 q5 q6 q7 q8
      clear hsp9
      generalize u 0 = x0 at q0 ⊢
      subst q0
      generalize u 1 = x1 at q1 ⊢
      subst q1
      generalize u 2 = x2 at q2 ⊢
      subst q2
      generalize u 3 = x3 at q3 ⊢
      subst q3
      generalize u 4 = x4 at q4 ⊢
      subst q4
      generalize u 5 = x5 at q5 ⊢
      subst q5
      generalize u 6 = x6 at q6 ⊢
      generalize u 7 = x7 at q7 ⊢
      generalize u 8 = x8 at q8 ⊢
      obtain ⟨r, rfl, h1, h2, h3⟩ := q7
      obtain ⟨B, rfl, hB, hb⟩ := q8
      refine wpOp_step rfl (fun K8 hK8 => ?_)
      have b0 := hb.cell 0
      have b1 := hb.cell 1
      have b2 := hb.cell 2
      have b3 := hb.cell 3
      have b4 := hb.frozen 0
      have b5 := hb.frozen 1
      have b6 := hb.frozen 2
      have b7 := hb.frozen 3
      simp at b0 b1 b2 b3
      go_simp
      refine hK8 _ _ ?_
      clear hK8 K8
      go_wp2_with fail
      go_meet
      exact ⟨B, r, _, rfl, hB, hb.set4 _ _ _ _, h1.set4 hb _ _ _ _ _ _ _ _ _ _, h2, h3, below_set4 hw9 hB _ _ _ _, rfl⟩
  case rest =>
    obtain ⟨B, r, V, rfl, hB, hbB, hr1, hr2, hr3, hbV, rfl⟩ := hcut
    have HR2 := Lib.hid hr2
    have HR3 := Lib.hid hr3
    have hwV : Below w.heap.size w V := hPb.trans (hbV.mono (by have := HPS.out; omega))
    have hF0 : FBox W V B (m + mg + 1) ⟨f.ad, f.n, f.c, f.ts, r⟩ := ⟨hbB, ⟨ftW.on hbV, hr1⟩, ⟨HOF.out.ts.mono (by omega), hr2, by show H r.q ≤ m + mg + 1; rw [hr3]; have := H_add f.k.q g.k.q; have := HOF.out.kH; have := HOG.out.kH; omega, HOF.out.n⟩, hbV⟩
    have HS0 : Hid (sem ⟨f.ad, f.n, f.c, f.ts, r⟩ = (addV (fm f.ts) ((fm g.ts).take 0), f.k.q + g.k.q)) := by
      show (fm f.ts, r.q) = _
      rw [hr3]; rfl
    clear hr2 hr3
    go_wp2_with fail
    go_loopw [6] (fun s6 wr => ∃ i h, i ≤ g.n ∧ s6 = .int .i64 (i : Nat) ∧ FBox W wr B (m + mg + 1 + i * (mg + 1)) h ∧ Hid (sem h = (addV (fm f.ts) ((fm g.ts).take i), f.k.q + g.k.q)) ∧ h.n ≤ f.n + i) (fun i _ => g.n - (intOf i).toNat)
    case atStart => exact ⟨0, _, by omega, rfl, by simpa using hF0, HS0, by show f.n ≤ _; omega⟩
    case round =>
      clear hF0 HS0 hbB hr1
      obtain ⟨i, h, hi, rfl, hF, HS, hhn⟩ := hrel
      have hb := hF.below
      have hGr := hG.on hb
      have hRr := hR.on hb
      have tr := tW.on hb
      have x0 := hF.box.cell 0
      have x1 := hF.box.cell 1
      have x2 := hF.box.cell 2
      have x3 := hF.box.cell 3
      simp at x0 x1 x2 x3
      have xz := hF.box.lt
      have x4 := hF.box.frozen 0
      have x5 := hF.box.frozen 1
      have x6 := hF.box.frozen 2
      have x7 := hF.box.frozen 3
      have y0 := hGr.cell 0
      have yz := hGr.lt
      simp at y0
      have hWB : W.heap.size ≤ B := hB
      by_cases hlt : i < g.n
      · obtain ⟨b, o, t, rfl, hbl, HT, gt, t0, t1, t2, t3⟩ := tr.at_ hlt
        have t1' : wr.cell? ⟨b, o + i * 4 + 1, none⟩ = some (.bool t.c.neg) := t1
        have t2' : wr.cell? ⟨b, o + i * 4 + 1 + 1, none⟩ = some (.slice t.c.a1 t.c.n1 t.c.c1) := t2
        have t3' : wr.cell? ⟨b, o + i * 4 + 1 + 2, none⟩ = some (.slice t.c.a2 t.c.n2 t.c.c2) := t3
        have HOT := Lib.hid (HOG.out.ts i t HT.out)
        have gU := RD.ok_c gt HOT.out.1
        have lo : decide ((i : Int) < 0) = false := decide_eq_false (by omega)
        have hi' : decide ((g.n : Int) ≤ (i : Int)) = false := decide_eq_false (by omega)
        have hU0 : Below wr.heap.size wr wr.drew := Below.drew (Below.refl _ _)
        have HMM : Hid (i * (mg + 1) ≤ 65535 * (mg + 1)) := Nat.mul_le_mul_right _ (by omega)
        have l1 : w.heap.size + 1 < wr.heap.size := by omega
        go_upto_region 5 with (fail)
        refine wp_region_T 14 (fun w' => w'.cell? ⟨B, 0, none⟩ = some (.slice h.ad h.n h.c) ∧ w'.cell? ⟨B, 1, none⟩ = some (.bool h.k.neg) ∧ w'.cell? ⟨B, 2, none⟩ = some (.slice h.k.a1 h.k.n1 h.k.c1) ∧ w'.cell? ⟨B, 3, none⟩ = some (.slice h.k.a2 h.k.n2 h.k.c2) ∧ w'.cell? ⟨w.heap.size + 1, 0, none⟩ = some (.slice (some ⟨b, o, none⟩) g.n g.c) ∧ w'.cell? ⟨b, o + i * 4, none⟩ = some (.int .i64 t.v) ∧ w'.cell? ⟨b, o + i * 4 + 1, none⟩ = some (.bool t.c.neg) ∧ w'.cell? ⟨b, o + i * 4 + 1 + 1, none⟩ = some (.slice t.c.a1 t.c.n1 t.c.c1) ∧ w'.cell? ⟨b, o + i * 4 + 1 + 2, none⟩ = some (.slice t.c.a2 t.c.n2 t.c.c2)) (by kernel_rfl) (by (try dsimp only); go_keep) (fun hHeld => ?_)
        refine wpT_take 0 (v := ?_) rfl (by kernel_rfl) (fun _ _ _ h => h) (by rfl) (by assumption) ?_ ?_
        rotate_left
        · (intro w9 hS9; (try dsimp only at hS9); go_simp; try with_reducible rfl)
        try simp only [Act.put, List.setIfInBounds_toArray, List.set_cons_zero, List.set_cons_succ]
        refine wpT_take 1 (v := ?_) rfl (by kernel_rfl) (fun _ _ _ h => h) (by rfl) (by assumption) ?_ ?_
        rotate_left
        · (intro w9 hS9; (try dsimp only at hS9); go_simp; try with_reducible rfl)
        try simp only [Act.put, List.setIfInBounds_toArray, List.set_cons_zero, List.set_cons_succ]
        refine wpT_take 2 (v := ?_) rfl (by kernel_rfl) (fun _ _ _ h => h) (by rfl) (by assumption) ?_ ?_
        rotate_left
        · (intro w9 hS9; (try dsimp only at hS9); go_simp; try with_reducible rfl)
        try simp only [Act.put, List.setIfInBounds_toArray, List.set_cons_zero, List.set_cons_succ]
        refine wpT_take 3 (v := ?_) rfl (by kernel_rfl) (fun _ _ _ h => h) (by rfl) (by assumption) ?_ ?_
        rotate_left
        · (intro w9 hS9; (try dsimp only at hS9); go_simp; try with_reducible rfl)
        try simp only [Act.put, List.setIfInBounds_toArray, List.set_cons_zero, List.set_cons_succ]
        refine wpT_take 4 (v := ?_) rfl (by kernel_rfl) (fun _ _ _ h => h) (by rfl) (by assumption) ?_ ?_
        rotate_left
        · (intro w9 hS9; (try dsimp only at hS9); go_simp; try with_reducible rfl)
        try simp only [Act.put, List.setIfInBounds_toArray, List.set_cons_zero, List.set_cons_succ]
        refine wpT_take 5 (v := ?_) rfl (by kernel_rfl) (fun _ _ _ h => h) (by rfl) (by assumption) ?_ ?_
        rotate_left
        · (intro w9 hS9; (try dsimp only at hS9); go_simp; try with_reducible rfl)
        try simp only [Act.put, List.setIfInBounds_toArray, List.set_cons_zero, List.set_cons_succ]
        refine wpT_take 6 (v := ?_) rfl (by kernel_rfl) (fun _ _ _ h => h) (by rfl) (by assumption) ?_ ?_
        rotate_left
        · (intro w9 hS9; (try dsimp only at hS9); go_simp; try with_reducible rfl)
        try simp only [Act.put, List.setIfInBounds_toArray, List.set_cons_zero, List.set_cons_succ]
        refine wpT_take 7 (v := ?_) rfl (by kernel_rfl) (fun _ _ _ h => h) (by rfl) (by assumption) ?_ ?_
        rotate_left
        · (intro w9 hS9; (try dsimp only at hS9); go_simp; try with_reducible rfl)
        try simp only [Act.put, List.setIfInBounds_toArray, List.set_cons_zero, List.set_cons_succ]
        refine wpT_take 8 (v := ?_) rfl (by kernel_rfl) (fun _ _ _ h => h) (by rfl) (by assumption) ?_ ?_
        rotate_left
        · (intro w9 hS9; (try dsimp only at hS9); go_simp; try with_reducible rfl)
        try simp only [Act.put, List.setIfInBounds_toArray, List.set_cons_zero, List.set_cons_succ]
        refine wpT_take 9 (v := ?_) rfl (by kernel_rfl) (fun _ _ _ h => h) (by rfl) (by assumption) ?_ ?_
        rotate_left
        · (intro w9 hS9; (try dsimp only at hS9); go_simp; try with_reducible rfl)
        try simp only [Act.put, List.setIfInBounds_toArray, List.set_cons_zero, List.set_cons_succ]
        refine wpT_take 10 (v := ?_) rfl (by kernel_rfl) (fun _ _ _ h => h) (by rfl) (by assumption) ?_ ?_
        rotate_left
        · (intro w9 hS9; (try dsimp only at hS9); go_simp; try with_reducible rfl)
        try simp only [Act.put, List.setIfInBounds_toArray, List.set_cons_zero, List.set_cons_succ]
        refine wpT_take 11 (v := ?_) rfl (by kernel_rfl) (fun _ _ _ h => h) (by rfl) (by assumption) ?_ ?_
        rotate_left
        · (intro w9 hS9; (try dsimp only at hS9); go_simp; try with_reducible rfl)
        try simp only [Act.put, List.setIfInBounds_toArray, List.set_cons_zero, List.set_cons_succ]
        refine wpT_take 12 (v := ?_) rfl (by kernel_rfl) (fun _ _ _ h => h) (by rfl) (by assumption) ?_ ?_
        rotate_left
        · (intro w9 hS9; (try dsimp only at hS9); go_simp; try with_reducible rfl)
        try simp only [Act.put, List.setIfInBounds_toArray, List.set_cons_zero, List.set_cons_succ]
        refine wpT_only 13 rfl (by kernel_rfl) (fun K hK => ?_)
        go_simp
        go_at_call 65; refine (plus_c (m := m + mg + 1 + i * (mg + 1)) (mq := mg) _ t.v (hF.data.on hU0) hF.ok (by omega) (gU.on hU0) HOT.out.2 (by have := HMM.out; omega)).mono ?_; rintro e w5 ⟨h', rfl, hd5, ho5, hs5', hb5'⟩; have hs5 := Lib.hid hs5'; clear hs5'; have hb5 : Below wr.heap.size wr w5 := hU0.trans hb5'; obtain ⟨hc5, hf5⟩ := bcell hb5; have hF5 := hF.box.on hb5; have z4 := hF5.frozen 0; have z5 := hF5.frozen 1; have z6 := hF5.frozen 2; have z7 := hF5.frozen 3; have z8 := hF5.lt
        go_wp2_with fail
        have hOld := hHeld
        clear hHeld
        refine hK.out _ _ ?_ (fun hHeld => ?_)
        · (try dsimp only); go_keep
        clear hOld hK K
        try simp only [Act.put, List.setIfInBounds_toArray, List.set_cons_zero, List.set_cons_succ]
        refine wpT_last 14 rfl rfl (by kernel_rfl) (fun K hK => ?_)
        go_simp
        refine hK.out _ _ ?_
        clear hK K
        try simp only [Act.put, List.setIfInBounds_toArray, List.set_cons_zero, List.set_cons_succ]
        refine wpT_done (by kernel_rfl) ?_ _
        have HN : Hid (h'.n ≤ h.n + 1) := by
          have h8 := hd5.terms.len
          have h9 := h.ad
          have h7 : (fm h'.ts).length = h'.ts.length := fm_length _
          have h6 : fm h'.ts = plusV false (fm h.ts) t.v t.c.q := congrArg Prod.fst hs5.out
          have h5 := plusV_len false (fm h.ts) t.v t.c.q
          rw [← h6, h7, h8, fm_length, hF.data.terms.len] at h5
          exact h5
        have HS' : Hid (sem h' = (addV (fm f.ts) ((fm g.ts).take (i + 1)), f.k.q + g.k.q)) := by
          have h1 : (fm g.ts)[i]? = some (t.v, t.c.q) := by rw [fm_get, HT.out]; rfl
          have h2 := HS.out
          have h3 : fm h.ts = addV (fm f.ts) ((fm g.ts).take i) := congrArg Prod.fst h2
          have h4 : h.k.q = f.k.q + g.k.q := congrArg Prod.snd h2
          show sem h' = _
          rw [hs5.out, addV_succ h1, h3, h4]
        have hF' := (hF.set hb5 hd5 ho5 hWB)
        have hn' := HN.out
        go_wp2_with fail
        go_roundw
        case rel => exact ⟨i + 1, h', by omega, by go_num, by rw [Nat.succ_mul, ← Nat.add_assoc]; exact hF', HS', by omega⟩
        case measure => simp [intOf]; omega
      · have e : i = g.n := by omega
        subst e
        have HS' : Hid (sem h = (addV (fm f.ts) (fm g.ts), f.k.q + g.k.q)) := by
          have h2 := HS.out
          rw [List.take_of_length_le (by rw [fm_length, HLG.out]; exact Nat.le_refl _)] at h2
          exact h2
        clear HS
        go_upto_region 6 with (fail)
        have HMM : Hid (g.n * (mg + 1) ≤ 65535 * (mg + 1)) := Nat.mul_le_mul_right _ (by omega)
        have hRr0 := hRr
        have r0 := hRr.cell 0
        have r1 := hRr.cell 1
        have r2 := hRr.cell 2
        have r3 := hRr.cell 3
        simp at r0 r1 r2 r3
        have p0 := hRr.frozen 0
        have p1 := hRr.frozen 1
        have p2 := hRr.frozen 2
        have p3 := hRr.frozen 3
        have rz := hRr.lt
        obtain ⟨i0, hi0, hz0, hz1, hz2⟩ := info_parts Tryz.infoTerm
        have HI := Lib.hid (And.intro hi0 (And.intro hz0 (And.intro hz1 hz2)))
        clear hi0 hz0 hz1 hz2
        have hU0 : Below wr.heap.size wr wr.drew := Below.drew (Below.refl _ _)
        have hq0 : Below wr.heap.size wr (wr.drew.alloc (.cells #[] 52)) := hU0.alloc (Nat.le_refl _) _
        have hRow : Row NotU (wr.drew.alloc (.cells #[] 52)) wr.heap.size 52 4 (.slice (some ⟨wr.heap.size, 0, none⟩) 0 0) 0 [] := Row.empty (w := wr.drew) NotU 4 rfl
        have HTF := Lib.hid ((hF.data.on hq0).terms)
        have HTL := Lib.hid (hF.data.terms.len)
        have neB : B ≠ wr.heap.size := by omega
        have neR : w.heap.size + 1 + 1 ≠ wr.heap.size := by omega
        have neBR : B ≠ w.heap.size + 1 + 1 := by have := HPS.out; omega
        clear k0 k1 k2 k3 y0 y1 y2 y3
        refine wp_region_T 7 (fun w' => w'.cell? ⟨B, 0, none⟩ = some (.slice h.ad h.n h.c) ∧ w'.cell? ⟨B, 1, none⟩ = some (.bool h.k.neg) ∧ w'.cell? ⟨B, 2, none⟩ = some (.slice h.k.a1 h.k.n1 h.k.c1) ∧ w'.cell? ⟨B, 3, none⟩ = some (.slice h.k.a2 h.k.n2 h.k.c2)) (by kernel_rfl) (by (try dsimp only); go_keep) (fun hHeld => ?_)
        refine wpT_take 1 (v := ?_) rfl (by kernel_rfl) (fun _ _ _ h => h) (by rfl) (by assumption) ?_ ?_
        rotate_left
        · (intro w9 hS9; (try dsimp only at hS9); go_simp; try with_reducible rfl)
        try simp only [Act.put, List.setIfInBounds_toArray, List.set_cons_zero, List.set_cons_succ]
        refine wpT_take 2 (v := ?_) rfl (by kernel_rfl) (fun _ _ _ h => h) (by rfl) (by assumption) ?_ ?_
        rotate_left
        · (intro w9 hS9; (try dsimp only at hS9); go_simp; try with_reducible rfl)
        try simp only [Act.put, List.setIfInBounds_toArray, List.set_cons_zero, List.set_cons_succ]
        refine wpT_take 4 (v := ?_) rfl (by kernel_rfl) (fun _ _ _ h => h) (by rfl) (by assumption) ?_ ?_
        rotate_left
        · (intro w9 hS9; (try dsimp only at hS9); go_simp; try with_reducible rfl)
        try simp only [Act.put, List.setIfInBounds_toArray, List.set_cons_zero, List.set_cons_succ]
        refine wpT_take 5 (v := ?_) rfl (by kernel_rfl) (fun _ _ _ h => h) (by rfl) (by assumption) ?_ ?_
        rotate_left
        · (intro w9 hS9; (try dsimp only at hS9); go_simp; try with_reducible rfl)
        try simp only [Act.put, List.setIfInBounds_toArray, List.set_cons_zero, List.set_cons_succ]
        refine wpT_only 0 rfl (by kernel_rfl) (fun K hK => ?_)
        go_simp
        have hOld := hHeld
        clear hHeld
        refine hK.out _ _ ?_ (fun hHeld => ?_)
        · (try dsimp only); go_keep
        clear hOld hK K
        try simp only [Act.put, List.setIfInBounds_toArray, List.set_cons_zero, List.set_cons_succ]
        refine wpT_only 3 rfl (by kernel_rfl) (fun K hK => ?_)
        refine step_row_any rfl (.tmp 36) (.tmp 38) _ rfl wr.heap.size 52 i0 (.agg #[.int .i64 0, .bool false, .slice none 0 0, .slice none 0 0]) 4 64 Tryz.underlying23 HI.out.1 HI.out.2.1 HI.out.2.2.1 HI.out.2.2.2 rfl (by omega) (.slice (some ⟨wr.heap.size, 0, none⟩) 0 0) 0 [] rfl hRow h.ad h.n h.c (tcells h.ts) rfl (by rw [tcells_len, HTL.out]) (fun h9 => HTF.out.flat h9) (fun u hu => (tcells_mem hu).2) (by simp only [maxLen]; omega) (by omega) (by simp) term_zero (fun u hu => (tcells_mem hu).1) ?_; intro v7 w7 hr7 hg7 ho7; rw [Nat.zero_add, List.nil_append] at hr7; obtain ⟨ad7, c7, rfl⟩ := hr7.shape; have hB7 := ((hF.box.on hq0).grown hg7 (fun h9 => by simp [Value.ownBlock] at h9; omega)); have hR7' := ((hRr0.on hq0).grown hg7 (fun h9 => by simp [Value.ownBlock] at h9; omega)); have q0 := hB7.cell 0; have q1 := hB7.cell 1; have q2 := hB7.cell 2; have q3 := hB7.cell 3; have v0 := hR7'.cell 0; have v1 := hR7'.cell 1; have v2 := hR7'.cell 2; have v3 := hR7'.cell 3; have v4 := hR7'.frozen 0; have v5 := hR7'.frozen 1; have v6 := hR7'.frozen 2; have v8 := hR7'.frozen 3; have v9 := hR7'.lt; simp at q0 q1 q2 q3 v0 v1 v2 v3
        have hOld := hHeld
        clear hHeld
        refine hK.out _ _ ?_ (fun hHeld => ?_)
        · (try dsimp only); go_keep
        clear hOld hK K
        try simp only [Act.put, List.setIfInBounds_toArray, List.set_cons_zero, List.set_cons_succ]
        refine wpT_take 6 (v := ?_) rfl (by kernel_rfl) (fun _ _ _ h => h) (by rfl) (by assumption) ?_ ?_
        rotate_left
        · (intro w9 hS9; (try dsimp only at hS9); go_simp; try with_reducible rfl)
        try simp only [Act.put, List.setIfInBounds_toArray, List.set_cons_zero, List.set_cons_succ]
        refine wpT_last 7 rfl rfl (by kernel_rfl) (fun K hK => ?_)
        go_simp
        refine hK.out _ _ ?_
        clear hK K
        try simp only [Act.put, List.setIfInBounds_toArray, List.set_cons_zero, List.set_cons_succ]
        refine wpT_done (by kernel_rfl) ?_ _
        have hne7 : (Value.slice ad7 h.n c7).ownBlock ≠ some (w.heap.size + 1 + 1) := fun h9 => by
          rcases ho7 with h8 | h8 <;> rw [h9] at h8 <;> simp [Value.ownBlock] at h8 <;> omega
        have hb7 : Below wr.heap.size (wr.drew.alloc (.cells #[] 52)) w7 := hRow.below hg7 (by simp)
        have hb07 : Below wr.heap.size wr w7 := hq0.trans hb7
        have h7 := hF.data.on hb07
        have hR7 := hRr0.on hb07
        have HF : Hid (RetFD (m + 65537 * (mg + 1)) (addV (fm f.ts) (fm g.ts), f.k.q + g.k.q) w (.returned (.agg #[.slice ad7 h.n c7, .bool h.k.neg, .slice h.k.a1 h.k.n1 h.k.c1, .slice h.k.a2 h.k.n2 h.k.c2])) ((((w7.setCell ⟨w.heap.size + 1 + 1, 0, none⟩ (.slice ad7 h.n c7)).setCell ⟨w.heap.size + 1 + 1, 1, none⟩ (.bool h.k.neg)).setCell ⟨w.heap.size + 1 + 1, 2, none⟩ (.slice h.k.a1 h.k.n1 h.k.c1)).setCell ⟨w.heap.size + 1 + 1, 3, none⟩ (.slice h.k.a2 h.k.n2 h.k.c2))) := by
          refine ⟨⟨ad7, h.n, c7, h.ts, h.k⟩, rfl, ⟨(hr7.set4 hne7 _ _ _ _).terms (fun i t ht => (h7.terms.ok i t ht).set4 hR7 _ _ _ _ _ _ _ _ _ _), h7.const.set4 hR7 _ _ _ _ _ _ _ _ _ _⟩, ⟨hF.ok.ts.mono (by have := HMM.out; omega), hF.ok.k, Nat.le_trans hF.ok.kH (by have := HMM.out; omega), by show h.n ≤ 65536; omega⟩, HS'.out, below_set4 (hPb.trans ((hF.below.trans (hb07.mono hF.below.size)).mono (by have := HPS.out; omega))) (by omega) _ _ _ _⟩
        go_wp2_with fail
        exact bodyPost_ret (v := .agg #[.slice ad7 h.n c7, .bool h.k.neg, .slice h.k.a1 h.k.n1 h.k.c1, .slice h.k.a2 h.k.n2 h.k.c2]) (by simp [results, Tryz.results36, go_sem, *]) rfl HF.out
theorem fadd_f (w : World) {f g : FD} {m mg : Nat} (hf : f.In w) (hof : OkFD m f) (hg : g.In w) (hog : OkFD mg g) (hm : m + 65537 * (mg + 1) ≤ 68719476736) (hn : f.n + g.n ≤ 65535) :
    Calls Tryz.prog 36 #[.agg #[.slice f.ad f.n f.c, .bool f.k.neg, .slice f.k.a1 f.k.n1 f.k.c1, .slice f.k.a2 f.k.n2 f.k.c2], .agg #[.slice g.ad g.n g.c, .bool g.k.neg, .slice g.k.a1 g.k.n1 g.k.c1, .slice g.k.a2 g.k.n2 g.k.c2]] w (RetFD (m + 65537 * (mg + 1)) (addV (fm f.ts) (fm g.ts), f.k.q + g.k.q) w) := fadd_aux w rfl hf hof hg hog hm hn
end Go.Proofs.YtledagemcknlcaaGreat
namespace Go.Proofs.YtledagemcknlcaaGreat
open Go.RowKit

theorem box27_ratC {w : World} {B : Nat} {x : Bool} {a a' : Option Addr} {m k m' k' : Nat} {neg : Bool} {a1 a2 : Option Addr} {n1 c1 n2 c2 : Nat} {q : Rat} (h : RatC w neg a1 n1 c1 a2 n2 c2 q) (hB : Blk w B 27 #[.bool x, .slice a m k, .slice a' m' k']) (u v s : Value) :
    RatC (((w.setCell ⟨B, 0, none⟩ u).setCell ⟨B, 1, none⟩ v).setCell ⟨B, 2, none⟩ s) neg a1 n1 c1 a2 n2 c2 q := h.inR hB u v s
set_option maxRecDepth 100000 in
set_option maxHeartbeats 3200000 in
theorem fcoef_aux (w : World) {f : FD} {fa : Option Addr} (hfa : f.ad = fa) {m : Nat} (v : Int) (h : f.In w) (ho : OkFD m f) :
    Calls Tryz.prog 38 #[.agg #[.slice fa f.n f.c, .bool f.k.neg, .slice f.k.a1 f.k.n1 f.k.c1, .slice f.k.a2 f.k.n2 f.k.c2], .int .i64 v] w (RetR (coefT f.ts v) w) := by
  have hTR : TermsR w fa f.n f.c f.ts := by rw [← hfa]; exact h.terms
  clear hfa
  have hP := Pro2.mk' w #[.slice fa f.n f.c, .bool f.k.neg, .slice f.k.a1 f.k.n1 f.k.c1, .slice f.k.a2 f.k.n2 f.k.c2] #[.bool false, .slice none 0 0, .slice none 0 0] 29 27
  go_enter Tryz.func38, Tryz.ntmps38
  go_upto_region 1 with (fail)
  generalize (w.alloc (.cells #[.slice fa f.n f.c, .bool f.k.neg, .slice f.k.a1 f.k.n1 f.k.c1, .slice f.k.a2 f.k.n2 f.k.c2] 29)).alloc (.cells #[.bool false, .slice none 0 0, .slice none 0 0] 27) = W at *
  have k00 := hP.b0.cell 0
  have z0 := hP.b0.lt
  simp at k00
  have hB := hP.b1
  have g := hTR.on hP.below
  have hPb := hP.below
  have HPS := Lib.hid hP.size
  have HO := Lib.hid ho
  have HN := ho.n
  have HL := Lib.hid h.terms.len
  clear hP h ho hTR
  go_wp2_with fail
  go_loopw [5] (fun s5 wr => ∃ i, i ≤ f.n ∧ s5 = .int .i64 (i : Nat) ∧ Hid (∀ (j : Nat) (t : TD), j < i → f.ts[j]? = some t → t.v ≠ v) ∧ Below W.heap.size W wr) (fun i _ => f.n - (intOf i).toNat)
  case atStart => exact ⟨0, by omega, rfl, (fun j t hj => by omega : ∀ (j : Nat) (t : TD), j < 0 → f.ts[j]? = some t → t.v ≠ v), Below.refl _ _⟩
  case round =>
    obtain ⟨i, hi, rfl, HI, hb⟩ := hrel
    obtain ⟨hcr, hfr⟩ := bcell hb
    by_cases hlt : i < f.n
    · obtain ⟨b, o, t, rfl, hbl, HT, gt, t0, t1, t2, t3⟩ := (g.on hb).at_ hlt
      have t1' : wr.cell? ⟨b, o + i * 4 + 1, none⟩ = some (.bool t.c.neg) := t1
      have t2' : wr.cell? ⟨b, o + i * 4 + 1 + 1, none⟩ = some (.slice t.c.a1 t.c.n1 t.c.c1) := t2
      have t3' : wr.cell? ⟨b, o + i * 4 + 1 + 2, none⟩ = some (.slice t.c.a2 t.c.n2 t.c.c2) := t3
      have k0 := (hB.on hb).cell 0
      have k1 := (hB.on hb).cell 1
      have k2 := (hB.on hb).cell 2
      have k3 := (hB.on hb).frozen 0
      have k4 := (hB.on hb).frozen 1
      have k5 := (hB.on hb).frozen 2
      have k6 := (hB.on hb).lt
      have kz := Nat.lt_of_lt_of_le z0 hb.size
      have k00' := k00
      rw [← hcr _ _ z0] at k00'
      clear hcr hfr
      simp at k0 k1 k2
      by_cases hv : t.v = v
      · have HV : Hid (coefT f.ts v = t.c.q) := coefT_at HT.out hv HI.out
        have e1 : (t.v == v) = true := by simp; exact hv
        have gC := RD.ok_c gt (HO.out.ts i t HT.out).1
        clear hv
        go_wp2_with fail
        exact bodyPost_ret (v := .agg #[.bool t.c.neg, .slice t.c.a1 t.c.n1 t.c.c1, .slice t.c.a2 t.c.n2 t.c.c2]) (by simp [results, Tryz.results38, go_sem, *]) rfl
          ⟨_, _, _, _, _, _, _, rfl, by rw [HV.out]; exact gC.inR (hB.on hb) _ _ _, below_box27 (hPb.trans (hb.mono (by have := HPS.out; omega))) (by omega) _ _ _⟩
      · have e1 : (t.v == v) = false := by simp; exact hv
        have HV := Lib.hid hv
        clear hv
        go_wp2_with fail
        go_roundw
        case rel => exact ⟨i + 1, by omega, by go_num, (fun j' t' hj' ht' => (Nat.lt_or_ge j' i).elim (fun h9 => HI.out j' t' h9 ht') (fun h9 => by have e9 : j' = i := (by omega); rw [e9] at ht'; have := HT.out.symm.trans ht'; cases this; exact HV.out) : ∀ (j : Nat) (t : TD), j < i + 1 → f.ts[j]? = some t → t.v ≠ v), hb⟩
        case measure => simp [intOf]; omega
    · have e : i = f.n := by omega
      have HV : Hid (coefT f.ts v = 0) := coefT_no (fun j t ht => HI.out j t (by have := (List.getElem?_eq_some_iff.1 ht).1; have := HL.out; omega) ht)
      subst e
      have hB6 := hB.below hb hB.lt
      have k0 := hB6.cell 0
      have k1 := hB6.cell 1
      have k2 := hB6.cell 2
      have k3 := hB6.frozen 0
      have k4 := hB6.frozen 1
      have k5 := hB6.frozen 2
      have k6 := hB6.lt
      simp at k0 k1 k2
      go_wp2_with fail
      exact bodyPost_ret (v := .agg #[.bool false, .slice none 0 0, .slice none 0 0]) (by simp [results, Tryz.results38, go_sem, *]) rfl
        ⟨_, _, _, _, _, _, _, rfl, by rw [HV.out]; exact (ratC_zero _).box27 k0 k1 k2 _ _ _, below_box27 (hPb.trans (hb.mono (by have := HPS.out; omega))) (by omega) _ _ _⟩
theorem fcoef_c (w : World) {f : FD} {m : Nat} (v : Int) (h : f.In w) (ho : OkFD m f) :
    Calls Tryz.prog 38 #[.agg #[.slice f.ad f.n f.c, .bool f.k.neg, .slice f.k.a1 f.k.n1 f.k.c1, .slice f.k.a2 f.k.n2 f.k.c2], .int .i64 v] w (RetR (coefT f.ts v) w) := fcoef_aux w rfl v h ho
set_option maxRecDepth 100000 in
set_option maxHeartbeats 3200000 in
theorem funit_c (w : World) (i : Nat) (hi : i ≤ 9223372036854775807) :
    Calls Tryz.prog 35 #[.int .i64 (i : Int)] w (RetFD 1 ([((i : Int), (1 : Rat))], (0 : Rat)) w) := by
  have hP := Pro1.mk' w #[.slice none 0 0, .bool false, .slice none 0 0, .slice none 0 0] 29
  go_enter Tryz.func35, Tryz.ntmps35
  go_upto_region 1 with (fail)
  generalize w.alloc (.cells #[.slice none 0 0, .bool false, .slice none 0 0, .slice none 0 0] 29) = W at *
  have hPb := hP.below
  have hB := hP.b0
  have HPS := Lib.hid hP.size
  clear hP
  go_wp2_with fail
  refine (frof_any W 1 (by omega) (by omega)).mono ?_
  rintro e w5 h5
  obtain ⟨r, rfl, hr, hro, hrq, hb5⟩ := h5.rd
  have HQ := Lib.hid hrq
  clear hrq h5
  have hwb : Below w.heap.size w w5 := hPb.trans (hb5.mono (by have := HPS.out; omega))
  have hb5' := hB.on hb5
  have k0 := hb5'.cell 0
  have k1 := hb5'.cell 1
  have k2 := hb5'.cell 2
  have k3 := hb5'.cell 3
  simp at k0 k1 k2 k3
  have kz := hb5'.lt
  have kf0 := hb5'.frozen 0
  have kf1 := hb5'.frozen 1
  have kf2 := hb5'.frozen 2
  have kf3 := hb5'.frozen 3
  have HX : Hid (((((w5.setCell ⟨w.heap.size, 0, none⟩ (.slice (some ⟨w5.heap.size, 0, none⟩) 1 1)).setCell ⟨w.heap.size, 1, none⟩ (.bool false)).setCell ⟨w.heap.size, 2, none⟩ (.slice none 0 0)).setCell ⟨w.heap.size, 3, none⟩ (.slice none 0 0)).heap.size = w5.heap.size) := (by simp [World.setCell] : ((((w5.setCell ⟨w.heap.size, 0, none⟩ (.slice (some ⟨w5.heap.size, 0, none⟩) 1 1)).setCell ⟨w.heap.size, 1, none⟩ (.bool false)).setCell ⟨w.heap.size, 2, none⟩ (.slice none 0 0)).setCell ⟨w.heap.size, 3, none⟩ (.slice none 0 0)).heap.size = w5.heap.size)
  have HR4 : Hid (r.In ((((w5.setCell ⟨w.heap.size, 0, none⟩ (.slice (some ⟨w5.heap.size, 0, none⟩) 1 1)).setCell ⟨w.heap.size, 1, none⟩ (.bool false)).setCell ⟨w.heap.size, 2, none⟩ (.slice none 0 0)).setCell ⟨w.heap.size, 3, none⟩ (.slice none 0 0))) := hr.set4 hb5' _ _ _ _ _ _ _ _ _ _
  have HB4 : Hid (Below w.heap.size w ((((w5.setCell ⟨w.heap.size, 0, none⟩ (.slice (some ⟨w5.heap.size, 0, none⟩) 1 1)).setCell ⟨w.heap.size, 1, none⟩ (.bool false)).setCell ⟨w.heap.size, 2, none⟩ (.slice none 0 0)).setCell ⟨w.heap.size, 3, none⟩ (.slice none 0 0))) := below_set4 hwb (Nat.le_refl _) _ _ _ _
  have HF : Hid (RetFD 1 ([((i : Int), (1 : Rat))], (0 : Rat)) w (.returned (.agg #[.slice (some ⟨w5.heap.size, 0, none⟩) 1 1, .bool false, .slice none 0 0, .slice none 0 0])) (((((w5.setCell ⟨w.heap.size, 0, none⟩ (.slice (some ⟨w5.heap.size, 0, none⟩) 1 1)).setCell ⟨w.heap.size, 1, none⟩ (.bool false)).setCell ⟨w.heap.size, 2, none⟩ (.slice none 0 0)).setCell ⟨w.heap.size, 3, none⟩ (.slice none 0 0)).alloc (.cells #[.int .i64 (i : Int), .bool r.neg, .slice r.a1 r.n1 r.c1, .slice r.a2 r.n2 r.c2] 52))) := by
    have h1 := HX.out
    have h2 := HR4.out
    have h3 := HB4.out
    clear HX HR4 HB4
    generalize (((w5.setCell ⟨w.heap.size, 0, none⟩ (.slice (some ⟨w5.heap.size, 0, none⟩) 1 1)).setCell ⟨w.heap.size, 1, none⟩ (.bool false)).setCell ⟨w.heap.size, 2, none⟩ (.slice none 0 0)).setCell ⟨w.heap.size, 3, none⟩ (.slice none 0 0) = X at *
    rw [← h1]
    have hal : Below X.heap.size X (X.alloc (.cells #[.int .i64 (i : Int), .bool r.neg, .slice r.a1 r.n1 r.c1, .slice r.a2 r.n2 r.c2] 52)) := (Below.refl _ _).alloc (Nat.le_refl _) _
    exact ⟨unitFD (some ⟨X.heap.size, 0, none⟩) i r, rfl, unit_in (Blk.new X _ _) (h2.on hal), unit_ok hro (by rw [HQ.out]; decide +kernel) (by omega), by rw [unit_sem, HQ.out]; rfl, h3.trans (hal.mono h3.size)⟩
  go_wp2_with fail
  exact bodyPost_ret (v := .agg #[.slice (some ⟨w5.heap.size, 0, none⟩) 1 1, .bool false, .slice none 0 0, .slice none 0 0]) (by simp [results, Tryz.results35, go_sem, *]) rfl HF.out
end Go.Proofs.YtledagemcknlcaaGreat
namespace Go.Proofs.YtledagemcknlcaaGreat
open Go.RowKit

theorem OkFD.tight {M m : Nat} {g : FD} {S : List (Int × Rat) × Rat} (h : OkFD M g) (hs : sem g = S) (hS : ∀ x ∈ S.1, H x.2 ≤ m) (hk : H S.2 ≤ m) : OkFD m g := by
  subst hs
  refine ⟨fun i t ht => ⟨(h.ts i t ht).1, ?_⟩, h.k, hk, h.n⟩
  have : (t.v, t.c.q) ∈ (sem g).1 := by
    show _ ∈ fm g.ts
    have h1 := fm_get g.ts i
    rw [ht] at h1
    exact List.mem_of_getElem? h1
  exact hS _ this
theorem put1_mem {v : Int} {q : Rat} {x : Int × Rat} (h : x ∈ put1 v q) : x = (v, q) ∧ q ≠ 0 := by
  unfold put1 at h
  split at h
  · cases h
  · rename_i h0; simp at h; exact ⟨h, h0⟩
theorem colN_mem {g : FD → Rat} {rows : List FD} : ∀ {n : Nat} {x : Int × Rat}, x ∈ colN g rows n → ∃ (i : Nat) (f : FD), i < n ∧ rows[i]? = some f ∧ x = ((i : Int), g f) ∧ g f ≠ 0
  | 0, x, h => by cases h
  | n + 1, x, h => by
    rw [colN] at h
    rcases List.mem_append.1 h with h | h
    · obtain ⟨i, f, h1, h2⟩ := colN_mem h; exact ⟨i, f, by omega, h2⟩
    · rcases hr : rows[n]? with _ | f
      · rw [hr] at h; simp at h
      · rw [hr] at h
        simp only [Option.map_some, Option.getD_some] at h
        obtain ⟨h1, h2⟩ := put1_mem h
        exact ⟨n, f, by omega, hr, h1, h2⟩
/-- terms in the order of their variables, all below n, none 0 -/
structure SrtN (F : List (Int × Rat)) (n : Nat) : Prop extends Srt F n where
  nz : ∀ t ∈ F, t.2 ≠ 0
theorem colN_srt (g : FD → Rat) (rows : List FD) : ∀ n, SrtN (colN g rows n) n
  | 0 => ⟨⟨List.Pairwise.nil, (fun t h => by cases h), (fun t h => by cases h)⟩, (fun t h => by cases h)⟩
  | n + 1 => by
    have ih := colN_srt g rows n
    have hm : ∀ t ∈ colN g rows (n + 1), 0 ≤ t.1 ∧ t.1 < ((n + 1 : Nat) : Int) ∧ t.2 ≠ 0 := fun t ht => by
      obtain ⟨i, f, h1, _, rfl, h3⟩ := colN_mem ht
      exact ⟨by show (0 : Int) ≤ (i : Int); omega, by show (i : Int) < _; omega, h3⟩
    refine ⟨⟨?_, fun t ht => (hm t ht).1, fun t ht => (hm t ht).2.1⟩, fun t ht => (hm t ht).2.2⟩
    rw [colN, List.pairwise_append]
    refine ⟨ih.ord, ?_, fun a ha b hb => ?_⟩
    · rcases rows[n]? with _ | f
      · simp
      · simp only [Option.map_some, Option.getD_some, put1]; split <;> simp
    · have h1 := ih.high a ha
      rcases hr : rows[n]? with _ | f
      · rw [hr] at hb; simp at hb
      · rw [hr] at hb
        simp only [Option.map_some, Option.getD_some] at hb
        rw [(put1_mem hb).1]; exact h1
theorem merge0_mem {F : List (Int × Rat)} {c : Rat} : ∀ {x : Int × Rat}, x ∈ mergeV [] F c → ∃ t ∈ F, x = (t.1, t.2 * c) ∧ t.2 * c ≠ 0 := by
  induction F with
  | nil => intro x h; rw [mergeV_nil] at h; cases h
  | cons b bs ih =>
    intro x h
    rw [mergeV_b] at h
    rcases List.mem_append.1 h with h | h
    · obtain ⟨h1, h2⟩ := put1_mem h; exact ⟨b, by simp, h1, h2⟩
    · obtain ⟨t, h1, h2⟩ := ih h; exact ⟨t, by simp [h1], h2⟩
theorem merge0_srt {F : List (Int × Rat)} {n : Nat} {c : Rat} (h : SrtN F n) : SrtN (mergeV [] F c) n := by
  have hm : ∀ x ∈ mergeV [] F c, 0 ≤ x.1 ∧ x.1 < (n : Int) ∧ x.2 ≠ 0 := fun x hx => by
    obtain ⟨t, ht, rfl, h0⟩ := merge0_mem hx
    exact ⟨h.low t ht, h.high t ht, h0⟩
  refine ⟨⟨?_, fun t ht => (hm t ht).1, fun t ht => (hm t ht).2.1⟩, fun t ht => (hm t ht).2.2⟩
  have ho := h.ord
  clear hm h
  induction F with
  | nil => rw [mergeV_nil]; exact List.Pairwise.nil
  | cons b bs ih =>
    rw [mergeV_b, List.pairwise_append]
    rw [List.pairwise_cons] at ho
    refine ⟨by unfold put1; split <;> simp, ih ho.2, fun a ha x hx => ?_⟩
    obtain ⟨t, ht, rfl, _⟩ := merge0_mem hx
    rw [(put1_mem ha).1]
    exact ho.1 t ht
theorem formV_of_sem {f : FD} {m n : Nat} {S : List (Int × Rat) × Rat} (ho : OkFD m f) (hs : sem f = S) (h : SrtN S.1 n) : FormV f.ts f.k (n : Int) := by
  subst hs
  have hg : ∀ (i : Nat) (t : TD), f.ts[i]? = some t → (t.v, t.c.q) ∈ fm f.ts := fun i t ht => by
    have h1 := fm_get f.ts i
    rw [ht] at h1
    exact List.mem_of_getElem? h1
  refine ⟨fun i t ht => ⟨h.low _ (hg i t ht), h.high _ (hg i t ht), fun j u hj hu => ?_, fun h0 => h.nz _ (hg i t ht) (sgR_eq_zero.1 h0), (ho.ts i t ht).1⟩, ho.k⟩
  subst hj
  have hp := List.pairwise_iff_getElem.1 h.ord
  have hi := (List.getElem?_eq_some_iff.1 ht).1
  have e1 := (List.getElem?_eq_some_iff.1 ht).2
  have e2 := (List.getElem?_eq_some_iff.1 hu).2
  have hl : (sem f).1.length = f.ts.length := fm_length _
  have := hp j (j + 1) (by omega) (by omega) (by omega)
  simp only [sem, fm, List.getElem_map] at this
  rw [e1, e2] at this
  exact this
theorem dualA_mem {n : Nat} {S : List (Int × Rat) × Rat} (h : S ∈ dualA n) : ∃ i : Nat, i < n ∧ S = ([((i : Int), (1 : Rat))], (0 : Rat)) := by
  unfold dualA at h
  obtain ⟨i, hi, rfl⟩ := List.mem_map.1 h
  exact ⟨i, by simpa using hi, rfl⟩
theorem dualB_mem {p : PD} : ∀ {n : Nat} {S : List (Int × Rat) × Rat}, S ∈ dualB p n → ∃ j, j < n ∧ (S = dualF p j ∨ S = dualG p j)
  | 0, _, h => by cases h
  | n + 1, S, h => by
    rw [dualB] at h
    rcases List.mem_append.1 h with h | h
    · obtain ⟨j, h1, h2⟩ := dualB_mem h; exact ⟨j, by omega, h2⟩
    · simp at h
      exact ⟨n, by omega, h⟩
theorem unit_srt {i n : Nat} (h : i < n) : SrtN [((i : Int), (1 : Rat))] n :=
  ⟨⟨List.pairwise_singleton _ _, (fun t ht => by simp at ht; subst ht; show (0 : Int) ≤ i; omega), (fun t ht => by simp at ht; subst ht; show (i : Int) < n; omega)⟩, (fun t ht => by simp at ht; subst ht; show (1 : Rat) ≠ 0; decide +kernel)⟩
theorem dual_rows_srt {p d : PD} (h : IsDual p d) {f : FD} {i : Nat} (hf : d.rows[i]? = some f) : SrtN (sem f).1 p.rn := by
  have hm : sem f ∈ d.rows.map sem := List.mem_map.2 ⟨f, List.mem_of_getElem? hf, rfl⟩
  rw [h.rows] at hm
  rcases List.mem_append.1 hm with h1 | h1
  · obtain ⟨k, hk, e⟩ := dualA_mem h1
    rw [e]; exact unit_srt hk
  · obtain ⟨j, _, e | e⟩ := dualB_mem h1
    · rw [e]; exact colN_srt _ _ _
    · rw [e]; exact merge0_srt (colN_srt _ _ _)
theorem dual_pv {p d : PD} {m : Nat} (h : IsDual p d) (hrn : p.rn ≤ 1280) (hdn : d.rn ≤ 4096) (ho : OkFD m d.obj) (hr : ∀ (i : Nat) (f : FD), d.rows[i]? = some f → OkFD m f) : PV d :=
  ⟨by rw [h.vars]; omega, by rw [h.vars]; omega, hdn, by rw [h.vars]; exact formV_of_sem ho h.obj (colN_srt _ _ _), fun i f hf => by rw [h.vars]; exact formV_of_sem (hr i f hf) rfl (dual_rows_srt h hf)⟩
/-- one more column entry -/
theorem plusV_app {F : List (Int × Rat)} {v : Int} {q : Rat} (h : ∀ t ∈ F, t.1 < v ∧ t.2 ≠ 0) : plusV false F v q = F ++ put1 v q := by
  induction F with
  | nil => simp [plusV]
  | cons t F ih =>
    have h1 := h t (by simp)
    rw [plusV_lt (by omega) (.inr h1.1), ih (fun u hu => h u (by simp [hu]))]
    unfold put1
    rw [if_neg h1.2]
    rfl
theorem addV_col {g : FD → Rat} {rows : List FD} {i : Nat} {f : FD} (hf : rows[i]? = some f) : addV (colN g rows i) (mergeV [] [((i : Int), (1 : Rat))] (g f)) = colN g rows (i + 1) := by
  rw [colN_step hf, mergeV_b, mergeV_nil, List.append_nil, Rat.one_mul]
  have hs := colN_srt g rows i
  unfold put1
  split
  · simp [addV]
  · rename_i h0
    show plusV false (colN g rows i) (i : Int) (g f) = _
    rw [plusV_app (fun t ht => ⟨hs.high t ht, hs.nz t ht⟩)]
    unfold put1
    rw [if_neg h0]
theorem colN_H {g : FD → Rat} {rows : List FD} {m n : Nat} (h : ∀ (i : Nat) (f : FD), rows[i]? = some f → H (g f) ≤ m) : ∀ x ∈ colN g rows n, H x.2 ≤ m := fun x hx => by
  obtain ⟨i, f, _, h2, rfl, _⟩ := colN_mem hx
  exact h i f h2
section
variable {w w5 : World} {base B M : Nat} {p : PD} {nv : Int} {S S' : List (Int × Rat) × Rat} {rs : List (List (Int × Rat) × Rat)} {ra : Option Addr} {rn rc : Nat} {fs : List FD} {g g' : FD}
/-- another objective is stored -/
theorem DOut.setobj (h : DOut w w5 base B M p nv S rs ra rn rc fs g) (hd : g'.In w5) (ho : OkFD M g') (hs : Hid (Go.Proofs.YtledagemcknlcaaGreat.sem g' = S')) :
    DOut w ((((w5.setCell ⟨B, 2, none⟩ (.slice g'.ad g'.n g'.c)).setCell ⟨B, 3, none⟩ (.bool g'.k.neg)).setCell ⟨B, 4, none⟩ (.slice g'.k.a1 g'.k.n1 g'.k.c1)).setCell ⟨B, 5, none⟩ (.slice g'.k.a2 g'.k.n2 g'.k.c2)) base B M p nv S' rs ra rn rc fs g' := by
  have h1 := h.B_lt
  have h4 := h.B_ge
  have hne : (Value.slice ra rn rc).ownBlock ≠ some B := fun h9 => by have := (h.row.own.lt B h9).1; omega
  have e2 : Blk (w5.setCell ⟨B, 2, none⟩ (.slice g'.ad g'.n g'.c)) B 31 #[.int .i64 nv, .slice ra rn rc, .slice g'.ad g'.n g'.c, .bool g.k.neg, .slice g.k.a1 g.k.n1 g.k.c1, .slice g.k.a2 g.k.n2 g.k.c2] := by simpa using h.box.set_ 2 (.slice g'.ad g'.n g'.c)
  have e3 : Blk ((w5.setCell ⟨B, 2, none⟩ (.slice g'.ad g'.n g'.c)).setCell ⟨B, 3, none⟩ (.bool g'.k.neg)) B 31 #[.int .i64 nv, .slice ra rn rc, .slice g'.ad g'.n g'.c, .bool g'.k.neg, .slice g.k.a1 g.k.n1 g.k.c1, .slice g.k.a2 g.k.n2 g.k.c2] := by simpa using e2.set_ 3 (.bool g'.k.neg)
  have e4 : Blk (((w5.setCell ⟨B, 2, none⟩ (.slice g'.ad g'.n g'.c)).setCell ⟨B, 3, none⟩ (.bool g'.k.neg)).setCell ⟨B, 4, none⟩ (.slice g'.k.a1 g'.k.n1 g'.k.c1)) B 31 #[.int .i64 nv, .slice ra rn rc, .slice g'.ad g'.n g'.c, .bool g'.k.neg, .slice g'.k.a1 g'.k.n1 g'.k.c1, .slice g.k.a2 g.k.n2 g.k.c2] := by simpa using e3.set_ 4 (.slice g'.k.a1 g'.k.n1 g'.k.c1)
  have e5 : Blk ((((w5.setCell ⟨B, 2, none⟩ (.slice g'.ad g'.n g'.c)).setCell ⟨B, 3, none⟩ (.bool g'.k.neg)).setCell ⟨B, 4, none⟩ (.slice g'.k.a1 g'.k.n1 g'.k.c1)).setCell ⟨B, 5, none⟩ (.slice g'.k.a2 g'.k.n2 g'.k.c2)) B 31 #[.int .i64 nv, .slice ra rn rc, .slice g'.ad g'.n g'.c, .bool g'.k.neg, .slice g'.k.a1 g'.k.n1 g'.k.c1, .slice g'.k.a2 g'.k.n2 g'.k.c2] := by simpa using e4.set_ 5 (.slice g'.k.a2 g'.k.n2 g'.k.c2)
  have keep : ∀ {f : FD}, f.In w5 → f.In ((((w5.setCell ⟨B, 2, none⟩ (.slice g'.ad g'.n g'.c)).setCell ⟨B, 3, none⟩ (.bool g'.k.neg)).setCell ⟨B, 4, none⟩ (.slice g'.k.a1 g'.k.n1 g'.k.c1)).setCell ⟨B, 5, none⟩ (.slice g'.k.a2 g'.k.n2 g'.k.c2)) := fun hf =>
    (((hf.setB h.box notU6 noTerm6 2 _).setB e2 notU6 noTerm6 3 _).setB e3 notU6 noTerm6 4 _).setB e4 notU6 noTerm6 5 _
  exact {
    row := (((h.row.setc hne 2 _).setc hne 3 _).setc hne 4 _).setc hne 5 _
    all := fun i f hf => keep (h.all i f hf)
    ok := h.ok
    sem := h.sem
    box := e5
    obj := keep hd
    objok := ho
    objsem := hs
    pbox := (((h.pbox.far (p := ⟨B, 2, none⟩) (by show w.heap.size ≠ B; omega) _).far (p := ⟨B, 3, none⟩) (by show w.heap.size ≠ B; omega) _).far (p := ⟨B, 4, none⟩) (by show w.heap.size ≠ B; omega) _).far (p := ⟨B, 5, none⟩) (by show w.heap.size ≠ B; omega) _
    res := (((h.res.far (p := ⟨B, 2, none⟩) (by show w.heap.size + 1 ≠ B; omega) _).far (p := ⟨B, 3, none⟩) (by show w.heap.size + 1 ≠ B; omega) _).far (p := ⟨B, 4, none⟩) (by show w.heap.size + 1 ≠ B; omega) _).far (p := ⟨B, 5, none⟩) (by show w.heap.size + 1 ≠ B; omega) _
    below := (((h.below.setCell (p := ⟨B, 2, none⟩) (by show w.heap.size ≤ B; omega) _).setCell (p := ⟨B, 3, none⟩) (by show w.heap.size ≤ B; omega) _).setCell (p := ⟨B, 4, none⟩) (by show w.heap.size ≤ B; omega) _).setCell (p := ⟨B, 5, none⟩) (by show w.heap.size ≤ B; omega) _
    base_le := by have := h.base_le; simp [World.setCell]; omega
    B_lt := h1
    B_ge := h4 }
end
end Go.Proofs.YtledagemcknlcaaGreat
