/- relucertref03.Make, Frac: what each call returns. the ends, row by row. relucertref27.ends: what the call returns. -/
import Derived.Test.YtledagemcknlcaaGreatK19
set_option linter.all false
namespace Go.Proofs.YtledagemcknlcaaGreat
open Go.RowKit

/-- The call returns a number, and no error. -/
def RetMk (q : Rat) (w : World) (e : Ending) (w' : World) : Prop :=
  ∃ s a1 n1 c1 a2 n2 c2, e = .returned (.tuple #[.agg #[.bool s, .slice a1 n1 c1, .slice a2 n2 c2], .int .i64 0]) ∧ RatC w' s a1 n1 c1 a2 n2 c2 q ∧ Below w.heap.size w w'
theorem mk_div {s1 s2 : Bool} {x y : Int} (h1 : s1 = decide (x < 0)) (h2 : s2 = decide (y < 0)) (hy : y ≠ 0) : mkRat (sgi (!(s1 == s2)) x.natAbs) y.natAbs = (x : Rat) / (y : Rat) := by
  rw [Rat.mkRat_eq_div]
  subst h1 h2
  have e1 : ∀ z : Int, 0 ≤ z → ((z.natAbs : Nat) : Rat) = (z : Rat) := fun z hz => by
    rw [← Rat.intCast_natCast, Int.natAbs_of_nonneg hz]
  have e2 : ∀ z : Int, z < 0 → ((z.natAbs : Nat) : Rat) = -(z : Rat) := fun z hz => by
    rw [← Rat.intCast_natCast, Int.ofNat_natAbs_of_nonpos (by omega), Rat.intCast_neg]
  have hyr : (y : Rat) ≠ 0 := fun h => hy (Rat.intCast_inj.1 (h.trans (rfl : (0 : Rat) = ((0 : Int) : Rat))))
  unfold sgi
  by_cases hx : x < 0 <;> by_cases hy' : y < 0 <;> simp only [hx, hy', decide_true, decide_false] <;> simp
  · rw [Int.ofNat_natAbs_of_nonpos (by omega), e2 y hy']; grind
  · rw [Int.ofNat_natAbs_of_nonpos (by omega), e1 y (by omega)]; simp
  · rw [Int.natAbs_of_nonneg (by omega), e2 y hy']; grind
  · rw [Int.natAbs_of_nonneg (by omega), e1 y (by omega)]
set_option maxRecDepth 100000 in
set_option maxHeartbeats 3200000 in
theorem make_c (w : World) {s1 s2 : Bool} {a1 a2 : Option Addr} {n1 n2 c1 c2 : Nat} {x y : Int} (h1 : IntC w s1 a1 n1 c1 x) (h2 : IntC w s2 a2 n2 c2 y) (hy : y ≠ 0) (hn1 : n1 ≤ 4398046511104) (hn2 : n2 ≤ 4398046511104) :
    Calls Tryz.prog 93 #[.agg #[.bool s1, .slice a1 n1 c1], .agg #[.bool s2, .slice a2 n2 c2]] w (RetMk ((x : Rat) / (y : Rat)) w) := by
  have hsg : y.sign ≠ 0 := fun h => hy (Int.sign_eq_zero_iff_zero.1 h)
  have HSG := Lib.hid hsg
  clear hsg
  have hP := Pro3.mk' w #[.bool s1, .slice a1 n1 c1] #[.bool s2, .slice a2 n2 c2] #[.bool false, .slice none 0 0, .slice none 0 0] 78 78 27
  go_enter Tryz.func93, Tryz.ntmps93
  go_upto_region 1 with (fail)
  generalize ((w.alloc (.cells #[.bool s1, .slice a1 n1 c1] 78)).alloc (.cells #[.bool s2, .slice a2 n2 c2] 78)).alloc (.cells #[.bool false, .slice none 0 0, .slice none 0 0] 27) = W at *
  have k00 := hP.b0.cell 0
  have f00 := hP.b0.frozen 0
  have k01 := hP.b0.cell 1
  have f01 := hP.b0.frozen 1
  have z0 := hP.b0.lt
  have k10 := hP.b1.cell 0
  have f10 := hP.b1.frozen 0
  have k11 := hP.b1.cell 1
  have f11 := hP.b1.frozen 1
  have z1 := hP.b1.lt
  have k20 := hP.b2.cell 0
  have f20 := hP.b2.frozen 0
  have k21 := hP.b2.cell 1
  have f21 := hP.b2.frozen 1
  have k22 := hP.b2.cell 2
  have f22 := hP.b2.frozen 2
  have z2 := hP.b2.lt
  simp at k00 k01 k10 k11 k20 k21 k22
  have nb20 : w.heap.size + 1 + 1 ≠ w.heap.size := by omega
  have hw0 : Below W.heap.size W W.drew := Below.drew (Below.refl _ _)
  have g1 := h1.on hP.below
  have g2 := h2.on hP.below
  have e2 : iv s2 (lmb y.natAbs) = y := by
    have := h2.sign.out
    unfold iv; rw [val_lmb, this]
    by_cases h : y < 0 <;> simp [h] <;> omega
  have HE := Lib.hid e2
  clear e2
  go_wp2_with fail
  refine (gsign_any _ g2.mag (by omega)).mono ?_
  rintro e w5 ⟨rfl, hb5⟩
  rw [HE.out]
  obtain ⟨hc5, hf5⟩ := bcell hb5
  have g1' := g1.on hb5
  have g2' := g2.on hb5
  have hsg := HSG.out
  generalize y.sign = sg at *
  have dsg : decide (sg = 0) = false := decide_eq_false hsg
  have HS := Lib.hid (mk_div h1.sign.out h2.sign.out hy)
  have z0' := Nat.lt_of_lt_of_le z0 hb5.size
  have z1' := Nat.lt_of_lt_of_le z1 hb5.size
  have z2' := Nat.lt_of_lt_of_le z2 hb5.size
  clear h1 h2 g1 g2
  go_wp2_with fail
  refine (fquot_any _ g1'.mag g2'.mag (by omega) (by omega) (by rw [val_lmb]; omega)).mono ?_
  rintro e w6 ⟨s6, a6, m6, c6, a7, m7, c7, rfl, g6, hb6⟩
  have hb56 := hb5.trans (hb6.mono hb5.size)
  obtain ⟨hc6, hf6⟩ := bcell hb56
  rw [val_lmb, val_lmb, HS.out] at g6
  clear g1' g2' hc5 hf5
  go_wp2_with fail
  exact bodyPost_ret (v := .tuple #[.agg #[.bool s6, .slice a6 m6 c6, .slice a7 m7 c7], .int .i64 0]) (by simp [results, Tryz.results93, go_sem, *]) rfl
    ⟨_, _, _, _, _, _, _, rfl, g6.box27 (B := w.heap.size + 1 + 1) (x := false) (a := none) (a' := none) (m := 0) (k := 0) (m' := 0) (k' := 0) (by simp [*]) (by simp [*]) (by simp [*]) _ _ _, below_box27 (hP.below.trans (hb56.mono (by omega))) (by omega) _ _ _⟩
theorem lmb2 {x : Int} (h0 : -9223372036854775808 ≤ x) (h1 : x ≤ 9223372036854775807) : (lmb x.natAbs).length ≤ 2 := lmb_len_le (by omega)
set_option maxRecDepth 100000 in
set_option maxHeartbeats 3200000 in
theorem frac_c (w : World) {x y : Int} (hx0 : -9223372036854775808 ≤ x) (hx1 : x ≤ 9223372036854775807) (hy0 : -9223372036854775808 ≤ y) (hy1 : y ≤ 9223372036854775807) (hy : y ≠ 0) :
    Calls Tryz.prog 72 #[.int .i64 x, .int .i64 y] w (RetMk ((x : Rat) / (y : Rat)) w) := by
  have hP := Pro1.mk' w #[.bool false, .slice none 0 0, .slice none 0 0] 27
  go_enter Tryz.func72, Tryz.ntmps72
  go_upto_region 1 with (fail)
  generalize w.alloc (.cells #[.bool false, .slice none 0 0, .slice none 0 0] 27) = W at *
  have k00 := hP.b0.cell 0
  have f00 := hP.b0.frozen 0
  have k01 := hP.b0.cell 1
  have f01 := hP.b0.frozen 1
  have k02 := hP.b0.cell 2
  have f02 := hP.b0.frozen 2
  have z0 := hP.b0.lt
  simp at k00 k01 k02
  have hw0 : Below W.heap.size W W.drew := Below.drew (Below.refl _ _)
  go_wp2_with fail
  refine (gof_any _ x hx0 hx1).mono ?_
  rintro e w3 ⟨s3, a3, n3, c3, rfl, g3, hb3⟩
  go_wp2_with fail
  refine (gof_any _ y hy0 hy1).mono ?_
  rintro e w4 ⟨s4, a4, n4, c4, rfl, g4, hb4'⟩
  have hb4 := hb3.trans (hb4'.mono hb3.size)
  have l3 : n3 ≤ 2 := by rw [← g3.mag.len]; exact lmb2 hx0 hx1
  have l4 : n4 ≤ 2 := by rw [← g4.mag.len]; exact lmb2 hy0 hy1
  go_wp2_with fail
  refine (make_c _ (g3.on hb4') g4 hy (by omega) (by omega)).mono ?_
  rintro e w6 ⟨s6, a6, m6, c6, a7, m7, c7, rfl, g6, hb6⟩
  have hb56 := hb4.trans (hb6.mono hb4.size)
  obtain ⟨hc6, hf6⟩ := bcell hb56
  have z0' := Nat.lt_of_lt_of_le z0 hb56.size
  clear g3 g4 hb3 hb4' hb4 hy
  go_wp2_with fail
  exact bodyPost_ret (v := .tuple #[.agg #[.bool s6, .slice a6 m6 c6, .slice a7 m7 c7], .int .i64 0]) (by simp [results, Tryz.results72, go_sem, *]) rfl
    ⟨_, _, _, _, _, _, _, rfl, g6.box27 (B := w.heap.size) (x := false) (a := none) (a' := none) (m := 0) (k := 0) (m' := 0) (k' := 0) (by simp [*]) (by simp [*]) (by simp [*]) _ _ _, below_box27 (hP.below.trans (hb56.mono (by omega))) (by omega) _ _ _⟩
end Go.Proofs.YtledagemcknlcaaGreat
namespace Go.Proofs.YtledagemcknlcaaGreat
open Go.RowKit

section
variable {l : List (Rat × Rat)} {lo hi : Bool} {x y a c v : Rat}
theorem EndsI.nil : EndsI [] false false x y := ⟨fun r h => by simp at h, fun h => by simp at h, fun _ r h => by simp at h, fun h => by simp at h, fun _ r h => by simp at h⟩
theorem mem_one {r p : Rat × Rat} (h : r ∈ l ++ [p]) : r ∈ l ∨ r = p := by simpa using h
theorem EndsI.zero (h : EndsI l lo hi x y) (hc : 0 ≤ c) : EndsI (l ++ [(0, c)]) lo hi x y := by
  refine ⟨fun r hr h0 => ?_, fun h1 => ?_, fun h1 r hr => ?_, fun h1 => ?_, fun h1 r hr => ?_⟩
  · rcases mem_one hr with h9 | rfl
    · exact h.z r h9 h0
    · exact hc
  · obtain ⟨⟨p, hp, hp1⟩, h2⟩ := h.lo h1
    refine ⟨⟨p, List.mem_append_left _ hp, hp1⟩, fun r hr hr1 => ?_⟩
    rcases mem_one hr with h9 | rfl
    · exact h2 r h9 hr1
    · exact absurd hr1 (by show ¬ (0 : Rat) < 0; grind)
  · rcases mem_one hr with h9 | rfl
    · exact h.nlo h1 r h9
    · show ¬ (0 : Rat) < 0; grind
  · obtain ⟨⟨p, hp, hp1⟩, h2⟩ := h.hi h1
    refine ⟨⟨p, List.mem_append_left _ hp, hp1⟩, fun r hr hr1 => ?_⟩
    rcases mem_one hr with h9 | rfl
    · exact h2 r h9 hr1
    · exact absurd hr1 (by show ¬ (0 : Rat) < 0; grind)
  · rcases mem_one hr with h9 | rfl
    · exact h.nhi h1 r h9
    · show ¬ (0 : Rat) < 0; grind
theorem EndsI.bad (hc : c < 0) (hm : (0, c) ∈ l) (t : Rat) : ¬ HoldT l t := fun h => by
  have h1 : 0 ≤ 0 * t + c := h _ hm
  grind
/-- a row that bounds from below: the bound stays -/
theorem EndsI.upKeep (h : EndsI l true hi x y) (ha : 0 < a) (hv : v * a + c = 0) (hx : v ≤ x) : EndsI (l ++ [(a, c)]) true hi x y := by
  refine ⟨fun r hr h0 => ?_, fun _ => ?_, fun h1 => (by cases h1), fun h1 => ?_, fun h1 r hr => ?_⟩
  · rcases mem_one hr with h9 | rfl
    · exact h.z r h9 h0
    · have h0' : a = 0 := h0
      grind
  · obtain ⟨⟨p, hp, hp1⟩, h2⟩ := h.lo rfl
    refine ⟨⟨p, List.mem_append_left _ hp, hp1⟩, fun r hr hr1 => ?_⟩
    rcases mem_one hr with h9 | rfl
    · exact h2 r h9 hr1
    · show 0 ≤ x * a + c
      have := mul_mono (a := a) (by grind) hx
      grind
  · obtain ⟨⟨p, hp, hp1⟩, h2⟩ := h.hi h1
    refine ⟨⟨p, List.mem_append_left _ hp, hp1⟩, fun r hr hr1 => ?_⟩
    rcases mem_one hr with h9 | rfl
    · exact h2 r h9 hr1
    · have hr1' : a < 0 := hr1
      grind
  · rcases mem_one hr with h9 | rfl
    · exact h.nhi h1 r h9
    · show ¬ a < 0; grind
/-- a row that bounds from below: the new bound -/
theorem EndsI.upNew (h : EndsI l lo hi x y) (ha : 0 < a) (hv : v * a + c = 0) (hx : lo = true → x ≤ v) : EndsI (l ++ [(a, c)]) true hi v y := by
  refine ⟨fun r hr h0 => ?_, fun _ => ⟨⟨(a, c), by simp, ha, hv⟩, fun r hr hr1 => ?_⟩, fun h1 => (by cases h1), fun h1 => ?_, fun h1 r hr => ?_⟩
  · rcases mem_one hr with h9 | rfl
    · exact h.z r h9 h0
    · have h0' : a = 0 := h0
      grind
  · rcases mem_one hr with h9 | rfl
    · rcases lo with _ | _
      · exact absurd hr1 (h.nlo rfl r h9)
      · have h2 := (h.lo rfl).2 r h9 hr1
        have := mul_mono (a := r.1) (by grind) (hx rfl)
        grind
    · show 0 ≤ v * a + c
      grind
  · obtain ⟨⟨p, hp, hp1⟩, h2⟩ := h.hi h1
    refine ⟨⟨p, List.mem_append_left _ hp, hp1⟩, fun r hr hr1 => ?_⟩
    rcases mem_one hr with h9 | rfl
    · exact h2 r h9 hr1
    · have hr1' : a < 0 := hr1
      grind
  · rcases mem_one hr with h9 | rfl
    · exact h.nhi h1 r h9
    · show ¬ a < 0; grind
theorem EndsI.downKeep (h : EndsI l lo true x y) (ha : a < 0) (hv : v * a + c = 0) (hy : y ≤ v) : EndsI (l ++ [(a, c)]) lo true x y := by
  refine ⟨fun r hr h0 => ?_, fun h1 => ?_, fun h1 r hr => ?_, fun _ => ?_, fun h1 => (by cases h1)⟩
  · rcases mem_one hr with h9 | rfl
    · exact h.z r h9 h0
    · have h0' : a = 0 := h0
      grind
  · obtain ⟨⟨p, hp, hp1⟩, h2⟩ := h.lo h1
    refine ⟨⟨p, List.mem_append_left _ hp, hp1⟩, fun r hr hr1 => ?_⟩
    rcases mem_one hr with h9 | rfl
    · exact h2 r h9 hr1
    · have hr1' : 0 < a := hr1
      grind
  · rcases mem_one hr with h9 | rfl
    · exact h.nlo h1 r h9
    · show ¬ 0 < a; grind
  · obtain ⟨⟨p, hp, hp1⟩, h2⟩ := h.hi rfl
    refine ⟨⟨p, List.mem_append_left _ hp, hp1⟩, fun r hr hr1 => ?_⟩
    rcases mem_one hr with h9 | rfl
    · exact h2 r h9 hr1
    · show 0 ≤ y * a + c
      have := mul_mono (a := -a) (by grind) hy
      grind
theorem EndsI.downNew (h : EndsI l lo hi x y) (ha : a < 0) (hv : v * a + c = 0) (hy : hi = true → v ≤ y) : EndsI (l ++ [(a, c)]) lo true x v := by
  refine ⟨fun r hr h0 => ?_, fun h1 => ?_, fun h1 r hr => ?_, fun _ => ⟨⟨(a, c), by simp, ha, hv⟩, fun r hr hr1 => ?_⟩, fun h1 => (by cases h1)⟩
  · rcases mem_one hr with h9 | rfl
    · exact h.z r h9 h0
    · have h0' : a = 0 := h0
      grind
  · obtain ⟨⟨p, hp, hp1⟩, h2⟩ := h.lo h1
    refine ⟨⟨p, List.mem_append_left _ hp, hp1⟩, fun r hr hr1 => ?_⟩
    rcases mem_one hr with h9 | rfl
    · exact h2 r h9 hr1
    · have hr1' : 0 < a := hr1
      grind
  · rcases mem_one hr with h9 | rfl
    · exact h.nlo h1 r h9
    · show ¬ 0 < a; grind
  · rcases mem_one hr with h9 | rfl
    · rcases hi with _ | _
      · exact absurd hr1 (h.nhi rfl r h9)
      · have h2 := (h.hi rfl).2 r h9 hr1
        have := mul_mono (a := -r.1) (by grind) (hy rfl)
        grind
    · show 0 ≤ v * a + c
      grind
end
end Go.Proofs.YtledagemcknlcaaGreat
namespace Go.Proofs.YtledagemcknlcaaGreat
open Go.RowKit

theorem H_div {x y : Int} (hx0 : -9223372036854775808 ≤ x) (hx1 : x ≤ 9223372036854775807) (hy0 : -9223372036854775808 ≤ y) (hy1 : y ≤ 9223372036854775807) (hy : y ≠ 0) : H ((x : Rat) / (y : Rat)) ≤ 2 := by
  rw [← mk_div (s1 := decide (x < 0)) (s2 := decide (y < 0)) rfl rfl hy]
  refine Nat.le_trans (H_mk _ (by omega)) ?_
  rw [sgi_natAbs]
  have h1 := lmb2 hx0 hx1
  have h2 := lmb2 hy0 hy1
  omega
/-- a number in memory, by its value -/
structure RQ where
  s : Bool
  a : Option Addr
  n : Nat
  c : Nat
  a' : Option Addr
  n' : Nat
  c' : Nat
  q : Rat
def RQ.C (r : RQ) (w : World) : Prop := RatC w r.s r.a r.n r.c r.a' r.n' r.c' r.q
/-- the bounds so far -/
structure EndL (w V : World) (l : List (Rat × Rat)) (lo hi : Bool) (x y : RQ) : Prop where
  res : Blk V w.heap.size 27 #[.bool false, .slice none 0 0, .slice none 0 0]
  blo : Blk V (w.heap.size + 1) 27 #[.bool x.s, .slice x.a x.n x.c, .slice x.a' x.n' x.c']
  bhi : Blk V (w.heap.size + 2) 27 #[.bool y.s, .slice y.a y.n y.c, .slice y.a' y.n' y.c']
  cx : x.C V
  cy : y.C V
  hx : Hid (H x.q ≤ 2)
  hy : Hid (H y.q ≤ 2)
  ends : Hid (EndsI l lo hi x.q y.q)
  below : Below w.heap.size w V
def pairN (n : Nat) (r : WD) : Rat × Rat := (((r.at n : Int) : Rat), ((r.at (n + 1) : Int) : Rat))
/-- The call returns the status and the least value of the last variable. -/
def RetEnds (l : List (Rat × Rat)) (w : World) (e : Ending) (w' : World) : Prop :=
  ∃ (st : Int) (x : RQ), e = .returned (.tuple #[.int .i64 st, .agg #[.bool x.s, .slice x.a x.n x.c, .slice x.a' x.n' x.c']]) ∧ x.C w' ∧ H x.q ≤ 2 ∧ Below w.heap.size w w' ∧
    ((st = 2 ∧ ∀ t, ¬ HoldT l t) ∨ (st = 3 ∧ ∀ B, ∃ t, HoldT l t ∧ t ≤ B) ∨ (st = 1 ∧ HoldT l x.q ∧ ∀ t, HoldT l t → x.q ≤ t))
theorem frac_zero {a c : Int} (ha : a ≠ 0) : ((-c : Int) : Rat) / ((a : Int) : Rat) * ((a : Int) : Rat) + ((c : Int) : Rat) = 0 := by
  have hr : (a : Rat) ≠ 0 := fun h => ha (Rat.intCast_inj.1 (h.trans (rfl : (0 : Rat) = ((0 : Int) : Rat))))
  rw [Rat.intCast_neg]
  generalize (a : Rat) = x at *
  generalize (c : Rat) = y at *
  grind
theorem EndL.setLo {w V : World} {l l' : List (Rat × Rat)} {lo lo' hi : Bool} {x y : RQ} (h : EndL w V l lo hi x y) (z : RQ) (hz : RatC V z.s z.a z.n z.c z.a' z.n' z.c' z.q) (hH : H z.q ≤ 2) (he : EndsI l' lo' hi z.q y.q) :
    EndL w (((V.setCell ⟨w.heap.size + 1, 0, none⟩ (.bool z.s)).setCell ⟨w.heap.size + 1, 1, none⟩ (.slice z.a z.n z.c)).setCell ⟨w.heap.size + 1, 2, none⟩ (.slice z.a' z.n' z.c')) l' lo' hi z y :=
  ⟨h.res.farR (by omega) _ _ _, h.blo.setR _ _ _, h.bhi.farR (by omega) _ _ _, RatC.inR hz h.blo _ _ _, RatC.inR h.cy h.blo _ _ _, hH, h.hy, he, below_box27 h.below (by omega) _ _ _⟩
theorem EndL.setHi {w V : World} {l l' : List (Rat × Rat)} {lo hi hi' : Bool} {x y : RQ} (h : EndL w V l lo hi x y) (z : RQ) (hz : RatC V z.s z.a z.n z.c z.a' z.n' z.c' z.q) (hH : H z.q ≤ 2) (he : EndsI l' lo hi' x.q z.q) :
    EndL w (((V.setCell ⟨w.heap.size + 2, 0, none⟩ (.bool z.s)).setCell ⟨w.heap.size + 2, 1, none⟩ (.slice z.a z.n z.c)).setCell ⟨w.heap.size + 2, 2, none⟩ (.slice z.a' z.n' z.c')) l' lo hi' x z :=
  ⟨h.res.farR (by omega) _ _ _, h.blo.farR (by omega) _ _ _, h.bhi.setR _ _ _, RatC.inR h.cx h.bhi _ _ _, RatC.inR hz h.bhi _ _ _, h.hx, hH, he, below_box27 h.below (by omega) _ _ _⟩
theorem sgR_cases (q : Rat) : sgR q = 1 ∨ sgR q = 0 ∨ sgR q = -1 := by
  unfold sgR
  rcases Int.lt_trichotomy q.num 0 with h | h | h
  · exact Or.inr (Or.inr (Int.sign_eq_neg_one_of_neg h))
  · rw [h]; exact Or.inr (Or.inl rfl)
  · exact Or.inl (Int.sign_eq_one_of_pos h)
theorem sgR_pos {q : Rat} (h : 0 < q) : sgR q = 1 := by
  have h1 := (sgR_nonneg (q := q)).2 (by grind)
  have h2 : sgR q ≠ 0 := fun h9 => by have := sgR_eq_zero.1 h9; grind
  have := sgR_cases q
  omega
theorem sgR_neg {q : Rat} (h : q < 0) : sgR q = -1 := by
  have h1 : ¬ 0 ≤ sgR q := fun h9 => by have := sgR_nonneg.1 h9; grind
  have := sgR_cases q
  omega
theorem sgR_ge {q : Rat} (h : 0 ≤ q) : sgR q ≥ 0 := sgR_nonneg.2 h
theorem sgR_le {q : Rat} (h : q ≤ 0) : sgR q ≤ 0 := by
  rcases Classical.em (q = 0) with h1 | h1
  · rw [sgR_eq_zero.2 h1]; omega
  · rw [sgR_neg (by grind)]; omega
theorem pair_take {rs : List WD} {v i : Nat} {r : WD} (h : rs[i]? = some r) : (rs.take (i + 1)).map (pairN v) = (rs.take i).map (pairN v) ++ [pairN v r] := by
  rw [List.take_add_one, h, List.map_append]; rfl
theorem EndL.on {w V V' : World} {l : List (Rat × Rat)} {lo hi : Bool} {x y : RQ} (h : EndL w V l lo hi x y) (hb : Below V.heap.size V V') : EndL w V' l lo hi x y :=
  ⟨h.res.on hb, h.blo.on hb, h.bhi.on hb, RatC.on h.cx hb, RatC.on h.cy hb, h.hx, h.hy, h.ends, h.below.trans (hb.mono h.below.size)⟩
set_option maxRecDepth 100000 in
set_option maxHeartbeats 25600000 in
theorem ends_c (w : World) {ad : Option Addr} {n c K v : Nat} {rs : List WD} (h : WsR w ad n c rs) (ho : ∀ (i : Nat) (r : WD), rs[i]? = some r → OkW K r) (hn : n ≤ 1048576) (hv : v + 1 < K) (hK : K ≤ 1048576) :
    Calls Tryz.prog 45 #[.slice ad n c, .int .i64 (v : Int)] w (RetEnds (rs.map (pairN v)) w) := by
  have HO : Hid (∀ (i : Nat) (r : WD), rs[i]? = some r → OkW K r) := ho
  have HL := Lib.hid h.len
  clear ho
  have hP := Pro3.mk' w #[.bool false, .slice none 0 0, .slice none 0 0] #[.bool false, .slice none 0 0, .slice none 0 0] #[.bool false, .slice none 0 0, .slice none 0 0] 27 27 27
  go_enter Tryz.func45, Tryz.ntmps45
  go_upto_region 3 with (fail)
  generalize ((w.alloc (.cells #[.bool false, .slice none 0 0, .slice none 0 0] 27)).alloc (.cells #[.bool false, .slice none 0 0, .slice none 0 0] 27)).alloc (.cells #[.bool false, .slice none 0 0, .slice none 0 0] 27) = W at *
  have hE0 : EndL w W [] false false ⟨false, none, 0, 0, none, 0, 0, 0⟩ ⟨false, none, 0, 0, none, 0, 0, 0⟩ := ⟨hP.b0, hP.b1, hP.b2, ratC_zero W, ratC_zero W, (by show H 0 ≤ 2; rw [H_zero]; omega), (by show H 0 ≤ 2; rw [H_zero]; omega), EndsI.nil, hP.below⟩
  clear hP
  go_wp2_with fail
  go_loopw [6, 7, 10] (fun s6 s7 s10 wr => ∃ i lo hi x y, i ≤ n ∧ s10 = .int .i64 (i : Nat) ∧ s6 = .bool lo ∧ s7 = .bool hi ∧ EndL w wr ((rs.take i).map (pairN v)) lo hi x y) (fun _ _ i _ => n - (intOf i).toNat)
  case atStart => exact ⟨0, _, _, _, _, by omega, rfl, rfl, rfl, hE0⟩
  case round =>
    clear hE0
    obtain ⟨i, lo, hi, p, y, hi', rfl, rfl, rfl, hE⟩ := hrel
    by_cases hlt : i < n
    · have hr := h.on hE.below
      obtain ⟨B, o, b2, o2, rc, xs, rb, rfl, hB, HR, HOK, hrb, hrc, hb2, c0, c1, HC⟩ := hr.lit HO.out (by omega) hlt
      have cv := HC.out v (by omega)
      have cw := HC.out (v + 1) (by omega)
      have cw2 := cw
      rw [← Nat.add_assoc] at cw2
      have hba := HOK.out.at_ v
      have hbc := HOK.out.at_ (v + 1)
      have HPT : Hid ((rs.take (i + 1)).map (pairN v) = (rs.take i).map (pairN v) ++ [pairN v ⟨some ⟨b2, o2, none⟩, K, rc, xs, rb⟩]) := pair_take HR.out
      generalize hae : WD.at ⟨some ⟨b2, o2, none⟩, K, rc, xs, rb⟩ v = a at cv hba
      generalize hce : WD.at ⟨some ⟨b2, o2, none⟩, K, rc, xs, rb⟩ (v + 1) = cc at cw cw2 hbc
      have HPR : Hid (pairN v ⟨some ⟨b2, o2, none⟩, K, rc, xs, rb⟩ = ((a : Rat), (cc : Rat))) := (by unfold pairN; rw [hae, hce] : pairN v ⟨some ⟨b2, o2, none⟩, K, rc, xs, rb⟩ = ((a : Rat), (cc : Rat)))
      have HPT2 : Hid ((rs.take (i + 1)).map (pairN v) = (rs.take i).map (pairN v) ++ [((a : Rat), (cc : Rat))]) := (by rw [HPT.out, HPR.out] : (rs.take (i + 1)).map (pairN v) = (rs.take i).map (pairN v) ++ [((a : Rat), (cc : Rat))])
      have vk : (v : Int) < (K : Int) := by omega
      have vk1 : (v : Int) + 1 < (K : Int) := by omega
      have tn : ((v : Int) + 1).toNat = v + 1 := by omega
      clear hae hce HPT
      obtain ⟨hcx, hfx⟩ := upcell wr
      go_upto_region 6 with (fail)
      refine wp_region_up (by kernel_rfl) (by kernel_rfl) ?_
      repeat (go_big_quiet_step ((fail)))
      refine wpQuiet_nil ?_
      intro x
      have hEx := hE.on x.below
      obtain ⟨V, hVe⟩ : ∃ V, V = x.w := ⟨_, rfl⟩
      rw [← hVe] at hEx ⊢
      have HMEM : Hid (((a : Rat), (cc : Rat)) ∈ rs.map (pairN v)) := (by rw [← HPR.out]; exact List.mem_map.2 ⟨_, List.mem_of_getElem? HR.out, rfl⟩ : ((a : Rat), (cc : Rat)) ∈ rs.map (pairN v))
      clear hVe x hcx hfx hE hr c0 c1 cv cw cw2 tn vk1 vk
      have r0 := hEx.res.cell 0
      have r1 := hEx.res.cell 1
      have r2 := hEx.res.cell 2
      simp at r0 r1 r2
      have rf0 := hEx.res.frozen 0
      have rf1 := hEx.res.frozen 1
      have rf2 := hEx.res.frozen 2
      have rz := hEx.res.lt
      by_cases ha : a = 0
      · subst ha
        by_cases hc : cc < 0
        · have d1 : decide (cc < 0) = true := decide_eq_true hc
          have HB : Hid (∀ t, ¬ HoldT (rs.map (pairN v)) t) := (EndsI.bad (Rat.intCast_neg_iff.2 hc) HMEM.out : ∀ t, ¬ HoldT (rs.map (pairN v)) t)
          have hbl := hEx.below
          go_wp2_with fail
          exact bodyPost_ret (v := .tuple #[.int .i64 2, .agg #[.bool false, .slice none 0 0, .slice none 0 0]]) (by simp [results, Tryz.results45, go_sem, *]) rfl
            ⟨2, ⟨false, none, 0, 0, none, 0, 0, 0⟩, rfl, ratC_zero _, (by show H 0 ≤ 2; rw [H_zero]; omega), below_box27 hbl (by omega) _ _ _, Or.inl ⟨rfl, HB.out⟩⟩
        · have d1 : decide (cc < 0) = false := decide_eq_false hc
          have hE2 : EndL w V ((rs.take (i + 1)).map (pairN v)) lo hi p y := { hEx with ends := (by rw [HPT2.out]; exact hEx.ends.out.zero (Rat.intCast_nonneg.2 (by omega)) : EndsI ((rs.take (i + 1)).map (pairN v)) lo hi p.q y.q) }
          go_wp2_with fail
          go_roundw
          case rel => exact ⟨i + 1, lo, hi, p, y, by omega, by go_num, rfl, rfl, hE2⟩
          case measure => simp [intOf]; omega
      · have d0 : decide (a = 0) = false := decide_eq_false ha
        have HV0 : Hid (((-cc : Int) : Rat) / ((a : Int) : Rat) * ((a : Int) : Rat) + ((cc : Int) : Rat) = 0) := frac_zero ha
        have HH : Hid (H (((-cc : Int) : Rat) / ((a : Int) : Rat)) ≤ 2) := H_div (by omega) (by omega) (by omega) (by omega) ha
        have wc : IntKind.i64.wrap (-cc) = -cc := IntWalk.i64_in _ (by omega)
        clear r0 r1 r2 rf0 rf1 rf2
        go_wp2_with fail
        refine (frac_c V (x := -cc) (y := a) (by omega) (by omega) (by omega) (by omega) ha).mono ?_
        rintro e w6 ⟨s6, a6, m6, c6, a7, m7, c7, rfl, g6, hb6⟩
        generalize ((-cc : Int) : Rat) / ((a : Int) : Rat) = q at *
        have hE6 := hEx.on hb6
        have hQ := Pro1.mk' w6 #[.bool s6, .slice a6 m6 c6, .slice a7 m7 c7] 27
        go_upto_region 11 with (fail)
        have hEU := hE6.on hQ.below
        have gU := g6.on hQ.below
        have hxb := hQ.b0
        generalize w6.alloc (.cells #[.bool s6, .slice a6 m6 c6, .slice a7 m7 c7] 27) = U at *
        clear hQ g6 hb6 hEx
        have hne1 : w6.heap.size ≠ w.heap.size + 1 := by have := hE6.blo.lt; omega
        have hne2 : w6.heap.size ≠ w.heap.size + 2 := by have := hE6.bhi.lt; omega
        by_cases hp : 0 < a
        · have d1 : decide (0 < a) = true := decide_eq_true hp
          have HA : Hid ((0 : Rat) < (a : Rat)) := Rat.intCast_pos.2 hp
          rcases lo with _ | _
          · have hE2 := hEU.setLo (l' := (rs.take (i + 1)).map (pairN v)) (lo' := true) ⟨s6, a6, m6, c6, a7, m7, c7, q⟩ gU HH.out (by rw [HPT2.out]; exact hEU.ends.out.upNew HA.out HV0.out (fun h9 => by cases h9))
            have b0 := hEU.blo.cell 0
            have b1 := hEU.blo.cell 1
            have b2 := hEU.blo.cell 2
            simp at b0 b1 b2
            have bf0 := hEU.blo.frozen 0
            have bf1 := hEU.blo.frozen 1
            have bf2 := hEU.blo.frozen 2
            have bz := hEU.blo.lt
            have x0 := hxb.cell 0
            have x1 := hxb.cell 1
            have x2 := hxb.cell 2
            simp at x0 x1 x2
            have xf0 := hxb.frozen 0
            have xf1 := hxb.frozen 1
            have xf2 := hxb.frozen 2
            have xz := hxb.lt
            clear hxb gU hE6 hEU
            go_wp2_with fail
            go_roundw
            case rel => exact ⟨i + 1, true, hi, ⟨s6, a6, m6, c6, a7, m7, c7, q⟩, y, by omega, by go_num, rfl, rfl, hE2⟩
            case measure => simp [intOf]; omega
          · have hCM := frcmp_c U gU hEU.cx (by have := HH.out; omega) (by have := hEU.hx.out; omega)
            have b0 := hEU.blo.cell 0
            have b1 := hEU.blo.cell 1
            have b2 := hEU.blo.cell 2
            simp at b0 b1 b2
            have bf0 := hEU.blo.frozen 0
            have bf1 := hEU.blo.frozen 1
            have bf2 := hEU.blo.frozen 2
            have bz := hEU.blo.lt
            have x0 := hxb.cell 0
            have x1 := hxb.cell 1
            have x2 := hxb.cell 2
            simp at x0 x1 x2
            have xf0 := hxb.frozen 0
            have xf1 := hxb.frozen 1
            have xf2 := hxb.frozen 2
            have xz := hxb.lt
            have HCM := Lib.hid hCM
            clear hCM
            go_wp2_with fail
            refine HCM.out.mono ?_
            rintro e w8 ⟨rfl, hb8⟩
            have hE8 := hEU.on hb8
            have g8 := gU.on hb8
            have hx8 := hxb.on hb8
            clear b0 b1 b2 bf0 bf1 bf2 bz x0 x1 x2 xf0 xf1 xf2 xz hEU gU hxb hE6
            have b0 := hE8.blo.cell 0
            have b1 := hE8.blo.cell 1
            have b2 := hE8.blo.cell 2
            simp at b0 b1 b2
            have bf0 := hE8.blo.frozen 0
            have bf1 := hE8.blo.frozen 1
            have bf2 := hE8.blo.frozen 2
            have bz := hE8.blo.lt
            have x0 := hx8.cell 0
            have x1 := hx8.cell 1
            have x2 := hx8.cell 2
            simp at x0 x1 x2
            have xf0 := hx8.frozen 0
            have xf1 := hx8.frozen 1
            have xf2 := hx8.frozen 2
            have xz := hx8.lt
            by_cases hcmp : p.q < q
            · have hsg : sgR (q - p.q) = 1 := by exact sgR_pos (by grind)
              have hE2 := hE8.setLo (l' := (rs.take (i + 1)).map (pairN v)) (lo' := true) ⟨s6, a6, m6, c6, a7, m7, c7, q⟩ g8 HH.out (by rw [HPT2.out]; exact hE8.ends.out.upNew HA.out HV0.out (fun _ => by grind))
              rw [hsg]
              clear hsg
              go_wp2_with fail
              go_roundw
              case rel => exact ⟨i + 1, true, hi, ⟨s6, a6, m6, c6, a7, m7, c7, q⟩, y, by omega, by go_num, rfl, rfl, hE2⟩
              case measure => simp [intOf]; omega
            · have hsg : sgR (q - p.q) ≤ 0 := by exact sgR_le (by grind)
              have hE2 : EndL w w8 ((rs.take (i + 1)).map (pairN v)) true hi p y := { hE8 with ends := (by rw [HPT2.out]; exact hE8.ends.out.upKeep HA.out HV0.out (by grind) : EndsI ((rs.take (i + 1)).map (pairN v)) true hi p.q y.q) }
              generalize sgR (q - p.q) = sg at *
              have d3 : decide (0 < sg) = false := decide_eq_false (by omega)
              go_wp2_with fail
              go_roundw
              case rel => exact ⟨i + 1, true, hi, p, y, by omega, by go_num, rfl, rfl, hE2⟩
              case measure => simp [intOf]; omega
        · have d1 : decide (0 < a) = false := decide_eq_false hp
          have HA : Hid ((a : Rat) < (0 : Rat)) := Rat.intCast_neg_iff.2 (by omega)
          rcases hi with _ | _
          · have hE2 := hEU.setHi (l' := (rs.take (i + 1)).map (pairN v)) (hi' := true) ⟨s6, a6, m6, c6, a7, m7, c7, q⟩ gU HH.out (by rw [HPT2.out]; exact hEU.ends.out.downNew HA.out HV0.out (fun h9 => by cases h9))
            have b0 := hEU.bhi.cell 0
            have b1 := hEU.bhi.cell 1
            have b2 := hEU.bhi.cell 2
            simp at b0 b1 b2
            have bf0 := hEU.bhi.frozen 0
            have bf1 := hEU.bhi.frozen 1
            have bf2 := hEU.bhi.frozen 2
            have bz := hEU.bhi.lt
            have x0 := hxb.cell 0
            have x1 := hxb.cell 1
            have x2 := hxb.cell 2
            simp at x0 x1 x2
            have xf0 := hxb.frozen 0
            have xf1 := hxb.frozen 1
            have xf2 := hxb.frozen 2
            have xz := hxb.lt
            clear hxb gU hE6 hEU
            go_wp2_with fail
            go_roundw
            case rel => exact ⟨i + 1, lo, true, p, ⟨s6, a6, m6, c6, a7, m7, c7, q⟩, by omega, by go_num, rfl, rfl, hE2⟩
            case measure => simp [intOf]; omega
          · have hCM := frcmp_c U gU hEU.cy (by have := HH.out; omega) (by have := hEU.hy.out; omega)
            have b0 := hEU.bhi.cell 0
            have b1 := hEU.bhi.cell 1
            have b2 := hEU.bhi.cell 2
            simp at b0 b1 b2
            have bf0 := hEU.bhi.frozen 0
            have bf1 := hEU.bhi.frozen 1
            have bf2 := hEU.bhi.frozen 2
            have bz := hEU.bhi.lt
            have x0 := hxb.cell 0
            have x1 := hxb.cell 1
            have x2 := hxb.cell 2
            simp at x0 x1 x2
            have xf0 := hxb.frozen 0
            have xf1 := hxb.frozen 1
            have xf2 := hxb.frozen 2
            have xz := hxb.lt
            have HCM := Lib.hid hCM
            clear hCM
            go_wp2_with fail
            refine HCM.out.mono ?_
            rintro e w8 ⟨rfl, hb8⟩
            have hE8 := hEU.on hb8
            have g8 := gU.on hb8
            have hx8 := hxb.on hb8
            clear b0 b1 b2 bf0 bf1 bf2 bz x0 x1 x2 xf0 xf1 xf2 xz hEU gU hxb hE6
            have b0 := hE8.bhi.cell 0
            have b1 := hE8.bhi.cell 1
            have b2 := hE8.bhi.cell 2
            simp at b0 b1 b2
            have bf0 := hE8.bhi.frozen 0
            have bf1 := hE8.bhi.frozen 1
            have bf2 := hE8.bhi.frozen 2
            have bz := hE8.bhi.lt
            have x0 := hx8.cell 0
            have x1 := hx8.cell 1
            have x2 := hx8.cell 2
            simp at x0 x1 x2
            have xf0 := hx8.frozen 0
            have xf1 := hx8.frozen 1
            have xf2 := hx8.frozen 2
            have xz := hx8.lt
            by_cases hcmp : q < y.q
            · have hsg : sgR (q - y.q) = -1 := by exact sgR_neg (by grind)
              have hE2 := hE8.setHi (l' := (rs.take (i + 1)).map (pairN v)) (hi' := true) ⟨s6, a6, m6, c6, a7, m7, c7, q⟩ g8 HH.out (by rw [HPT2.out]; exact hE8.ends.out.downNew HA.out HV0.out (fun _ => by grind))
              rw [hsg]
              clear hsg
              go_wp2_with fail
              go_roundw
              case rel => exact ⟨i + 1, lo, true, p, ⟨s6, a6, m6, c6, a7, m7, c7, q⟩, by omega, by go_num, rfl, rfl, hE2⟩
              case measure => simp [intOf]; omega
            · have hsg : sgR (q - y.q) ≥ 0 := by exact sgR_ge (by grind)
              have hE2 : EndL w w8 ((rs.take (i + 1)).map (pairN v)) lo true p y := { hE8 with ends := (by rw [HPT2.out]; exact hE8.ends.out.downKeep HA.out HV0.out (by grind) : EndsI ((rs.take (i + 1)).map (pairN v)) lo true p.q y.q) }
              generalize sgR (q - y.q) = sg at *
              have d3 : decide (sg < 0) = false := decide_eq_false (by omega)
              go_wp2_with fail
              go_roundw
              case rel => exact ⟨i + 1, lo, true, p, y, by omega, by go_num, rfl, rfl, hE2⟩
              case measure => simp [intOf]; omega
    · have HEN : Hid (EndsI (rs.map (pairN v)) lo hi p.q y.q) := (by
        have h9 := hE.ends.out
        rwa [List.take_of_length_le (by have := HL.out; omega)] at h9 : EndsI (rs.map (pairN v)) lo hi p.q y.q)
      have HPX := hE.hx
      have r0 := hE.res.cell 0
      have r1 := hE.res.cell 1
      have r2 := hE.res.cell 2
      simp at r0 r1 r2
      have rf0 := hE.res.frozen 0
      have rf1 := hE.res.frozen 1
      have rf2 := hE.res.frozen 2
      have rz := hE.res.lt
      have b0 := hE.blo.cell 0
      have b1 := hE.blo.cell 1
      have b2 := hE.blo.cell 2
      simp at b0 b1 b2
      have bf0 := hE.blo.frozen 0
      have bf1 := hE.blo.frozen 1
      have bf2 := hE.blo.frozen 2
      have bz := hE.blo.lt
      have y0 := hE.bhi.cell 0
      have y1 := hE.bhi.cell 1
      have y2 := hE.bhi.cell 2
      simp at y0 y1 y2
      have yf0 := hE.bhi.frozen 0
      have yf1 := hE.bhi.frozen 1
      have yf2 := hE.bhi.frozen 2
      have yz := hE.bhi.lt
      rcases lo with _ | _
      · rcases hi with _ | _
        · have hcx := hE.cx
          have hbl := hE.below
          have hrs := hE.res
          go_wp2_with fail
          exact bodyPost_ret (v := .tuple #[.int .i64 3, .agg #[.bool false, .slice none 0 0, .slice none 0 0]]) (by simp [results, Tryz.results45, go_sem, *]) rfl
            ⟨3, ⟨false, none, 0, 0, none, 0, 0, 0⟩, rfl, ratC_zero _, (by show H 0 ≤ 2; rw [H_zero]; omega), below_box27 hbl (by omega) _ _ _, Or.inr (Or.inl ⟨rfl, HEN.out.free⟩)⟩
        · have hcx := hE.cx
          have hbl := hE.below
          have hrs := hE.res
          go_wp2_with fail
          exact bodyPost_ret (v := .tuple #[.int .i64 3, .agg #[.bool false, .slice none 0 0, .slice none 0 0]]) (by simp [results, Tryz.results45, go_sem, *]) rfl
            ⟨3, ⟨false, none, 0, 0, none, 0, 0, 0⟩, rfl, ratC_zero _, (by show H 0 ≤ 2; rw [H_zero]; omega), below_box27 hbl (by omega) _ _ _, Or.inr (Or.inl ⟨rfl, HEN.out.free⟩)⟩
      · rcases hi with _ | _
        · have hcx := hE.cx
          have hbl := hE.below
          have hrs := hE.res
          go_upto_region 22 with (fail)
          refine wp_region_T 2 (fun w' => w'.cell? ⟨w.heap.size + 1, 0, none⟩ = some (.bool p.s) ∧ w'.cell? ⟨w.heap.size + 1, 1, none⟩ = some (.slice p.a p.n p.c) ∧ w'.cell? ⟨w.heap.size + 1, 2, none⟩ = some (.slice p.a' p.n' p.c')) (by kernel_rfl) (by (try dsimp only); go_keep) (fun hHeld => ?_)
          refine wpT_take 0 (v := ?_) rfl (by kernel_rfl) (fun _ _ _ h => h) (by rfl) (by assumption) ?_ ?_
          rotate_left
          · (intro w9 hS9; (try dsimp only at hS9); go_simp; try with_reducible rfl)
          try simp only [Act.put, List.setIfInBounds_toArray, List.set_cons_zero, List.set_cons_succ]
          refine wpT_take 1 (v := ?_) rfl (by kernel_rfl) (fun _ _ _ h => h) (by rfl) (by assumption) ?_ ?_
          rotate_left
          · (intro w9 hS9; (try dsimp only at hS9); go_simp; try with_reducible rfl)
          try simp only [Act.put, List.setIfInBounds_toArray, List.set_cons_zero, List.set_cons_succ]
          refine wpT_last 2 rfl rfl (by kernel_rfl) (fun K hK => ?_)
          go_simp
          refine hK.out _ _ ?_
          clear hK K
          try simp only [Act.put, List.setIfInBounds_toArray, List.set_cons_zero, List.set_cons_succ]
          refine wpT_done (by kernel_rfl) ?_ _
          go_wp2_with fail
          exact bodyPost_ret (v := .tuple #[.int .i64 1, .agg #[.bool p.s, .slice p.a p.n p.c, .slice p.a' p.n' p.c']]) (by simp [results, Tryz.results45, go_sem, *]) rfl
            ⟨1, p, rfl, RatC.on (RatC.inR hcx hrs _ _ _) (Below.drewN (Below.refl _ _) 1), HPX.out, Below.drewN (below_box27 hbl (by omega) _ _ _) 1, Or.inr (Or.inr ⟨rfl, HEN.out.best (fun h9 => by cases h9)⟩)⟩
        · have HCM := Lib.hid (frcmp_c wr hE.cy hE.cx (by have := hE.hy.out; omega) (by have := hE.hx.out; omega))
          go_wp2_with fail
          refine HCM.out.mono ?_
          rintro e w8 ⟨rfl, hb8⟩
          have hE8 := hE.on hb8
          clear r0 r1 r2 rf0 rf1 rf2 rz b0 b1 b2 bf0 bf1 bf2 bz y0 y1 y2 yf0 yf1 yf2 yz
          have r0 := hE8.res.cell 0
          have r1 := hE8.res.cell 1
          have r2 := hE8.res.cell 2
          have b0 := hE8.blo.cell 0
          have b1 := hE8.blo.cell 1
          have b2 := hE8.blo.cell 2
          simp at r0 r1 r2 b0 b1 b2
          have rf0 := hE8.res.frozen 0
          have rf1 := hE8.res.frozen 1
          have rf2 := hE8.res.frozen 2
          have rz := hE8.res.lt
          have bz := hE8.blo.lt
          have hcx := hE8.cx
          have hbl := hE8.below
          have hrs := hE8.res
          clear hE
          by_cases hcmp : y.q < p.q
          · have hsg : sgR (y.q - p.q) = -1 := sgR_neg (by grind)
            have HNO : Hid (∀ t, ¬ HoldT (rs.map (pairN v)) t) := (HEN.out.none rfl rfl hcmp : ∀ t, ¬ HoldT (rs.map (pairN v)) t)
            rw [hsg]
            clear hsg hcmp
            go_wp2_with fail
            exact bodyPost_ret (v := .tuple #[.int .i64 2, .agg #[.bool false, .slice none 0 0, .slice none 0 0]]) (by simp [results, Tryz.results45, go_sem, *]) rfl
              ⟨2, ⟨false, none, 0, 0, none, 0, 0, 0⟩, rfl, ratC_zero _, (by show H 0 ≤ 2; rw [H_zero]; omega), below_box27 hbl (by omega) _ _ _, Or.inl ⟨rfl, HNO.out⟩⟩
          · have hsg : 0 ≤ sgR (y.q - p.q) := sgR_ge (by grind)
            have HBE := Lib.hid (HEN.out.best (fun _ => by grind))
            generalize sgR (y.q - p.q) = sg at *
            have d3 : decide (sg < 0) = false := decide_eq_false (by omega)
            clear hcmp
            go_upto_region 22 with (fail)
            refine wp_region_T 2 (fun w' => w'.cell? ⟨w.heap.size + 1, 0, none⟩ = some (.bool p.s) ∧ w'.cell? ⟨w.heap.size + 1, 1, none⟩ = some (.slice p.a p.n p.c) ∧ w'.cell? ⟨w.heap.size + 1, 2, none⟩ = some (.slice p.a' p.n' p.c')) (by kernel_rfl) (by (try dsimp only); go_keep) (fun hHeld => ?_)
            refine wpT_take 0 (v := ?_) rfl (by kernel_rfl) (fun _ _ _ h => h) (by rfl) (by assumption) ?_ ?_
            rotate_left
            · (intro w9 hS9; (try dsimp only at hS9); go_simp; try with_reducible rfl)
            try simp only [Act.put, List.setIfInBounds_toArray, List.set_cons_zero, List.set_cons_succ]
            refine wpT_take 1 (v := ?_) rfl (by kernel_rfl) (fun _ _ _ h => h) (by rfl) (by assumption) ?_ ?_
            rotate_left
            · (intro w9 hS9; (try dsimp only at hS9); go_simp; try with_reducible rfl)
            try simp only [Act.put, List.setIfInBounds_toArray, List.set_cons_zero, List.set_cons_succ]
            refine wpT_last 2 rfl rfl (by kernel_rfl) (fun K hK => ?_)
            go_simp
            refine hK.out _ _ ?_
            clear hK K
            try simp only [Act.put, List.setIfInBounds_toArray, List.set_cons_zero, List.set_cons_succ]
            refine wpT_done (by kernel_rfl) ?_ _
            go_wp2_with fail
            exact bodyPost_ret (v := .tuple #[.int .i64 1, .agg #[.bool p.s, .slice p.a p.n p.c, .slice p.a' p.n' p.c']]) (by simp [results, Tryz.results45, go_sem, *]) rfl
              ⟨1, p, rfl, RatC.on (RatC.inR hcx hrs _ _ _) (Below.drewN (Below.refl _ _) 1), HPX.out, Below.drewN (below_box27 hbl (by omega) _ _ _) 1, Or.inr (Or.inr ⟨rfl, HBE.out⟩)⟩
end Go.Proofs.YtledagemcknlcaaGreat
