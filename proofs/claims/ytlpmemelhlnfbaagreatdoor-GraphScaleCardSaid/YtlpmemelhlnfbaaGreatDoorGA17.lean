/- relucertref07.Scale, linear.Scale at a number that need not be canonical: what the calls return. rational.Div, relucertref03.Div at a divisor that need not be canonical: what the calls return. A graph of which a unit is scaled, plainly: valid, with the same outputs. graph.Scale, relucertref15.Scale, Equal, relucertlaw15.same: what the calls return; relucertlaw15.GraphScale returns true. -/
import Derived.Test.YtlpmemelhlnfbaaGreatDoorGA15
import Derived.Test.YtlpmemelhlnfbaaGreatDoorGA13
import Derived.Test.YtlpmemelhlnfbaaGreatDoorGA12
import Derived.Test.YtlpmemelhlnfbaaGreatDoorGA16
import Derived.Test.YtlpmemelhlnfbaaGreatDoorGA14
set_option linter.all false
set_option linter.all false
set_option maxRecDepth 100000
set_option maxHeartbeats 6400000
namespace Go.Proofs.YtlpmemelhlnfbaaGreatDoor
open Go.RowKit
attribute [local irreducible] run runL loopG exec

theorem mergeR_c {n : Nat} {f g : Form} {c : Raw} {b : Nat} (hF : ∀ t ∈ f.1, H t.2 ≤ b) (hG : ∀ t ∈ g.1, H t.2 ≤ b) (hb : b ≤ 1000000) (hR : RawB c) (hc : H c.q ≤ 1000000) (hk : H f.2 ≤ 1000000) (hk2 : H g.2 ≤ 1000000) (hlf : f.1.length ≤ 1000000) (hlg : g.1.length ≤ 1000000) :
    run (n + 1) 158 [formV f, formV g, .agg [.lit (.bool c.s), natA c.l1, natA c.l2]] = some (formV (mergeV f.1 g.1 c.q, f.2 + g.2 * c.q)) := by
  have hm := H_mul g.2 c.q
  have ha := H_add f.2 (g.2 * c.q)
  have hM := mgK_le _ f.1 g.1 (Nat.le_refl _)
  obtain ⟨b', hL, hI⟩ := loopG_R (O := tab (n + 1)) (P := Tryz.prog) (m := 0) (N := 113) (lives := livesOf 158) (r := 3) (C := mgR_C3) (exN := .exit 0) (M := mgK f.1 g.1) (enc := fun i (s : MgS) => mgR_h3 f g c s.l s.m s.out) (out := fun s => mgR_o3a f g c s.out)
    (fun i s => s.out ++ mergeV s.l s.m c.q = mergeV f.1 g.1 c.q ∧ mgK s.l s.m + i = mgK f.1 g.1 ∧ s.out.length ≤ i ∧ (∀ t ∈ s.l, H t.2 ≤ b) ∧ ∀ t ∈ s.m, H t.2 ≤ b) ⟨f.1, g.1, []⟩ ⟨rfl, rfl, by simp, hF, hG⟩ (by omega) (by simp)
    (fun i s hi hI => by
      obtain ⟨l, m, out⟩ := s
      obtain ⟨i1, i2, i3, i4, i5⟩ := hI
      dsimp only at i1 i2 i3 i4 i5 ⊢
      have fin : ∀ (l' m' : List (Int × Rat)) (v : Int) (q : Rat), mergeV l m c.q = put1 v q ++ mergeV l' m' c.q → mgK l m = 1 + mgK l' m' → (∀ t ∈ l', H t.2 ≤ b) → (∀ t ∈ m', H t.2 ≤ b) → ∀ (q' : Rat), q' = q →
          (out ++ put1 v q') ++ mergeV l' m' c.q = mergeV f.1 g.1 c.q ∧ mgK l' m' + (i + 1) = mgK f.1 g.1 ∧ (out ++ put1 v q').length ≤ i + 1 ∧ (∀ t ∈ l', H t.2 ≤ b) ∧ ∀ t ∈ m', H t.2 ≤ b := fun l' m' v q h1 h2 h3 h4 q' hq => by
        subst hq
        refine ⟨by rw [List.append_assoc, ← h1]; exact i1, by omega, ?_, h3, h4⟩
        have := put1_len v q'
        rw [List.length_append]; omega
      match l, m with
      | [], [] => rw [mgK_nil] at i2; simp at i2; omega
      | (v, q) :: l, [] =>
        have e := fin l [] v q (mergeV_a (v, q) l c.q) (by rw [mgK_a, mgK_one]; omega) (fun t ht => i4 t (by simp [ht])) i5 q rfl
        have hq : H q ≤ b := i4 (v, q) (by simp)
        by_cases h0 : q = 0
        · rw [put_no h0, List.append_nil] at e
          exact ⟨⟨l, [], out⟩, mgR_r3_1 (l_3 := (v, q) :: l) (by simp <;> omega) (by simp) rfl (pt_same (by omega) h0) ⟨by omega, by simp <;> omega⟩, e⟩
        · rw [put_yes h0] at e
          exact ⟨⟨l, [], out ++ [(v, q)]⟩, mgR_r3_2 (l_3 := (v, q) :: l) (by simp <;> omega) (by simp) rfl (pt_new (by omega) h0 (by omega)) ⟨by omega, by simp <;> omega⟩, e⟩
      | [], (u, p) :: m =>
        have e := fin [] m u (p * c.q) (mergeV_b (u, p) m c.q) (by rw [mgK_nil, mgK_nil, List.length_cons]; omega) i4 (fun t ht => i5 t (by simp [ht])) (p * c.q) rfl
        have hp : H p ≤ b := i5 (u, p) (by simp)
        have hpc := H_mul p c.q
        by_cases h0 : p * c.q = 0
        · rw [put_no h0, List.append_nil] at e
          exact ⟨⟨[], m, out⟩, mgR_r3_9 (l2_3 := (u, p) :: m) (by simp) (by simp <;> omega) rfl (by omega) hR (pt_same (by omega) h0) ⟨by omega, by simp <;> omega⟩, e⟩
        · rw [put_yes h0] at e
          exact ⟨⟨[], m, out ++ [(u, p * c.q)]⟩, mgR_r3_10 (l2_3 := (u, p) :: m) (by simp) (by simp <;> omega) rfl (by omega) hR (pt_new (by omega) h0 (by omega)) ⟨by omega, by simp <;> omega⟩, e⟩
      | (v, q) :: l, (u, p) :: m =>
        have hq : H q ≤ b := i4 (v, q) (by simp)
        have hp : H p ≤ b := i5 (u, p) (by simp)
        have hpc := H_mul p c.q
        have hqp := H_add q (p * c.q)
        have hk := mgK_ab (v, q) (u, p) l m
        dsimp only at hk
        by_cases c1 : v < u
        · rw [if_pos c1] at hk
          have e := fin l ((u, p) :: m) v q (mergeV_lt c1 l m c.q) hk (fun t ht => i4 t (by simp [ht])) i5 q rfl
          by_cases h0 : q = 0
          · rw [put_no h0, List.append_nil] at e
            exact ⟨⟨l, (u, p) :: m, out⟩, mgR_r3_3 (l_3 := (v, q) :: l) (l2_3 := (u, p) :: m) (by simp <;> omega) (by simp <;> omega) rfl rfl c1 (pt_same (by omega) h0) ⟨by omega, by simp <;> omega⟩, e⟩
          · rw [put_yes h0] at e
            exact ⟨⟨l, (u, p) :: m, out ++ [(v, q)]⟩, mgR_r3_4 (l_3 := (v, q) :: l) (l2_3 := (u, p) :: m) (by simp <;> omega) (by simp <;> omega) rfl rfl c1 (pt_new (by omega) h0 (by omega)) ⟨by omega, by simp <;> omega⟩, e⟩
        · rw [if_neg c1] at hk
          by_cases c2 : u < v
          · rw [if_pos c2] at hk
            have e := fin ((v, q) :: l) m u (p * c.q) (mergeV_gt c2 l m c.q) hk i4 (fun t ht => i5 t (by simp [ht])) (p * c.q) rfl
            by_cases h0 : p * c.q = 0
            · rw [put_no h0, List.append_nil] at e
              exact ⟨⟨(v, q) :: l, m, out⟩, mgR_r3_5 (l_3 := (v, q) :: l) (l2_3 := (u, p) :: m) (by simp <;> omega) (by simp <;> omega) rfl rfl c1 c2 (by omega) hR (pt_same (by omega) h0) ⟨by omega, by simp <;> omega⟩, e⟩
            · rw [put_yes h0] at e
              exact ⟨⟨(v, q) :: l, m, out ++ [(u, p * c.q)]⟩, mgR_r3_6 (l_3 := (v, q) :: l) (l2_3 := (u, p) :: m) (by simp <;> omega) (by simp <;> omega) rfl rfl c1 c2 (by omega) hR (pt_new (by omega) h0 (by omega)) ⟨by omega, by simp <;> omega⟩, e⟩
          · rw [if_neg c2] at hk
            have huv : v = u := by omega
            have e := fin l m v (q + p * c.q) (mergeV_eq huv l m c.q) hk (fun t ht => i4 t (by simp [ht])) (fun t ht => i5 t (by simp [ht])) (q + p * c.q) rfl
            by_cases h0 : q + p * c.q = 0
            · rw [put_no h0, List.append_nil] at e
              exact ⟨⟨l, m, out⟩, mgR_r3_7 (l_3 := (v, q) :: l) (l2_3 := (u, p) :: m) (by simp <;> omega) (by simp <;> omega) rfl rfl c1 c2 (by omega) hR (by omega) (by omega) (pt_same (by omega) h0) ⟨by omega, by simp <;> omega⟩ ⟨by omega, by simp <;> omega⟩, e⟩
            · rw [put_yes h0] at e
              exact ⟨⟨l, m, out ++ [(v, q + p * c.q)]⟩, mgR_r3_8 (l_3 := (v, q) :: l) (l2_3 := (u, p) :: m) (by simp <;> omega) (by simp <;> omega) rfl rfl c1 c2 (by omega) hR (by omega) (by omega) (pt_new (by omega) h0 (by omega)) ⟨by omega, by simp <;> omega⟩ ⟨by omega, by simp <;> omega⟩, e⟩)
    (fun s hI => by
      obtain ⟨l, m, out⟩ := s
      obtain ⟨_, i2, _⟩ := hI
      dsimp only at i2 ⊢
      have h0 : l = [] ∧ m = [] := by
        match l, m with
        | [], [] => exact ⟨rfl, rfl⟩
        | a :: l, [] => rw [mgK_a] at i2; omega
        | [], b :: m => rw [mgK_nil] at i2; simp at i2
        | a :: l, b :: m => rw [mgK_ab] at i2; omega
      obtain ⟨rfl, rfl⟩ := h0
      exact mgR_x3_1 (by simp) (by simp))
  obtain ⟨l, m, out⟩ := b'
  obtain ⟨i1, i2, _⟩ := hI
  dsimp only at i1 i2 hL
  have h0 : l = [] ∧ m = [] := by
    match l, m with
    | [], [] => exact ⟨rfl, rfl⟩
    | a :: l, [] => rw [mgK_a] at i2; omega
    | [], b :: m => rw [mgK_nil] at i2; simp at i2
    | a :: l, b :: m => rw [mgK_ab] at i2; omega
  obtain ⟨rfl, rfl⟩ := h0
  rw [mergeV_nil, List.append_nil] at i1
  subst i1
  exact mgR_f1 (by omega) hR (by omega) (by omega) hL
theorem psclR_c {n : Nat} {f : Form} {c : Raw} {b : Nat} (hF : ∀ t ∈ f.1, H t.2 ≤ b) (hb : b ≤ 1000000) (hk : H f.2 ≤ 1000000) (hR : RawB c) (hc : H c.q ≤ 1000000) (hlf : f.1.length ≤ 1000000) :
    run (n + 2) 84 [formV f, .agg [.lit (.bool c.s), natA c.l1, natA c.l2]] = some (formV (mergeV [] f.1 c.q, f.2 * c.q)) := by
  have h := mergeR_c (n := n) (f := ([], 0)) (g := f) (c := c) (b := b) (fun t ht => by cases ht) hF hb hR hc (by decide) hk (by simp) hlf
  rw [Rat.zero_add] at h
  refine lscR_f1 (n := n) ?_
  simpa using h
theorem scaleR_c {n : Nat} {f : Form} {c : Raw} (hT : TmB 1000000 f.1) (hF : f.1.length ≤ 400000) (hk : H f.2 ≤ 1000000) (hR : RawB c) (hc : H c.q ≤ 1000000) :
    run (n + 1) 87 [formV f, .agg [.lit (.bool c.s), natA c.l1, natA c.l2]] = some (formV (sclV f.1 c.q, f.2 * c.q)) := by
  have key : ∀ (R : List (Int × Rat)) (i : Nat) (o : List (Int × Rat)), foldI (fun _ b (t : Int × Rat) => b ++ put1 t.1 (t.2 * c.q)) i o R = o ++ sclV R c.q := fun R => by
    induction R with
    | nil => intro i o; simp [foldI, sclV]
    | cons t R ih => intro i o; rw [foldI, ih]; simp [sclV, List.append_assoc]
  refine scR_f1 (by omega) hR ?_
  have h := (loopG_I (O := tab (n + 1)) (exN := .exit 0) (L := f.1) (enc := fun i b => scR_h3 f c i b) (f := fun _ b (t : Int × Rat) => b ++ put1 t.1 (t.2 * c.q)) (Inv := fun i b => b.length ≤ i) (out := fun b => scR_o3a f c b) [] (by simp) (by omega) (by simp)
    (fun i t b hi hI => by
      obtain ⟨u, q⟩ := t
      have hlt := (List.getElem?_eq_some_iff.1 hi).1
      have hq : H q ≤ 1000000 := (hT _ (List.mem_of_getElem? hi)).2
      have hm := H_mul q c.q
      have C1 : (i : Int) < (f.1.length : Int) := by omega
      have W : InI ((i : Int) + 1) := ⟨by omega, by omega⟩
      have hl := put1_len u (q * c.q)
      refine ⟨?_, by rw [List.length_append]; dsimp only; omega⟩
      dsimp only
      by_cases h0 : q * c.q = 0
      · have e : put1 u (q * c.q) = [] := if_pos h0
        rw [e, List.append_nil]
        exact scR_r3_1 C1 hi (by omega) hR (nz_same (by omega) h0) W
      · have e : put1 u (q * c.q) = [(u, q * c.q)] := if_neg h0
        rw [e]
        exact scR_r3_2 C1 hi (by omega) hR (nz_new (by omega) h0 (by omega)) W) (fun b hI => scR_x3_1 (by omega))).1
  rw [key, List.nil_append] at h
  exact h
end Go.Proofs.YtlpmemelhlnfbaaGreatDoor
set_option linter.all false
set_option maxRecDepth 100000
namespace Go.Proofs.YtlpmemelhlnfbaaGreatDoor
open Go.RowKit
attribute [local irreducible] run runL loopG exec

theorem rat_div (s1 s2 : Bool) (n1 n2 d1 d2 : Nat) (hn : n2 ≠ 0) (h1 : d1 ≠ 0) (h2 : d2 ≠ 0) : mkRat (sgi (!(s1 == s2)) (n1 * d2)) (d1 * n2) = mkRat (sgi s1 n1) d1 / mkRat (sgi s2 n2) d2 := by
  have hy : mkRat (sgi s2 n2) d2 ≠ 0 := fun h => by
    rw [Rat.mkRat_eq_zero h2] at h
    have := sgi_natAbs s2 n2
    rw [h] at this
    simp at this
    omega
  have key : mkRat (sgi (!(s1 == s2)) (n1 * d2)) (d1 * n2) * mkRat (sgi s2 n2) d2 = mkRat (sgi s1 n1) d1 := by
    have e1 : sgi (!(s1 == s2)) (n1 * d2) * sgi s2 n2 = sgi s1 n1 * ((n2 * d2 : Nat) : Int) := by
      unfold sgi
      cases s1 <;> cases s2 <;> simp [Int.natCast_mul, Int.neg_mul, Int.mul_neg] <;> grind
    have e2 : d1 * n2 * d2 = d1 * (n2 * d2) := Nat.mul_assoc _ _ _
    rw [Rat.mkRat_mul_mkRat, e1, e2]
    exact Rat.mkRat_mul_right (Nat.mul_ne_zero hn h2)
  rw [← key]
  rw [Rat.div_def, Rat.mul_assoc, Rat.mul_inv_cancel _ hy, Rat.mul_one]
theorem unL_val (l : List Nat) : val (unL l) = dn l := by
  unfold unL dn
  split
  · rfl
  · rfl
theorem unL_lim {l : List Nat} (h : Lim l) : Lim (unL l) := by
  unfold unL
  split
  · rw [← lmb_one]; exact lim_lmb _
  · exact h
theorem unL_len (l : List Nat) : (unL l).length ≤ l.length + 1 := by
  unfold unL
  split <;> simp
theorem fewN_le {l : List Nat} (h : l.length ≤ 68719476736) : fewN l = true := Nat.ble_eq_true_of_le h
theorem oN1_run {G : List Nat → Bool} {F : List Nat → AV} {l : List Nat} (h1 : Lim l) (hx : fewN l = true) (hg : G l = true) : oN1 G F [natA l] = some (F l) := by
  unfold oN1
  simp only [decN_nat h1]
  rw [if_pos (by rw [hx, hg]; rfl)]
theorem oQt_run {b : Bool} {l m : List Nat} (h1 : Lim l) (h2 : Lim m) (hx : fewN l = true) (hy : fewN m = true) (h0 : 0 < val m) : oQt [.lit (.bool b), natA l, natA m] = some (ratV (mkRat (sgi b (val l)) (val m))) := by
  unfold oQt
  simp only [decN_nat h1, decN_nat h2]
  have h9 : Nat.blt 0 (val m) = true := Nat.ble_eq_true_of_le h0
  rw [if_pos (by rw [hx, hy, h9]; rfl)]
  rfl
theorem mul_few {a b : Nat} {k : Nat} (h : (lmb a).length + (lmb b).length ≤ 68719476736) : fewN (lmb (a * b)) = true := fewN_le (Nat.le_trans (lmb_len_mul a b) h)
theorem dn_few {l : List Nat} (h : Lim l) : (lmb (dn l)).length ≤ l.length + 1 := by
  unfold dn
  split
  · rw [lmb_one]; simp
  · exact Nat.le_trans (lmb_len_val h) (by omega)
theorem rawQ_val (a : Rat) : a = mkRat (sgi (rawQ a).s (val (rawQ a).l1)) (dn (rawQ a).l2) := by
  have h : (rawQ a).q = a := rawQ_q a
  unfold Raw.q sv at h
  exact h.symm
theorem div_fin (a : Rat) {c : Raw} (hn : val c.l1 ≠ 0) : mkRat (sgi (!((rawQ a).s == c.s)) (val (rawQ a).l1 * dn c.l2)) (dn (rawQ a).l2 * val c.l1) = a / c.q := by
  rw [rat_div _ _ _ _ _ _ hn (Nat.pos_iff_ne_zero.1 (dn_pos _)) (Nat.pos_iff_ne_zero.1 (dn_pos _)), ← rawQ_val]
  rfl
theorem num_ne {c : Raw} (h0 : c.q ≠ 0) : val c.l1 ≠ 0 := fun h => h0 (by unfold Raw.q sv; rw [h, sgi_zero]; simp)
theorem pdiv_c {n : Nat} {a : Rat} {c : Raw} (ha : H a ≤ 17179869184) (hR : RawB c) (h0 : c.q ≠ 0) :
    run (n + 6) 78 [ratV a, .agg [.lit (.bool c.s), natA c.l1, natA c.l2]] = some (.tup [ratV (a / c.q), .lit (.int .i64 0)]) := by
  have hA := rawB_q ha
  have hn := num_ne h0
  have b1 := hR.bn
  have b2 := hR.bd
  have b3 := hA.bn
  have b4 := hA.bd
  have u1 := unL_len c.l2
  have u2 := unL_len (rawQ a).l2
  have v1 := lmb_len_val hA.n
  have v2 := lmb_len_val (unL_lim hR.d)
  have v3 := lmb_len_val (unL_lim hA.d)
  have v4 := lmb_len_val hR.n
  refine dvR_f2 hR (fun h => h0 (sgR_eq_zero.1 h)) (rr_1 hR) (oN2_raw hA.n (unL_lim hR.d) (fewN_le (by omega)) (fewN_le (by omega))) (rr_1 hA) (oN2_raw (unL_lim hA.d) hR.n (fewN_le (by omega)) (fewN_le (by omega))) ?_
  rw [oQt_run (lim_lmb _) (lim_lmb _) (mul_few (k := 0) (by omega)) (mul_few (k := 0) (by omega)) (by rw [val_lmb, unL_val]; exact Nat.mul_pos (dn_pos _) (Nat.pos_of_ne_zero hn))]
  rw [val_lmb, val_lmb, unL_val, unL_val, div_fin a hn]
theorem fdiv_c {n : Nat} {a : Rat} {c : Raw} (ha : H a ≤ 17179869184) (hR : RawB c) (h0 : c.q ≠ 0) :
    run (n + 6) 86 [ratV a, .agg [.lit (.bool c.s), natA c.l1, natA c.l2]] = some (.tup [ratV (a / c.q), .lit (.int .i64 0)]) := by
  have hA := rawB_q ha
  have hn := num_ne h0
  have b1 := hR.bn
  have b2 := hR.bd
  have b3 := hA.bn
  have b4 := hA.bd
  have u1 := dn_few hR.d
  have u2 := dn_few hA.d
  have v1 := lmb_len_val hA.n
  have v4 := lmb_len_val hR.n
  have w1 : (lmb (val (lmb (dn c.l2)))).length = (lmb (dn c.l2)).length := by rw [val_lmb]
  have w2 : (lmb (val (lmb (dn (rawQ a).l2)))).length = (lmb (dn (rawQ a).l2)).length := by rw [val_lmb]
  refine fdR_f2 hR (fun h => h0 (sgR_eq_zero.1 h)) (oN1_run hR.d (fewN_le (by omega)) rfl) (oN2_raw hA.n (lim_lmb _) (fewN_le (by omega)) (fewN_le (by omega))) (oN1_run hA.d (fewN_le (by omega)) rfl) (oN2_raw (lim_lmb _) hR.n (fewN_le (by omega)) (fewN_le (by omega))) ?_
  rw [oQt_run (lim_lmb _) (lim_lmb _) (mul_few (k := 0) (by omega)) (mul_few (k := 0) (by omega)) (by rw [val_lmb, val_lmb]; exact Nat.mul_pos (dn_pos _) (Nat.pos_of_ne_zero hn))]
  rw [val_lmb, val_lmb, val_lmb, val_lmb, div_fin a hn]
end Go.Proofs.YtlpmemelhlnfbaaGreatDoor
set_option linter.all false
set_option maxRecDepth 100000
set_option maxHeartbeats 6400000
namespace Go.Proofs.YtlpmemelhlnfbaaGreatDoor
open Go.RowKit
attribute [local irreducible] run runL loopG exec

/-- a form in which a multiple stands for variable v -/
def sbv (v : Int) (inv : Rat) (f : Form) : Form := (addV (rst f.1 v) (sclV [(v, inv)] (cof f.1 v)), f.2)
def scf (c : Rat) (f : Form) : Form := (sclV f.1 c, f.2 * c)
def trf (v : Int) (c : Rat) (p : Nat) (f : Form) : Form := if (p : Int) = v then scf c f else sbv v (1 / c) f
def trU (v : Int) (c : Rat) : Nat → List Form → List Form
  | _, [] => []
  | p, f :: U => trf v c p f :: trU v c (p + 1) U
theorem trU_get (v : Int) (c : Rat) : ∀ (U : List Form) (p i : Nat), (trU v c p U)[i]? = (U[i]?).map (trf v c (p + i))
  | [], p, i => by simp [trU]
  | f :: U, p, 0 => rfl
  | f :: U, p, i + 1 => by
    rw [trU, List.getElem?_cons_succ, List.getElem?_cons_succ, trU_get v c U (p + 1) i, show p + 1 + i = p + (i + 1) from by omega]
theorem trU_len (v : Int) (c : Rat) : ∀ (U : List Form) (p : Nat), (trU v c p U).length = U.length
  | [], p => rfl
  | f :: U, p => by rw [trU, List.length_cons, List.length_cons, trU_len]
theorem trU_set {v : Int} {c : Rat} {U : List Form} {I j : Nat} {f : Form} (hv : v = (I : Int) + (j : Int)) (hf : U[j]? = some f) : (U.map (sbv v (1 / c))).set j (scf c f) = trU v c I U := by
  apply List.ext_getElem?
  intro i
  rw [trU_get, List.getElem?_set]
  have hlt := (List.getElem?_eq_some_iff.1 hf).1
  by_cases e : j = i
  · subst e
    rw [if_pos rfl, List.length_map, if_pos hlt, hf]
    unfold trf
    rw [Option.map_some, if_pos (by omega)]
  · rw [if_neg e, List.getElem?_map]
    cases U[i]? with
    | none => rfl
    | some g =>
      unfold trf
      rw [Option.map_some, Option.map_some, if_neg (by omega)]
/-- two lists of values that differ at v by the factor c -/
def Rel (v : Int) (c : Rat) (X Y : List Rat) : Prop := Y.length = X.length ∧ ∀ k : Nat, Y.getD k 0 = (if (k : Int) = v then c else 1) * X.getD k 0
theorem evS_rst {X : List Rat} {v : Int} : ∀ {F : List (Int × Rat)}, Srt F → evS X F = evS X (rst F v) + cof F v * X.getD v.toNat 0
  | [], _ => by
    have e : rst [] v = [] := rfl
    rw [e, cof_nil, evS]; grind
  | t :: F, h => by
    have ih := evS_rst (X := X) (v := v) h.tail
    by_cases e : t.1 = v
    · have e2 : cof F v = 0 := h.head.cof (by omega)
      rw [evS, ih, rst_eq e, cof_hd e.symm, e2, e]; grind
    · rw [evS, ih, rst_ne e, cof_tl (by omega), evS]; grind
theorem rst_not {F : List (Int × Rat)} {v : Int} {t : Int × Rat} (h : t ∈ rst F v) : t.1 ≠ v := by
  have := (List.mem_filter.1 h).2
  simpa using this
theorem one_srt {v : Int} {q : Rat} (h : q ≠ 0) : Srt [(v, q)] := ⟨by simp, fun t ht => by rw [List.mem_singleton.1 ht]; exact h⟩
theorem evS_sbv {X Y : List Rat} {v : Int} {c : Rat} {F : List (Int × Rat)} (hv : 0 ≤ v) (hc : c ≠ 0) (hR : Rel v c X Y) (h : Srt F) (h0 : ∀ t ∈ F, 0 ≤ t.1) : evS Y (addV (rst F v) (sclV [(v, 1 / c)] (cof F v))) = evS X F := by
  have hi : (1 / c : Rat) ≠ 0 := fun e => by
    have : c * (1 / c) = 1 := by grind
    rw [e] at this
    grind
  have e1 : evS Y (rst F v) = evS X (rst F v) := evS_ext fun t ht => by
    rw [hR.2, if_neg (by have := rst_not ht; have := h0 t (rst_mem ht); omega), Rat.one_mul]
  have e2 : evS Y [(v, 1 / c)] = X.getD v.toNat 0 := by
    have e3 := hR.2 v.toNat
    rw [if_pos (by omega)] at e3
    rw [evS, evS, e3]
    grind
  rw [evS_add (rst_srt h) (scl_srt (one_srt hi)).1, evS_scl, e1, e2, evS_rst (X := X) (v := v) h]
  grind
theorem evV_sbv {X Y : List Rat} {v : Int} {c : Rat} {f : Form} (hv : 0 ≤ v) (hc : c ≠ 0) (hR : Rel v c X Y) (h : Srt f.1) (h0 : ∀ t ∈ f.1, 0 ≤ t.1) : evV Y (sbv v (1 / c) f) = evV X f := by
  rw [evV_eq, evV_eq]
  show f.2 + evS Y (addV (rst f.1 v) (sclV [(v, 1 / c)] (cof f.1 v))) = _
  rw [evS_sbv hv hc hR h h0]
theorem max0_mul {c q : Rat} (hc : 0 < c) : max0 (c * q) = c * max0 q := by
  unfold max0
  by_cases h : 0 ≤ q
  · rw [if_pos h, if_pos (Rat.mul_nonneg (by grind) h)]
  · have h2 : c * q < 0 := by
      have h3 : 0 < -q := by grind
      have := Rat.mul_pos hc h3
      grind
    rw [if_neg h, if_neg (by grind)]
    grind
theorem getD_app {X : List Rat} {x : Rat} {k : Nat} : (X ++ [x]).getD k 0 = if k = X.length then x else X.getD k 0 := by
  rw [List.getD_eq_getElem?_getD, List.getD_eq_getElem?_getD]
  by_cases h : k < X.length
  · rw [List.getElem?_append_left h, if_neg (by omega)]
  · rw [List.getElem?_append_right (by omega)]
    by_cases e : k = X.length
    · subst e; simp
    · rw [if_neg e, List.getElem?_eq_none (by rw [List.length_singleton]; omega), List.getElem?_eq_none (by omega)]
theorem rel_step {v : Int} {c : Rat} {X Y : List Rat} {f : Form} (hv : 0 ≤ v) (hc : 0 < c) (hR : Rel v c X Y) (h : Srt f.1) (hb : InR X.length f.1) : Rel v c (X ++ [max0 (evV X f)]) (Y ++ [max0 (evV Y (trf v c X.length f))]) := by
  have hc0 : c ≠ 0 := by grind
  have h0 : ∀ t ∈ f.1, 0 ≤ t.1 := fun t ht => (hb t ht).1
  have key : max0 (evV Y (trf v c X.length f)) = (if (X.length : Int) = v then c else 1) * max0 (evV X f) := by
    unfold trf
    by_cases e : (X.length : Int) = v
    · rw [if_pos e, if_pos e]
      have e2 : evV Y (scf c f) = c * evV X f := by
        rw [evV_eq, evV_eq]
        show f.2 * c + evS Y (sclV f.1 c) = _
        rw [evS_scl, evS_ext (X := Y) (Y := X) fun t ht => ?_]
        · grind
        · rw [hR.2, if_neg (by have := hb t ht; omega), Rat.one_mul]
      rw [e2, max0_mul hc]
    · rw [if_neg e, if_neg e, evV_sbv hv hc0 hR h h0, Rat.one_mul]
  refine ⟨by rw [List.length_append, List.length_append, hR.1]; rfl, fun k => ?_⟩
  rw [getD_app, getD_app, hR.1]
  by_cases e : k = X.length
  · rw [if_pos e, if_pos e, key, e]
  · rw [if_neg e, if_neg e, hR.2]
theorem rel_val {v : Int} {c : Rat} (hv : 0 ≤ v) (hc : 0 < c) : ∀ {U : List Form} {X Y : List Rat}, Rel v c X Y → Back X.length U → (∀ f ∈ U, Srt f.1) → Rel v c (valV U X) (valV (trU v c X.length U) Y)
  | [], X, Y, hR, _, _ => hR
  | f :: U, X, Y, hR, hB, hS => by
    have h1 := rel_step hv hc hR (hS f (by simp)) hB.head
    have h2 := rel_val hv hc (U := U) h1 (by rw [List.length_append]; exact hB.tail) (fun g hg => hS g (by simp [hg]))
    rw [List.length_append] at h2
    rw [trU, valV_step, valV_step]
    exact h2
theorem rel_refl {v : Int} {c : Rat} {X : List Rat} (h : (X.length : Int) ≤ v) : Rel v c X X := ⟨rfl, fun k => by
  by_cases e : (k : Int) = v
  · rw [List.getD_eq_getElem?_getD, List.getElem?_eq_none (by omega)]; simp
  · rw [if_neg e, Rat.one_mul]⟩
/-! the new forms are canonical and small -/
theorem okF_of {f : Form} {vars : Int} (h : Srt f.1) (h0 : ∀ t ∈ f.1, 0 ≤ t.1 ∧ t.1 < vars) : OkFm f vars := fun i hi v c hx => by
  have hm := h0 _ (List.mem_of_getElem? hx)
  refine ⟨hm.1, hm.2, h.2 _ (List.mem_of_getElem? hx), fun v' c' hp hy => ?_⟩
  have h1 := (List.getElem?_eq_some_iff.1 hx)
  have h2 := (List.getElem?_eq_some_iff.1 hy)
  have h3 := List.pairwise_iff_getElem.1 h.1 (i - 1) i h2.1 h1.1 (by omega)
  rw [h1.2, h2.2] at h3
  exact h3
theorem sbv_srt {v : Int} {q : Rat} {f : Form} (hq : q ≠ 0) (h : Srt f.1) : Srt (sbv v q f).1 := (add_srt (rst_srt h) (scl_srt (one_srt hq)).1).1
theorem sbv_in {v : Int} {q : Rat} {f : Form} {k : Nat} (h : Srt f.1) (h0 : InR k f.1) : InR k (sbv v q f).1 := by
  show InR k (addV (rst f.1 v) (sclV [(v, q)] (cof f.1 v)))
  by_cases e : cof f.1 v = 0
  · have e2 : sclV [(v, q)] (cof f.1 v) = [] := by
      rw [e]
      unfold sclV
      simp [put1]
    rw [e2]
    exact h0.rst
  · refine (h0.rst).add (InR.scl fun t ht => ?_)
    rw [List.mem_singleton.1 ht]
    have : ∃ t ∈ f.1, t.1 = v := by
      false_or_by_contra
      rename_i h2
      exact e (cof_low fun t ht e3 => h2 ⟨t, ht, e3⟩)
    obtain ⟨u, hu, e9⟩ := this
    rw [← e9]
    exact h0 u hu
theorem sbv_bd {v : Int} {q : Rat} {f : Form} (hq : q ≠ 0) (hH : H q ≤ 2) (h : TmB 2 f.1) (hl : f.1.length ≤ 7) (hk : H f.2 ≤ 2) : BdF 10 (sbv v q f) ∧ (sbv v q f).1.length ≤ 8 := by
  have hc : H (cof f.1 v) ≤ 2 := cof_H (fun t ht => (h t ht).2) (by omega)
  have h1 : TmB 2 (rst f.1 v) := fun t ht => h t (rst_mem ht)
  have h2 : TmB 2 [(v, q)] := fun t ht => by rw [List.mem_singleton.1 ht]; exact ⟨hq, hH⟩
  have l1 := rst_len f.1 v
  have l2 := sclV_len (cof f.1 v) [(v, q)]
  have l3 := addV_len (sclV [(v, q)] (cof f.1 v)) (rst f.1 v)
  rw [List.length_singleton] at l2
  have hm : 5 * (sclV [(v, q)] (cof f.1 v)).length ≤ 5 * 1 := Nat.mul_le_mul_left _ l2
  have h3 : TmB 10 (sbv v q f).1 := (TmB.mono (h1.add (h2.scl hc)) (by omega))
  exact ⟨h3.bd (show (addV (rst f.1 v) (sclV [(v, q)] (cof f.1 v))).length ≤ _ by omega) (show H f.2 ≤ 10 by omega), show (addV (rst f.1 v) (sclV [(v, q)] (cof f.1 v))).length ≤ 8 by omega⟩
theorem scf_bd {c : Rat} {f : Form} (hH : H c ≤ 2) (h : TmB 2 f.1) (hl : f.1.length ≤ 7) (hk : H f.2 ≤ 2) : BdF 10 (scf c f) ∧ (scf c f).1.length ≤ 8 := by
  have l1 := sclV_len c f.1
  have h1 : TmB 10 (scf c f).1 := (h.scl hH).mono (by omega)
  have h2 := H_mul f.2 c
  exact ⟨h1.bd (show (sclV f.1 c).length ≤ _ by omega) (show H (f.2 * c) ≤ 10 by omega), show (sclV f.1 c).length ≤ 8 by omega⟩
theorem scf_srt {c : Rat} {f : Form} (h : Srt f.1) : Srt (scf c f).1 := (scl_srt h).1
theorem scf_in {c : Rat} {f : Form} {k : Nat} (h : InR k f.1) : InR k (scf c f).1 := h.scl
theorem trf_ok {v : Int} {c : Rat} {p k : Nat} {f : Form} (hc : 0 < c) (hS : Srt f.1) (h0 : InR k f.1) : OkFm (trf v c p f) (k : Int) := by
  have hi : (1 / c : Rat) ≠ 0 := fun e => by
    have : c * (1 / c) = 1 := by grind
    rw [e] at this
    grind
  unfold trf
  split
  · exact okF_of (scf_srt hS) (scf_in h0)
  · exact okF_of (sbv_srt hi hS) (sbv_in hS h0)
/-- the graph in which unit j is scaled -/
def sclG (g : TGraph) (j : Int) (c : Rat) : TGraph := ⟨g.Inputs, trU (g.Inputs + j) c g.Inputs.toNat g.Units, g.Outputs.map (sbv (g.Inputs + j) (1 / c))⟩
theorem SmF.srt {N : Nat} {f : Form} (h : SmF N f) : Srt f.1 := (h.ok (vars := N) (Int.le_refl _)).srt.1
theorem SmF.inr {N : Nat} {f : Form} (h : SmF N f) : InR N f.1 := (h.ok (vars := N) (Int.le_refl _)).srt.2
theorem SmF.tm {N : Nat} {f : Form} (h : SmF N f) : TmB 2 f.1 := fun t ht => ⟨h.srt.2 t ht, (h.l.each t ht).2.2.2⟩
theorem inv_pos {c : Rat} (hc : 0 < c) : (1 / c : Rat) ≠ 0 := fun e => by
  have : c * (1 / c) = 1 := by grind
  rw [e] at this
  grind
theorem sclG_ok {g : TGraph} {j : Int} {c : Rat} (hg : GrOk g) (hc : 0 < c) : OkGr (sclG g j c) := by
  have := hg.i0
  have := hg.i1
  have := hg.u
  have := hg.o0
  have := hg.o1
  have hl := trU_len (g.Inputs + j) c g.Units g.Inputs.toNat
  refine ⟨by show 1 ≤ g.Inputs; omega, by show g.Inputs ≤ 256; omega, ?_, ?_, ?_, ?_, ?_⟩
  · show ((trU _ _ _ _).length : Int) ≤ 1024; omega
  · show (1 : Int) ≤ ((g.Outputs.map _).length : Int); rw [List.length_map]; omega
  · show ((g.Outputs.map _).length : Int) ≤ 256; rw [List.length_map]; omega
  · intro i hi f hf
    replace hf : (trU (g.Inputs + j) c g.Inputs.toNat g.Units)[i]? = some f := hf
    rw [trU_get] at hf
    obtain ⟨f0, h0, rfl⟩ := Option.map_eq_some_iff.1 hf
    have h1 := hg.un i f0 h0
    have h2 := trf_ok (v := g.Inputs + j) (p := g.Inputs.toNat + i) hc h1.srt h1.inr
    rwa [show ((g.Inputs.toNat + i : Nat) : Int) = (sclG g j c).Inputs + (i : Int) from by show _ = g.Inputs + (i : Int); omega] at h2
  · intro f hf
    obtain ⟨f0, h0, rfl⟩ := List.mem_map.1 (show f ∈ g.Outputs.map (sbv (g.Inputs + j) (1 / c)) from hf)
    have h1 := hg.ou f0 h0
    have h2 := okF_of (sbv_srt (v := g.Inputs + j) (inv_pos hc) h1.srt) (sbv_in (v := g.Inputs + j) (q := 1 / c) h1.srt h1.inr)
    have e : ((g.Inputs.toNat + g.Units.length : Nat) : Int) = (sclG g j c).Inputs + ((sclG g j c).Units.length : Int) := by
      show _ = g.Inputs + ((trU _ _ _ _).length : Int)
      omega
    rw [← e]
    exact h2
theorem sclG_bd {g : TGraph} {j : Int} {c : Rat} (hg : GrOk g) (hc : 0 < c) (hH : H c ≤ 2) (hI : H (1 / c) ≤ 2) : BdG 10 (sclG g j c) ∧ (∀ f ∈ (sclG g j c).Units, f.1.length ≤ 8) ∧ ∀ f ∈ (sclG g j c).Outputs, f.1.length ≤ 8 := by
  have := hg.i0
  have := hg.i1
  have := hg.u
  have := hg.o1
  have hl := trU_len (g.Inputs + j) c g.Units g.Inputs.toNat
  have hU : ∀ f ∈ (sclG g j c).Units, BdF 10 f ∧ f.1.length ≤ 8 := fun f hf => by
    obtain ⟨i, hi⟩ := List.mem_iff_getElem?.1 (show f ∈ trU (g.Inputs + j) c g.Inputs.toNat g.Units from hf)
    rw [trU_get] at hi
    obtain ⟨f0, h0, rfl⟩ := Option.map_eq_some_iff.1 hi
    have h1 := hg.un i f0 h0
    have h2 := hg.lu f0 (List.mem_of_getElem? h0)
    unfold trf
    split
    · exact scf_bd hH h1.tm h2 h1.k
    · exact sbv_bd (inv_pos hc) hI h1.tm h2 h1.k
  have hO : ∀ f ∈ (sclG g j c).Outputs, BdF 10 f ∧ f.1.length ≤ 8 := fun f hf => by
    obtain ⟨f0, h0, rfl⟩ := List.mem_map.1 (show f ∈ g.Outputs.map (sbv (g.Inputs + j) (1 / c)) from hf)
    have h1 := hg.ou f0 h0
    exact sbv_bd (inv_pos hc) hI h1.tm (hg.lo f0 h0) h1.k
  exact ⟨⟨by show (trU _ _ _ _).length ≤ _; omega, by show (g.Outputs.map _).length ≤ _; rw [List.length_map]; omega, fun f hf => (hU f hf).1, fun f hf => (hO f hf).1⟩, fun f hf => (hU f hf).2, fun f hf => (hO f hf).2⟩
theorem sclG_out {g : TGraph} {j : Int} {c : Rat} {X : List Rat} (hg : GrOk g) (hj : 0 ≤ j) (hc : 0 < c) (hX : (X.length : Int) = g.Inputs) : ((sclG g j c).Outputs.map fun f => evV (valV (sclG g j c).Units X) f) = g.Outputs.map fun f => evV (valV g.Units X) f := by
  have hi0 := hg.i0
  have e : g.Inputs.toNat = X.length := by omega
  have hR := rel_val (v := g.Inputs + j) (by omega) hc (U := g.Units) (rel_refl (X := X) (c := c) (by omega)) (hg.ok.back hX) (fun f hf => by
    obtain ⟨i, hi⟩ := List.mem_iff_getElem?.1 hf
    exact (hg.un i f hi).srt)
  show List.map (fun f => evV (valV (trU (g.Inputs + j) c g.Inputs.toNat g.Units) X) f) (g.Outputs.map (sbv (g.Inputs + j) (1 / c))) = _
  rw [e, List.map_map]
  apply List.map_congr_left
  intro f hf
  have h1 := hg.ou f hf
  exact evV_sbv (by omega) (by grind) hR h1.srt fun t ht => (h1.inr t ht).1
end Go.Proofs.YtlpmemelhlnfbaaGreatDoor
set_option linter.all false
set_option maxRecDepth 100000
set_option maxHeartbeats 6400000
namespace Go.Proofs.YtlpmemelhlnfbaaGreatDoor
open Go.RowKit
attribute [local irreducible] run runL loopG exec gls

theorem fea_same {n : Nat} {L : List Form} (hl : L.length ≤ 100000000) (hB : ∀ f ∈ L, BdF 17179869184 f) : run (n + 1) 90 [.sl 4 (L.map formC), .sl 4 (L.map formC)] = some (.lit (.bool true)) := by
  refine fea_f3 rfl (loopG_I (O := tab (n + 1)) (P := Tryz.prog) (m := 0) (N := 27) (lives := livesOf 90) (r := 4) (C := fea_C4) (L := L) (f := fun _ (b : Unit) _ => b) (enc := fun i _ => fea_h4 L L i) (exN := .exit 0) (out := fun _ => fea_o4b) (Inv := fun _ _ => True) () trivial (by omega) (by simp)
    (fun i f b hi hI => by
      have hlt := (List.getElem?_eq_some_iff.1 hi).1
      have hf := hB f (List.mem_of_getElem? hi)
      have K := feq_c (n := n) hf hf
      rw [tv_t rfl] at K
      exact ⟨fea_r4_1 (by omega) hi hi K rfl ⟨by omega, by omega⟩, trivial⟩)
    (fun b hI => fea_x4_2 (by omega))).1
theorem rEq_same {n : Nat} {g : TGraph} (hB : BdG 17179869184 g) : run (n + 2) 24 [graphV g, graphV g] = some (.lit (.bool true)) :=
  rEq_f1 rfl (fea_same (n := n) hB.lu hB.u) rfl (fea_same (n := n) hB.lo hB.o)
theorem sal_same {n : Nat} {L : List Rat} (hl : L.length ≤ 100000000) (hB : ∀ q ∈ L, H q ≤ 17179869184) : run n 38 [.sl 3 (L.map ratC), .sl 3 (L.map ratC)] = some (.lit (.bool true)) := by
  refine sal_f3 rfl (loopG_I (O := tab n) (P := Tryz.prog) (m := 0) (N := 27) (lives := livesOf 38) (r := 4) (C := sal_C4) (L := L) (f := fun _ (b : Unit) _ => b) (enc := fun i _ => sal_h4 L L i) (exN := .exit 0) (out := fun _ => sal_o4b) (Inv := fun _ _ => True) () trivial (by omega) (by simp)
    (fun i x b hi hI => by
      have hlt := (List.getElem?_eq_some_iff.1 hi).1
      have hx := hB x (List.mem_of_getElem? hi)
      exact ⟨sal_r4_1 (by omega) hi hi hx hx rfl ⟨by omega, by omega⟩, trivial⟩)
    (fun b hI => sal_x4_2 (by omega))).1
/-- the bounds of c and of its inverse -/
theorem two_H {c : Raw} (h1 : c.l1.length ≤ 2) (h2 : c.l2.length ≤ 2) (hR : RawB c) (h0 : c.q ≠ 0) : H c.q ≤ 2 ∧ H (1 / c.q) ≤ 2 := by
  have hn := num_ne h0
  have a1 := lmb_len_val hR.n
  have a2 : (lmb (dn c.l2)).length ≤ 2 := by
    unfold dn
    split
    · rw [lmb_one]; simp
    · have := lmb_len_val hR.d; omega
  refine ⟨?_, ?_⟩
  · have h := H_mk (sgi c.s (val c.l1)) (D := dn c.l2) (dn_pos _)
    rw [sgi_natAbs] at h
    show H (sv c.s c.l1 c.l2) ≤ 2
    unfold sv
    omega
  · have e := div_fin 1 (c := c) hn
    have h := H_mk (sgi (!((rawQ 1).s == c.s)) (val (rawQ 1).l1 * dn c.l2)) (D := dn (rawQ 1).l2 * val c.l1) (Nat.mul_pos (dn_pos _) (Nat.pos_of_ne_zero hn))
    rw [e, sgi_natAbs] at h
    have e1 : val (rawQ 1).l1 = 1 := by decide +kernel
    have e2 : dn (rawQ 1).l2 = 1 := by decide +kernel
    rw [e1, e2, Nat.one_mul, Nat.one_mul] at h
    omega
section
variable {n : Nat} {g : TGraph} {j : Int} {c : Raw}
theorem sbt_c (hR : RawB c) {L : List Form} {v : Int} {q : Rat} (hq : q ≠ 0) (hH : H q ≤ 2) (hl : L.length ≤ 100000) (hL : ∀ f ∈ L, TmB 2 f.1 ∧ Srt f.1 ∧ H f.2 ≤ 2 ∧ f.1.length ≤ 7) :
    runL (n + 4) 89 [.sl 4 (L.map formC), .lit (.int .i64 v), formV ([(v, q)], 0)] [] = some (.own 0 (L.map (sbv v q)).length, [(0, .row 29 4 ((L.map (sbv v q)).map formC) 0)]) := by
  have h2 : TmB 2 [(v, q)] := fun t ht => by rw [List.mem_singleton.1 ht]; exact ⟨hq, hH⟩
  have L1 := (loopG_I (O := tab (n + 4)) (P := Tryz.prog) (m := 0) (N := 26) (lives := livesOf 89) (r := 3) (C := sbt_C3) (L := L) (f := fun _ o f => o ++ [sbv v q f]) (enc := fun i o => sbt_h3 L v ([(v, q)], 0) o i) (exN := .exit 0) (out := fun o => sbt_o3a o) (Inv := fun i o => o.length = i) [] rfl (by omega) (by simp)
    (fun i f o hi hI => by
      have hlt := (List.getElem?_eq_some_iff.1 hi).1
      obtain ⟨t1, t2, t3, t4⟩ := hL f (List.mem_of_getElem? hi)
      have K := fsbG_c (n := n) (f := f) (g := ([(v, q)], 0)) (v := v) t2 (t1.mono (by omega)) (h2.mono (by omega)) (by omega) (by show H 0 ≤ 100; decide) (by omega) (by simp)
      have e : f.2 + (([(v, q)], 0) : Form).2 * cof f.1 v = f.2 := by show f.2 + 0 * _ = _; rw [Rat.zero_mul, Rat.add_zero]
      rw [e] at K
      exact ⟨sbt_r3_1 (r3 := sbv v q f) (by omega) hi K (by omega) ⟨by omega, by omega⟩, by rw [List.length_append, hI]; rfl⟩)
    (fun o hI => sbt_x3_1 (by omega))).1
  have key : ∀ (R : List Form) (i : Nat) (o : List Form), foldI (fun _ o f => o ++ [sbv v q f]) i o R = o ++ R.map (sbv v q) := fun R => by
    induction R with
    | nil => intro i o; simp [foldI]
    | cons x R ih => intro i o; rw [foldI, ih]; simp
  rw [key, List.nil_append] at L1
  exact sbt_f1 L1
theorem each_c {L : List Form} {v : Int} {q : Rat} (hq : q ≠ 0) (hH : H q ≤ 2) (hl : L.length ≤ 100000) (hL : ∀ f ∈ L, TmB 2 f.1 ∧ Srt f.1 ∧ H f.2 ≤ 2 ∧ f.1.length ≤ 7) :
    runL (n + 4) 83 [.sl 4 (L.map formC), .clo 80 [.mem [.lit (.int .i64 v)], .mem [.lit (.bool (rawQ q).s), natA (rawQ q).l1, natA (rawQ q).l2]]] [] = some (.own 0 (L.map (sbv v q)).length, [(0, .row 29 4 ((L.map (sbv v q)).map formC) 0)]) := by
  have h2 : ∀ t ∈ [(v, q)], H t.2 ≤ 2 := fun t ht => by rw [List.mem_singleton.1 ht]; exact hH
  have L1 := (loopG_I (O := tab (n + 4)) (P := Tryz.prog) (m := 0) (N := 22) (lives := livesOf 83) (r := 3) (C := each_C3) (L := L) (f := fun _ o f => o ++ [sbv v q f]) (enc := fun i o => each_h3 L v q o i) (exN := .exit 0) (out := fun o => each_o3a o) (Inv := fun i o => o.length = i) [] rfl (by omega) (by simp)
    (fun i f o hi hI => by
      have hlt := (List.getElem?_eq_some_iff.1 hi).1
      obtain ⟨t1, t2, t3, t4⟩ := hL f (List.mem_of_getElem? hi)
      have K := lsb_c (n := n) (f := f) (g := ([(v, q)], 0)) (v := v) (b := 2) t2 (fun t ht => (t1 t ht).2) h2 (by omega) (by omega) (by omega) (by show H 0 ≤ 1000000; decide) (by omega) (by simp)
      have e : f.2 + (([(v, q)], 0) : Form).2 * cof f.1 v = f.2 := by show f.2 + 0 * _ = _; rw [Rat.zero_mul, Rat.add_zero]
      rw [e] at K
      have e2 : mergeV (rst f.1 v) (([(v, q)], 0) : Form).1 (cof f.1 v) = (sbv v q f).1 := merge_add (rst_srt t2) (one_srt hq)
      rw [e2] at K
      have V := gvr_f1 (n := n + 2) (a0 := v) (a1 := q)
      have V2 : run (n + 2) 82 [.lit (.int .i64 v), ratV q] = some (formV ([(v, q)], 0)) := by rw [V]; simp
      have S := gsc_f1 (n := n) (a0 := f) (c0 := v) (c1 := q) (r := ([(v, q)], 0)) (r2 := sbv v q f) V2 K
      exact ⟨each_r3_1 (r3 := sbv v q f) (by omega) hi S (by omega) ⟨by omega, by omega⟩, by rw [List.length_append, hI]; rfl⟩)
    (fun o hI => each_x3_1 (by omega))).1
  have key : ∀ (R : List Form) (i : Nat) (o : List Form), foldI (fun _ o f => o ++ [sbv v q f]) i o R = o ++ R.map (sbv v q) := fun R => by
    induction R with
    | nil => intro i o; simp [foldI]
    | cons x R ih => intro i o; rw [foldI, ih]; simp
  rw [key, List.nil_append] at L1
  exact each_f1 L1
theorem GrOk.uu (hg : GrOk g) : ∀ f ∈ g.Units, TmB 2 f.1 ∧ Srt f.1 ∧ H f.2 ≤ 2 ∧ f.1.length ≤ 7 := fun f hf => by
  obtain ⟨i, hi⟩ := List.mem_iff_getElem?.1 hf
  have h := hg.un i f hi
  exact ⟨h.tm, h.srt, h.k, hg.lu f hf⟩
theorem GrOk.oo (hg : GrOk g) : ∀ f ∈ g.Outputs, TmB 2 f.1 ∧ Srt f.1 ∧ H f.2 ≤ 2 ∧ f.1.length ≤ 7 := fun f hf => ⟨(hg.ou f hf).tm, (hg.ou f hf).srt, (hg.ou f hf).k, hg.lo f hf⟩
/-- what both return -/
noncomputable def sclE (g : TGraph) (j : Int) (c : Raw) : Int := if ¬ 0 < c.q then 1 else if j < 0 ∨ (g.Units.length : Int) ≤ j then 2 else 0
noncomputable def sclR (g : TGraph) (j : Int) (c : Raw) : TGraph := if sclE g j c = 0 then sclG g j c.q else ⟨0, [], []⟩
theorem sclE_1 (h : ¬ 0 < c.q) : sclE g j c = 1 := if_pos h
theorem sclE_2 (hc : 0 < c.q) (h : j < 0 ∨ (g.Units.length : Int) ≤ j) : sclE g j c = 2 := by
  unfold sclE
  rw [if_neg (fun k => k hc), if_pos h]
theorem sclE_0 (hc : 0 < c.q) (h : ¬ (j < 0 ∨ (g.Units.length : Int) ≤ j)) : sclE g j c = 0 := by
  unfold sclE
  rw [if_neg (fun k => k hc), if_neg h]
theorem sclR_e {k : Int} (h : sclE g j c = k) (hk : k ≠ 0) : sclR g j c = ⟨0, [], []⟩ := if_neg (by rw [h]; exact hk)
theorem sclR_0 (h : sclE g j c = 0) : sclR g j c = sclG g j c.q := if_pos h
theorem zero_gr : graphV ⟨0, [], []⟩ = .agg [.lit (.int .i64 0), .sl 4 [], .sl 4 []] := by simp
theorem fscl_c (hg : GrOk g) (hR : RawB c) (h1 : c.l1.length ≤ 2) (h2 : c.l2.length ≤ 2) (hj : InI j) :
    run (n + 7) 23 [graphV g, .lit (.int .i64 j), .agg [.lit (.bool c.s), natA c.l1, natA c.l2]] = some (.tup [graphV (sclR g j c), .lit (.int .i64 (sclE g j c))]) := by
  have i0 := hg.i0
  have i1 := hg.i1
  have hu := hg.u
  have ho := hg.o1
  have K1 := validG_c (n := n + 4) (hg.bd.mono (by omega))
  rw [tv_t hg.ok] at K1
  by_cases hc : 0 < c.q
  · have hs : ¬ sgR c.q ≤ 0 := fun h => by have := sgq_nonpos.1 h; grind
    have h0 : c.q ≠ 0 := by grind
    have U1 := validG_c (n := n + 3) (hg.bd.mono (by omega))
    rw [tv_t hg.ok] at U1
    by_cases c1 : j < 0
    · have e := sclE_2 (g := g) hc (.inl c1)
      rw [e, sclR_e e (by decide), zero_gr]
      exact fSc_f3 K1 rfl hR hs (unt_f2 U1 rfl c1) (by decide)
    by_cases c2 : (g.Units.length : Int) ≤ j
    · have e := sclE_2 (g := g) hc (.inr c2)
      rw [e, sclR_e e (by decide), zero_gr]
      exact fSc_f3 K1 rfl hR hs (unt_f3 U1 rfl c1 c2) (by decide)
    have e := sclE_0 (g := g) (j := j) hc (by omega)
    rw [e, sclR_0 e]
    obtain ⟨hH, hI⟩ := two_H h1 h2 hR h0
    have hq := inv_pos hc
    obtain ⟨F, hF⟩ : ∃ F, g.Units[j.toNat]? = some F := ⟨_, List.getElem?_eq_getElem (by omega)⟩
    have hFm := List.mem_of_getElem? hF
    obtain ⟨f1, f2, f3, f4⟩ := hg.uu F hFm
    have D := fdiv_c (n := n) (a := ofQ 1) (c := c) (by decide +kernel) hR h0
    have e2 : (ofQ 1 : Rat) = 1 := by decide +kernel
    rw [e2] at D
    have V := var_c (n := n + 6) (g.Inputs + j)
    have S := scale_c (n := n + 5) (f := ([(g.Inputs + j, 1)], 0)) (c := 1 / c.q) (fun t ht => by rw [List.mem_singleton.1 ht]; exact ⟨by grind, by show H 1 ≤ 1000000; decide⟩) (by simp) (by show H 0 ≤ 1000000; decide) (by omega)
    have e3 : (sclV (([(g.Inputs + j, 1)], 0) : Form).1 (1 / c.q), (([(g.Inputs + j, 1)], 0) : Form).2 * (1 / c.q)) = (([(g.Inputs + j, 1 / c.q)], 0) : Form) := by
      have : sclV [(g.Inputs + j, 1)] (1 / c.q) = [(g.Inputs + j, 1 / c.q)] := by
        unfold sclV put1
        simp only [List.flatMap_cons, List.flatMap_nil, List.append_nil, Rat.one_mul]
        rw [if_neg hq]
      dsimp only
      rw [this, Rat.zero_mul]
    rw [e3] at S
    have B1 := sbt_c (n := n + 2) hR (L := g.Units) (v := g.Inputs + j) hq hI (by omega) hg.uu
    have B2 := sbt_c (n := n + 2) hR (L := g.Outputs) (v := g.Inputs + j) hq hI (by omega) hg.oo
    have T := scaleR_c (n := n + 5) (f := F) (c := c) (f1.mono (by omega)) (by omega) (by omega) hR (by omega)
    have G := trU_set (v := g.Inputs + j) (c := c.q) (U := g.Units) (I := g.Inputs.toNat) (j := j.toNat) (f := F) (by omega) hF
    have R := fSc_f4 (a0 := g) (a1 := j) (a2 := c) (F := F.1) (q := F.2) (r7 := scf c.q F) K1 rfl hR hs (unt_f4 U1 rfl c1 c2) rfl (by rw [e2]; exact D) ⟨by omega, by omega⟩ V S B1 B2 hF (by omega) T (by rw [List.length_map]; omega) (by omega)
    rw [G] at R
    exact R
  · have e1 := sclE_1 (g := g) (j := j) hc
    rw [e1, sclR_e e1 (by decide), zero_gr]
    exact fSc_f2 K1 rfl hR (sgq_nonpos.2 (by grind))
theorem gscl_c (hg : GrOk g) (hR : RawB c) (h1 : c.l1.length ≤ 2) (h2 : c.l2.length ≤ 2) (hj : InI j) :
    run (n + 7) 21 [graphV g, .lit (.int .i64 j), .agg [.lit (.bool c.s), natA c.l1, natA c.l2]] = some (.tup [graphV (sclR g j c), .lit (.int .i64 (sclE g j c))]) := by
  have i0 := hg.i0
  have i1 := hg.i1
  have hu := hg.u
  have ho := hg.o1
  have K1 := gvalid_c (n := n) (hg.bd.mono (by omega))
  rw [tv_t hg.ok] at K1
  by_cases hc : 0 < c.q
  · have hs : decide (0 < sgR c.q) = true := decide_eq_true (sgq_pos.2 hc)
    have h0 : c.q ≠ 0 := by grind
    by_cases c1 : j < 0
    · have e := sclE_2 (g := g) hc (.inl c1)
      rw [e, sclR_e e (by decide), zero_gr]
      exact gSc_f1 hR (gck_f3 K1 rfl hs c1) (by decide)
    by_cases c2 : (g.Units.length : Int) ≤ j
    · have e := sclE_2 (g := g) hc (.inr c2)
      rw [e, sclR_e e (by decide), zero_gr]
      exact gSc_f1 hR (gck_f4 K1 rfl hs c1 c2) (by decide)
    have e := sclE_0 (g := g) (j := j) hc (by omega)
    rw [e, sclR_0 e]
    obtain ⟨hH, hI⟩ := two_H h1 h2 hR h0
    have hq := inv_pos hc
    obtain ⟨F, hF⟩ : ∃ F, g.Units[j.toNat]? = some F := ⟨_, List.getElem?_eq_getElem (by omega)⟩
    have hFm := List.mem_of_getElem? hF
    obtain ⟨f1, f2, f3, f4⟩ := hg.uu F hFm
    have D := pdiv_c (n := n) (a := ofQ 1) (c := c) (by decide +kernel) hR h0
    have e2 : (ofQ 1 : Rat) = 1 := by decide +kernel
    rw [e2] at D
    have B1 := each_c (n := n + 2) (L := g.Units) (v := g.Inputs + j) hq hI (by omega) hg.uu
    have B2 := each_c (n := n + 2) (L := g.Outputs) (v := g.Inputs + j) hq hI (by omega) hg.oo
    have T := psclR_c (n := n + 4) (f := F) (c := c) (b := 2) (fun t ht => (f1 t ht).2) (by omega) (by omega) hR (by omega) (by omega)
    rw [merge_scl] at T
    have G := trU_set (v := g.Inputs + j) (c := c.q) (U := g.Units) (I := g.Inputs.toNat) (j := j.toNat) (f := F) (by omega) hF
    have R := gSc_f2 (a0 := g) (a1 := j) (a2 := c) (F := F.1) (q := F.2) (r4 := scf c.q F) hR (gck_f5 K1 rfl hs c1 c2) rfl ⟨by omega, by omega⟩ (by rw [e2]; exact D) B1 B2 hF (by omega) T (by rw [List.length_map]; omega) (by omega)
    rw [G] at R
    exact R
  · have e1 := sclE_1 (g := g) (j := j) hc
    have hs : decide (0 < sgR c.q) = false := decide_eq_false (fun h => hc (sgq_pos.1 h))
    rw [e1, sclR_e e1 (by decide), zero_gr]
    exact gSc_f1 hR (gck_f2 K1 rfl hs) (by decide)
theorem gscl_zero (hR : RawB c) : run (n + 7) 21 [.agg [.lit (.int .i64 0), .sl 4 [], .sl 4 []], .lit (.int .i64 j), .agg [.lit (.bool c.s), natA c.l1, natA c.l2]] = some (.tup [graphV ⟨0, [], []⟩, .lit (.int .i64 1)]) := by
  have hB : BdG 17179869184 ⟨0, [], []⟩ := ⟨by simp, by simp, fun f hf => (by cases hf), fun f hf => (by cases hf)⟩
  have K1 := gvalid_c (n := n) hB
  rw [tv_f (fun h => by have := h.i0; simp at this)] at K1
  have R := gSc_f1 (a0 := ⟨0, [], []⟩) (a1 := j) hR (gck_f1 K1 rfl) (by decide)
  rw [← zero_gr]
  rw [← zero_gr] at R
  exact R
end
theorem scale_true {n : Nat} {bs : List Int} {j : Int} {c : Raw} (hbs : ∀ x ∈ bs, 0 ≤ x ∧ x < 256) (hj : InI j) (hl : Lim c.l1 ∧ Lim c.l2) : gls n [.sl 1 (bs.map intU8C), .lit (.int .i64 j), .agg [.lit (.bool c.s), natA c.l1, natA c.l2]] = some (.lit (.bool true)) := by
  by_cases c1 : 400 < (bs.length : Int)
  · exact gls_f1 c1
  by_cases c2 : ¬ (c.l1.length : Int) ≤ 2
  · exact gls_f2 c1 (shR_f2 c2) rfl
  replace c2 := Classical.not_not.1 c2
  have K2 := shR_f1 (n := n + 9) c2
  by_cases c3 : ¬ (c.l2.length : Int) ≤ 2
  · rw [decide_eq_false c3] at K2
    exact gls_f2 c1 K2 rfl
  replace c3 := Classical.not_not.1 c3
  rw [decide_eq_true c3] at K2
  have hR : RawB c := ⟨hl.1, hl.2, by omega, by omega⟩
  obtain ⟨g, K4, hg⟩ := small15_c (n := n + 4) ⟨by omega, hbs⟩ (by omega)
  have i0 := hg.i0
  have i1 := hg.i1
  have hu := hg.u
  have ho := hg.o1
  have K5 := cpy_f1 (n := n + 9) (a0 := g) (by omega) (by omega)
  have K6 := gscl_c (n := n + 2) hg hR (by omega) (by omega) hj
  have K7 := fscl_c (n := n + 2) hg hR (by omega) (by omega) hj
  have K11 := gscl_zero (n := n + 2) (j := j) hR
  by_cases c4 : sclE g j c = 0
  · have hc : 0 < c.q := by
      unfold sclE at c4
      false_or_by_contra
      rename_i h
      rw [if_pos h] at c4
      exact absurd c4 (by decide)
    have hj0 : 0 ≤ j := by
      unfold sclE at c4
      rw [if_neg (fun h => h hc)] at c4
      split at c4
      · exact absurd c4 (by decide)
      · omega
    have eG : sclR g j c = sclG g j c.q := if_pos c4
    obtain ⟨hH, hI⟩ := two_H (c := c) (by omega) (by omega) hR (by grind)
    obtain ⟨bd, lu, lo⟩ := sclG_bd (j := j) hg hc hH hI
    have ok := sclG_ok (j := j) hg hc
    rw [eG] at K6 K7
    have K9 := rEq_same (n := n + 7) (bd.mono (by omega))
    have K14 := validG_c (n := n + 7) (bd.mono (by omega))
    rw [tv_t ok] at K14
    obtain ⟨X, K16, hX, hXb⟩ := point_c (n := n + 7) ⟨by omega, hbs⟩ (by omega) (I := g.Inputs) (by omega) (by omega)
    have lU : (sclG g j c.q).Units.length = g.Units.length := trU_len _ _ _ _
    have hb : bndV 10 8 2 ((sclG g j c.q).Units.length + 1) ≤ 100000000 := Nat.le_trans (bndV_mono 10 8 2 (j := 5) (by omega)) (by decide)
    have O1 := fouts_c (n := n + 3) (g := sclG g j c.q) (X := X) (a := 10) (l := 8) (b := 2) ok bd (by omega) lu lo hX hXb hb
    have hb2 : bndV 2 7 2 (g.Units.length + 1) ≤ 100000000 := Nat.le_trans hg.bnd (by omega)
    have O2 := fouts_c (n := n + 3) (g := g) (X := X) (a := 2) (l := 7) (b := 2) hg.ok hg.bd (by omega) hg.lu hg.lo hX hXb hb2
    rw [sclG_out hg hj0 hc hX] at O1
    have Q := sal_same (n := n + 8) (L := g.Outputs.map fun f => evV (valV g.Units X) f) (by rw [List.length_map]; omega) (fun q hq => by
      obtain ⟨f, hf, rfl⟩ := List.mem_map.1 hq
      have := O2.2 f hf
      omega)
    exact gls_f6 c1 K2 rfl K4 K5 K6 K7 rfl K9 rfl K11 rfl c4 K14 rfl K16 (sme_f1 O1.1 O2.1 rfl rfl Q)
  · have eG : sclR g j c = ⟨0, [], []⟩ := if_neg c4
    rw [eG] at K6 K7
    have hB : BdG 17179869184 ⟨0, [], []⟩ := ⟨by simp, by simp, fun f hf => (by cases hf), fun f hf => (by cases hf)⟩
    exact gls_f5 c1 K2 rfl K4 K5 K6 K7 rfl (rEq_same (n := n + 7) hB) rfl K11 rfl c4
end Go.Proofs.YtlpmemelhlnfbaaGreatDoor
