import Derived.Test.YtlpmemelhlnfbaaGreatDoorGA19
import Derived.Test.YtlpmemelhlnfbaaGreatDoorGA20
import Derived.Test.YtlpmemelhlnfbaaGreatDoorGA21
import Derived.Test.YtlpmemelhlnfbaaGreatDoorGA16
set_option linter.all false
set_option maxRecDepth 100000
namespace Go.Proofs.YtlpmemelhlnfbaaGreatDoor
open Go.RowKit
attribute [local irreducible] run runL loopG exec
theorem lmk_in {n : Nat} {a1 : Rat} {R out : List (Int × Rat)} {i b : Nat} {v : Int} {q : Rat} (hl : R.length ≤ 1000) (hT : ∀ t ∈ R, H t.2 ≤ b) (hb : b ≤ 100000) (hv : R[i]? = some (v, q)) :
    ∃ (j : Nat) (s : Rat), loopG Tryz.prog (tab (n + 44)) 0 66 (livesOf 58) 9 lmk_C9 (lmk_h9 a1 (i : Int) v R out 0) = some (.exit 2, lmk_o9a a1 (j : Int) v R out s) ∧ i < j ∧ j ≤ R.length ∧ (∀ u, smc (R.take j) u = smc (R.take i) u + if u = v then s else 0) ∧ (∀ t, R[j]? = some t → t.1 ≠ v) ∧ H s ≤ 1 + (b + 1) * R.length := by
  have hi : i < R.length := (List.getElem?_eq_some_iff.1 hv).1
  obtain ⟨ex, t, h1, h2⟩ := loopG_Q (β := Rat) (P := Tryz.prog) (O := tab (n + 44)) (m := 0) (N := 66) (lives := livesOf 58) (r := 9) (C := lmk_C9) (M := R.length - i) (enc := fun k s => lmk_h9 a1 ((i + k : Nat) : Int) v R out s)
    (fun k s => i + k ≤ R.length ∧ (∀ u, smc (R.take (i + k)) u = smc (R.take i) u + if u = v then s else 0) ∧ H s ≤ 1 + (b + 1) * k)
    (fun ex t => ∃ (j : Nat) (s : Rat), ex = .exit 2 ∧ t = lmk_o9a a1 (j : Int) v R out s ∧ i < j ∧ j ≤ R.length ∧ (∀ u, smc (R.take j) u = smc (R.take i) u + if u = v then s else 0) ∧ (∀ t, R[j]? = some t → t.1 ≠ v) ∧ H s ≤ 1 + (b + 1) * R.length) 0
    ⟨by omega, fun u => by rw [Nat.add_zero]; split <;> grind, by have := H_zero; omega⟩ (by omega)
    (fun k s hk hI => by
      obtain ⟨h1, h2, h3⟩ := hI
      have hlt : i + k < R.length := by omega
      obtain ⟨⟨w, p⟩, hw⟩ : ∃ t, R[i + k]? = some t := ⟨_, List.getElem?_eq_getElem hlt⟩
      have hp : H p ≤ b := hT _ (List.mem_of_getElem? hw)
      have hadd := H_add s p
      have hmul : (b + 1) * k ≤ (b + 1) * 1000 := Nat.mul_le_mul_left _ (by omega)
      have hmul2 : (b + 1) * k ≤ (b + 1) * R.length := Nat.mul_le_mul_left _ (by omega)
      have eN : (((i + k : Nat) : Int)).toNat = i + k := Int.toNat_natCast _
      have g : R[(((i + k : Nat) : Int)).toNat]? = some (w, p) := by rw [eN]; exact hw
      by_cases c : w = v
      · refine .inl ⟨s + p, ?_, by omega, fun u => ?_, by rw [Nat.mul_succ]; omega⟩
        · have K := lmk_r9_1 (n := n) (a1 := a1) (i_9 := ((i + k : Nat) : Int)) (R2 := R) (v13 := w) (q13 := p) (v10 := v) (s_9 := s) (out_7 := out) (R := R) (by omega) (by omega) (by omega) g (by omega) c (by omega) (by omega) ⟨by omega, by omega⟩
          have e2 : ((i + k : Nat) : Int) + 1 = ((i + (k + 1) : Nat) : Int) := by omega
          rw [e2] at K
          exact K
        · rw [← Nat.add_assoc, smc_take hw, h2, c]
          dsimp only
          split <;> grind
      · refine .inr ⟨_, _, by simp, lmk_x9_1 (n := n) (a1 := a1) (i_9 := ((i + k : Nat) : Int)) (R2 := R) (v13 := w) (q13 := p) (v10 := v) (s_9 := s) (out_7 := out) (R := R) (by omega) (by omega) (by omega) g (by omega) c, i + k, s, rfl, rfl, ?_, h1, h2, fun t ht => by rw [hw] at ht; cases ht; exact c, by omega⟩
        cases k with
        | zero => rw [Nat.add_zero] at hw; rw [hv] at hw; cases hw; exact absurd rfl c
        | succ k => omega)
    (fun s hI => by
      obtain ⟨h1, h2, h3⟩ := hI
      have hmul2 : (b + 1) * (R.length - i) ≤ (b + 1) * R.length := Nat.mul_le_mul_left _ (by omega)
      refine ⟨_, _, by simp, lmk_x9_2 (n := n) (a1 := a1) (i_9 := ((i + (R.length - i) : Nat) : Int)) (R2 := R) (v10 := v) (s_9 := s) (out_7 := out) (R := R) (by omega), i + (R.length - i), s, rfl, rfl, by omega, h1, h2, fun t ht => ?_, by omega⟩
      have := (List.getElem?_eq_some_iff.1 ht).1
      omega)
  obtain ⟨j, s, rfl, rfl, h3⟩ := h2
  exact ⟨j, s, h1, h3⟩
theorem lmk_go {n : Nat} {a1 : Rat} {R : List (Int × Rat)} {b : Nat} (hl : R.length ≤ 1000) (hT : ∀ t ∈ R, H t.2 ≤ b) (hb : b ≤ 100000) (hs : SoT R R.length) :
    ∃ out : List (Int × Rat), loopG Tryz.prog (tab (n + 44)) 0 66 (livesOf 58) 7 lmk_C7 (lmk_h7 a1 0 R []) = some (.exit 0, lmk_o7a a1 out) ∧ Srt out ∧ ∀ u, cof out u = smc R u := by
  obtain ⟨ex, t, h1, h2⟩ := loopG_Q (β := Nat × List (Int × Rat)) (P := Tryz.prog) (O := tab (n + 44)) (m := 0) (N := 66) (lives := livesOf 58) (r := 7) (C := lmk_C7) (M := R.length) (enc := fun _ x => lmk_h7 a1 ((x.1 : Nat) : Int) R x.2)
    (fun k x => k ≤ x.1 ∧ x.1 ≤ R.length ∧ Srt x.2 ∧ (∀ u, cof x.2 u = smc (R.take x.1) u) ∧ (∀ t ∈ x.2, ∀ p s, x.1 ≤ p → R[p]? = some s → t.1 < s.1) ∧ x.2.length ≤ x.1)
    (fun ex t => ∃ out : List (Int × Rat), ex = .exit 0 ∧ t = lmk_o7a a1 out ∧ Srt out ∧ ∀ u, cof out u = smc R u) (0, [])
    ⟨by omega, by omega, Srt.nil, fun u => rfl, fun t ht => (by cases ht), by simp⟩ (by omega)
    (fun k x hk hI => by
      obtain ⟨i, out⟩ := x
      obtain ⟨h1, h2, h3, h4, h5, h6⟩ := hI
      dsimp only at h1 h2 h3 h4 h5 h6 ⊢
      by_cases hi : i < R.length
      · obtain ⟨⟨v, q⟩, hv⟩ : ∃ t, R[i]? = some t := ⟨_, List.getElem?_eq_getElem hi⟩
        obtain ⟨j, s, K, k1, k2, k3, k4, k5⟩ := lmk_in (n := n) (a1 := a1) (out := out) hl hT hb hv
        have hm : (b + 1) * R.length ≤ (b + 1) * 1000 := Nat.mul_le_mul_left _ (by omega)
        have g : R[((i : Nat) : Int).toNat]? = some (v, q) := by rw [Int.toNat_natCast]; exact hv
        have hlow : ∀ t ∈ out, t.1 < v := fun t ht => h5 t ht i (v, q) (Nat.le_refl _) hv
        have hgt : ∀ p s', j ≤ p → R[p]? = some s' → v < s'.1 := fun p s' hp hs' => by
          have hpl := (List.getElem?_eq_some_iff.1 hs').1
          obtain ⟨t', ht'⟩ : ∃ t, R[j]? = some t := ⟨_, List.getElem?_eq_getElem (by omega)⟩
          have a1 := k4 t' ht'
          have a2 : v ≤ t'.1 := hs i j (v, q) t' k1 (by omega) hv ht'
          by_cases e : p = j
          · subst e; rw [ht'] at hs'; cases hs'; omega
          · have := hs j p t' s' (by omega) hpl ht' hs'
            omega
        by_cases h0 : s = 0
        · refine .inl ⟨(j, out), lmk_r7_1 (n := n) (a1 := a1) (i_7 := ((i : Nat) : Int)) (R2 := R) (v10 := v) (q10 := q) (out_7 := out) (i_9 := ((j : Nat) : Int)) (s_9 := s) (R := R) (by omega) (by omega) (by omega) g (by omega) K (pt_same (by omega) h0), by dsimp only; omega, k2, h3, fun u => ?_, fun t ht p s' hp hs' => h5 t ht p s' (by dsimp only at hp; omega) hs', by dsimp only; omega⟩
          dsimp only
          rw [k3, h4, h0]; split <;> grind
        · refine .inl ⟨(j, out ++ [(v, s)]), lmk_r7_2 (n := n) (a1 := a1) (i_7 := ((i : Nat) : Int)) (R2 := R) (v10 := v) (q10 := q) (out_7 := out) (i_9 := ((j : Nat) : Int)) (s_9 := s) (R5 := out ++ [(v, s)]) (R := R) (by omega) (by omega) (by omega) g (by omega) K (pt_new (by omega) h0 (by omega)), by dsimp only; omega, k2, h3.snoc hlow h0, fun u => ?_, fun t ht p s' hp hs' => ?_, by simp; omega⟩
          · dsimp only
            rw [cof_snoc v s u out fun t ht => by have := hlow t ht; omega, k3, h4]
          · dsimp only at ht hp
            rcases List.mem_append.1 ht with a | a
            · exact h5 t a p s' (by omega) hs'
            · simp at a; rw [a]; exact hgt p s' hp hs'
      · refine .inr ⟨_, _, by simp, lmk_x7_1 (n := n) (a1 := a1) (i_7 := ((i : Nat) : Int)) (R2 := R) (out_7 := out) (R := R) (by omega), out, rfl, rfl, h3, fun u => ?_⟩
        rw [h4, List.take_of_length_le (by omega)])
    (fun x hI => by
      obtain ⟨i, out⟩ := x
      obtain ⟨h1, h2, h3, h4, h5, h6⟩ := hI
      dsimp only at h1 h2 h3 h4 h5 h6 ⊢
      refine ⟨_, _, by simp, lmk_x7_1 (n := n) (a1 := a1) (i_7 := ((i : Nat) : Int)) (R2 := R) (out_7 := out) (R := R) (by omega), out, rfl, rfl, h3, fun u => ?_⟩
      rw [h4, List.take_of_length_le (by omega)])
  obtain ⟨out, rfl, rfl, h3⟩ := h2
  exact ⟨out, h1, h3⟩
theorem cl_nil : clT [.sl 4 (([] : List (Int × Rat)).map termC)] [] = some (.sl 4 [], []) := rfl
theorem cl_term (t : Int × Rat) (L : List (Int × Rat)) (h : L.length ≤ 1000000) : clT [.sl 4 ((t :: L).map termC)] [] = some (.own 2 (t :: L).length, [(2, .row 84 4 ((t :: L).map termC) 0)]) := by
  rw [List.map_cons, clT, if_pos ⟨by simp, by simpa using by omega⟩]
  simp
theorem sort_nil {n : Nat} : runL (n + 44) 133 [.sl 4 ([] : List (List AV)), .clo 134 []] [] = some (.tup [], []) := by kernel_rfl
theorem lmk_ok {n : Nat} {L : List (Int × Rat)} {a1 : Rat} {b : Nat} (hl : L.length ≤ 19) (hT : ∀ t ∈ L, H t.2 ≤ b) (hb : b ≤ 100000) (ha : H a1 ≤ 17179869184) (h0 : ∀ t ∈ L, 0 ≤ t.1) :
    run (n + 45) 58 [.sl 4 (L.map termC), ratV a1] = some (.tup [formV (addV [] L, a1), .lit (.int .i64 0)]) := by
  cases L with
  | nil =>
    obtain ⟨ex, t, h1, h2⟩ := loopG_Q (β := Unit) (P := Tryz.prog) (O := tab (n + 1 + 44)) (m := 0) (N := 66) (lives := livesOf 58) (r := 7) (C := lmn_C7) (M := 0) (enc := fun _ _ => lmn_h7 a1 0 [])
      (fun k x => True) (fun ex t => ex = .exit 0 ∧ t = lmn_o7a a1 []) () trivial (by omega) (fun k x hk => by omega)
      (fun x _ => ⟨_, _, by simp, lmn_x7_1 (n := n + 1), rfl, rfl⟩)
    obtain ⟨rfl, rfl⟩ := h2
    exact lmn_f3 (n := n + 1) cl_nil sort_nil (by simp) ha h1
  | cons t L =>
    obtain ⟨R, K, hp, hs⟩ := srt_c (n := n) (L := t :: L) (by omega)
    have he := hp.length_eq
    obtain ⟨out, h1, h2, h3⟩ := lmk_go (n := n + 1) (a1 := a1) (R := R) (b := b) (by omega) (fun x hx => hT x (hp.mem_iff.1 hx)) hb hs
    have e : out = addV [] (t :: L) := srt_ext h2 (add_any Srt.nil).1 fun u => by rw [h3, (add_any Srt.nil).2, smc_perm hp, cof_nil]; grind
    have C := cl_term t L (by simp at hl; omega)
    rw [← he] at C K
    have hlt : 0 < R.length := by rw [he]; simp
    obtain ⟨⟨v, q⟩, hv⟩ : ∃ x, R[0]? = some x := ⟨_, List.getElem?_eq_getElem hlt⟩
    have := h0 (v, q) (hp.mem_iff.1 (List.mem_of_getElem? hv))
    rw [← e]
    exact lmk_f2 (n := n + 1) C K (by omega) hlt hv (by dsimp only at this; omega) ha h1
theorem fmk_ok {n : Nat} {L : List (Int × Rat)} {a1 : Rat} {b : Nat} (hl : L.length ≤ 1000) (hT : ∀ t ∈ L, H t.2 ≤ b) (hb : b ≤ 900) (ha : H a1 ≤ 17179869184) (h0 : ∀ t ∈ L, 0 ≤ t.1) :
    run (n + 2) 59 [.sl 4 (L.map termC), ratV a1] = some (.tup [formV (addV [] L, a1), .lit (.int .i64 0)]) := by
  have key : ∀ (R : List (Int × Rat)) (i : Nat) (o : List (Int × Rat)), foldI (fun _ b (t : Int × Rat) => plusV false b t.1 t.2) i o R = addV o R := fun R => by
    induction R with
    | nil => intro i o; rfl
    | cons t R ih => intro i o; rw [foldI, ih]; rfl
  have h := (loopG_I (O := tab (n + 2)) (exN := .exit 0) (L := L) (enc := fun i o => fmk_h3 L i o a1) (f := fun _ o (t : Int × Rat) => plusV false o t.1 t.2) (Inv := fun i o => o.length ≤ i ∧ TmB ((b + 1) * i) o ∧ i ≤ L.length) (out := fun o => fmk_o3b o a1) [] ⟨by simp, fun t ht => (by cases ht), by omega⟩ (by omega) (by simp)
    (fun i t o hi hI => by
      obtain ⟨u, q⟩ := t
      obtain ⟨hI1, hI2, hI3⟩ := hI
      have hlt := (List.getElem?_eq_some_iff.1 hi).1
      have hq : H q ≤ b := hT _ (List.mem_of_getElem? hi)
      have hu := h0 _ (List.mem_of_getElem? hi)
      have hl2 := plusV_len false o u q
      have hmi : (b + 1) * i ≤ (b + 1) * 1000 := Nat.mul_le_mul_left _ (by omega)
      have e : (b + 1) * (i + 1) = (b + 1) * i + b + 1 := by rw [Nat.mul_succ]; omega
      refine ⟨fmk_r3_1 (r3 := (plusV false o u q, a1)) (by omega) hi (by dsimp only at hu; omega) (plus_c (f := (o, a1)) (hI2.mono (by omega)) (by dsimp only; omega) (by omega)) ⟨by omega, by omega⟩, by dsimp only; omega, ?_, hlt⟩
      rw [e]
      exact hI2.plus hq) (fun b hI => fmk_x3_2 (by omega))).1
  rw [key] at h
  exact fmk_f2 ha h
end Go.Proofs.YtlpmemelhlnfbaaGreatDoor
set_option linter.all false
set_option maxRecDepth 100000
set_option maxHeartbeats 6400000
namespace Go.Proofs.YtlpmemelhlnfbaaGreatDoor
open Go.RowKit
noncomputable def fo_C3 : Code := (loopsOf (bodyOf Tryz.f150)).getD 0 .skip
def fo_h3 (a0 : TFeed) (a1 : Int) (i_3 : Nat) (i2_3 : Int) (l_3 : List (Int × Rat)) (s_3 : Rat) : St :=
  ⟨[(0, .ptr 0 0), (1, .lit (.int .i64 a1)), (4, .ptr 1 0), (5, .ptr 2 0), (6, .lit (.int .i64 (i_3 : Int)))],
   [(0, some (.box 156 [.sl 1 (a0.Raw.map intU8C), .lit (.int .i64 i2_3)] false)),
    (1, some (.box 29 [.nl 4, .lit (.bool false), .nl 1, .nl 1] false)),
    (2, some (.box 29 [.sl 4 (l_3.map termC), .lit (.bool (rawQ s_3).s), natA (rawQ s_3).l1, natA (rawQ s_3).l2] false))], 3⟩
def fo_o3a (a0 : TFeed) (i2_3 : Int) (l_3 : List (Int × Rat)) (s_3 : Rat) : St :=
  ⟨[(4, .ptr 1 0), (5, .ptr 2 0)],
   [(0, some (.box 156 [.sl 1 (a0.Raw.map intU8C), .lit (.int .i64 i2_3)] false)),
    (1, some (.box 29 [.nl 4, .lit (.bool false), .nl 1, .nl 1] false)),
    (2, some (.box 29 [.sl 4 (l_3.map termC), .lit (.bool (rawQ s_3).s), natA (rawQ s_3).l1, natA (rawQ s_3).l2] false))], 3⟩
section
variable {a1 : Int} {l_3 : List (Int × Rat)} {z6 : Int} {r12 : Int} {r15 : Form} {r16 : Form} {r14 : Rat} {z7 : Int} {s_3 : Rat} {i_3 : Nat} {a0 : TFeed} {r13 : Form} {i2_3 : Int} {n : Nat} {z : Int} {r : Rat}
theorem fo_r3_1 (C1 : (i_3 : Int) < a1) (K2 : runL (n + 2) 149 [.ptr 0 0, .lit (.int .i64 3)] [.box 156 [.sl 1 (a0.Raw.map intU8C), .lit (.int .i64 i2_3)] false] = some (.lit (.int .i64 r12), [(0, .box 156 [.sl 1 (a0.Raw.map intU8C), .lit (.int .i64 z6)] false)])) (C3 : 0 < r12) (K4 : run (n + 2) 88 [.lit (.int .i64 (i_3 : Int))] = some (formV r13)) (K5 : runL (n + 2) 92 [.ptr 0 0] [.box 156 [.sl 1 (a0.Raw.map intU8C), .lit (.int .i64 z6)] false] = some (ratV r14, [(0, .box 156 [.sl 1 (a0.Raw.map intU8C), .lit (.int .i64 z7)] false)])) (K6 : run (n + 2) 87 [formV r13, ratV r14] = some (formV r15)) (K7 : run (n + 2) 115 [formV (l_3, s_3), formV r15] = some (formV r16)) (W8 : InI ((i_3 : Int) + 1)) :
    Cont 1 (exec Tryz.prog (tab (n + 3)) 1 26 (livesOf 150) big fo_C3) (livesOf 150 3) (fo_h3 a0 a1 i_3 i2_3 l_3 s_3) (fo_h3 a0 a1 (i_3 + 1) z7 r16.1 r16.2) := by
  simp only [formV] at K4
  simp only [ratV] at K5
  simp only [ratV, formV] at K6
  simp only [formV] at K7
  have W8_ : IntKind.i64.wrap ((i_3 : Int) + 1) = (i_3 : Int) + 1 := wr64 W8.1 W8.2
  unfold Cont
  simp +decide [fo_h3, loopsOf, Tryz.f150, fo_C3, C1, K2, C3, K4, K5, K6, K7, W8_]
theorem fo_r3_2 (C1 : (i_3 : Int) < a1) (K2 : runL (n + 2) 149 [.ptr 0 0, .lit (.int .i64 3)] [.box 156 [.sl 1 (a0.Raw.map intU8C), .lit (.int .i64 i2_3)] false] = some (.lit (.int .i64 r12), [(0, .box 156 [.sl 1 (a0.Raw.map intU8C), .lit (.int .i64 z6)] false)])) (C3 : ¬ 0 < r12) (W4 : InI ((i_3 : Int) + 1)) :
    Cont 1 (exec Tryz.prog (tab (n + 3)) 1 26 (livesOf 150) big fo_C3) (livesOf 150 3) (fo_h3 a0 a1 i_3 i2_3 l_3 s_3) (fo_h3 a0 a1 (i_3 + 1) z6 l_3 s_3) := by
  have W4_ : IntKind.i64.wrap ((i_3 : Int) + 1) = (i_3 : Int) + 1 := wr64 W4.1 W4.2
  unfold Cont
  simp +decide [fo_h3, loopsOf, Tryz.f150, fo_C3, C1, K2, C3, W4_]
theorem fo_x3_1 (C1 : ¬ (i_3 : Int) < a1) :
    Leave 1 (exec Tryz.prog (tab (n + 3)) 1 26 (livesOf 150) big fo_C3) (livesOf 150 (outOf 3)) (fo_h3 a0 a1 i_3 i2_3 l_3 s_3) (.exit 0) (fo_o3a a0 i2_3 l_3 s_3) := by
  unfold Leave
  simp +decide [fo_h3, loopsOf, Tryz.f150, fo_o3a, fo_C3, C1]
theorem fo_f1 (K1 : runL (n + 2) 92 [.ptr 0 0] [.box 156 [.sl 1 (a0.Raw.map intU8C), .lit (.int .i64 (a0.At))] false] = some (ratV r, [(0, .box 156 [.sl 1 (a0.Raw.map intU8C), .lit (.int .i64 z)] false)])) (L2 : loopG Tryz.prog (tab (n + 3)) 1 26 (livesOf 150) 3 fo_C3 (fo_h3 a0 a1 0 z [] r) = some (.exit 0, fo_o3a a0 i2_3 l_3 s_3)) :
    runL (n + 3) 150 [.ptr 0 0, .lit (.int .i64 a1)] [.box 156 [.sl 1 (a0.Raw.map intU8C), .lit (.int .i64 (a0.At))] false] = some (formV (l_3, s_3), [(0, .box 156 [.sl 1 (a0.Raw.map intU8C), .lit (.int .i64 i2_3)] false)]) := by
  simp only [ratV] at K1
  unfold runL fnL
  simp +decide [Tryz.f150, K1]
  rw [loopX_G (C' := fo_C3) (e := (fo_h3 a0 a1 0 z [] r)) ?_ ?_, L2]
  rotate_left
  · kernel_rfl
  · simp +decide [fo_h3, K1]
  simp +decide [fo_o3a, K1]
end
noncomputable def gr_C4 : Code := (loopsOf (bodyOf Tryz.f75)).getD 0 .skip
noncomputable def gr_C8 : Code := (loopsOf (bodyOf Tryz.f75)).getD 1 .skip
def gr_h4 (a0 : TFeed) (r2 : Int) (r3 : Int) (i_4 : Nat) (i2_4 : Int) (r : Int) (out_4 : List Form) : St :=
  ⟨[(0, .ptr 0 0), (2, .ptr 1 0), (3, .ptr 2 0), (4, .lit (.int .i64 r2)), (5, .lit (.int .i64 (1 + r3))), (6, .lit (.int .i64 (i_4 : Int)))],
   [(0, some (.box 156 [.sl 1 (a0.Raw.map intU8C), .lit (.int .i64 i2_4)] false)),
    (1, some (.box 38 [.lit (.int .i64 0), .nl 4, .nl 4] false)),
    (2, some (.box 38 [.lit (.int .i64 (1 + r)), .own 3 out_4.length, .nl 4] false)),
    (3, some (.row 29 4 (out_4.map formC) 0))], 4⟩
def gr_h8 (a0 : TFeed) (r2 : Int) (r3 : Int) (i_8 : Nat) (i2_8 : Int) (r : Int) (out_4 : List Form) (out_8 : List Form) : St :=
  ⟨[(0, .ptr 0 0), (2, .ptr 1 0), (3, .ptr 2 0), (4, .lit (.int .i64 r2)), (5, .lit (.int .i64 (1 + r3))), (7, .lit (.int .i64 (i_8 : Int)))],
   [(0, some (.box 156 [.sl 1 (a0.Raw.map intU8C), .lit (.int .i64 i2_8)] false)),
    (1, some (.box 38 [.lit (.int .i64 0), .nl 4, .nl 4] false)),
    (2, some (.box 38 [.lit (.int .i64 (1 + r)), .own 3 out_4.length, .own 4 out_8.length] false)),
    (3, some (.row 29 4 (out_4.map formC) 0)),
    (4, some (.row 29 4 (out_8.map formC) 0))], 5⟩
def gr_o4a (a0 : TFeed) (r2 : Int) (r3 : Int) (i2_4 : Int) (r : Int) (out_4 : List Form) : St :=
  ⟨[(0, .ptr 0 0), (2, .ptr 1 0), (3, .ptr 2 0), (4, .lit (.int .i64 r2)), (5, .lit (.int .i64 (1 + r3)))],
   [(0, some (.box 156 [.sl 1 (a0.Raw.map intU8C), .lit (.int .i64 i2_4)] false)),
    (1, some (.box 38 [.lit (.int .i64 0), .nl 4, .nl 4] false)),
    (2, some (.box 38 [.lit (.int .i64 (1 + r)), .own 3 out_4.length, .nl 4] false)),
    (3, some (.row 29 4 (out_4.map formC) 0))], 4⟩
def gr_o8a (a0 : TFeed) (i2_8 : Int) (r : Int) (out_4 : List Form) (out_8 : List Form) : St :=
  ⟨[(2, .ptr 1 0), (3, .ptr 2 0)],
   [(0, some (.box 156 [.sl 1 (a0.Raw.map intU8C), .lit (.int .i64 i2_8)] false)),
    (1, some (.box 38 [.lit (.int .i64 0), .nl 4, .nl 4] false)),
    (2, some (.box 38 [.lit (.int .i64 (1 + r)), .own 3 out_4.length, .own 4 out_8.length] false)),
    (3, some (.row 29 4 (out_4.map formC) 0)),
    (4, some (.row 29 4 (out_8.map formC) 0))], 5⟩
section
variable {r3 : Int} {z6 : Int} {r2 : Int} {r6 : Form} {i_4 : Nat} {a0 : TFeed} {i2_4 : Int} {out_4 : List Form} {r : Int} {n : Nat} {out_8 : List Form} {i2_8 : Int} {z9 : Int} {r9 : Form} {i_8 : Nat} {z2 : Int} {z : Int} {z3 : Int}
theorem gr_r4_1 (C1 : (i_4 : Int) < r2) (W2 : InI ((1 + r) + (i_4 : Int))) (K3 : runL (n + 3) 150 [.ptr 0 0, .lit (.int .i64 ((1 + r) + (i_4 : Int)))] [.box 156 [.sl 1 (a0.Raw.map intU8C), .lit (.int .i64 i2_4)] false] = some (formV r6, [(0, .box 156 [.sl 1 (a0.Raw.map intU8C), .lit (.int .i64 z6)] false)])) (M4 : out_4.length + 1 ≤ 100000000) (W5 : InI ((i_4 : Int) + 1)) :
    Cont 1 (exec Tryz.prog (tab (n + 4)) 1 50 (livesOf 75) big gr_C4) (livesOf 75 4) (gr_h4 a0 r2 r3 i_4 i2_4 r out_4) (gr_h4 a0 r2 r3 (i_4 + 1) z6 r (out_4 ++ [r6])) := by
  have W2_ : IntKind.i64.wrap ((1 + r) + (i_4 : Int)) = (1 + r) + (i_4 : Int) := wr64 W2.1 W2.2
  simp only [formV] at K3
  have M4_ : ∀ b, b ≤ 10000 → roomy (out_4.length + 1) b = true := fun b hb => roomy_s M4 hb
  have W5_ : IntKind.i64.wrap ((i_4 : Int) + 1) = (i_4 : Int) + 1 := wr64 W5.1 W5.2
  unfold Cont
  simp +decide [gr_h4, loopsOf, Tryz.f75, gr_C4, C1, W2_, K3, M4_, W5_]
theorem gr_x4_1 (C1 : ¬ (i_4 : Int) < r2) :
    Leave 1 (exec Tryz.prog (tab (n + 4)) 1 50 (livesOf 75) big gr_C4) (livesOf 75 (outOf 4)) (gr_h4 a0 r2 r3 i_4 i2_4 r out_4) (.exit 0) (gr_o4a a0 r2 r3 i2_4 r out_4) := by
  unfold Leave
  simp +decide [gr_h4, loopsOf, Tryz.f75, gr_o4a, gr_C4, C1]
theorem gr_r8_1 (C1 : (i_8 : Int) < 1 + r3) (W2 : InI ((1 + r) + r2)) (K3 : runL (n + 3) 150 [.ptr 0 0, .lit (.int .i64 ((1 + r) + r2))] [.box 156 [.sl 1 (a0.Raw.map intU8C), .lit (.int .i64 i2_8)] false] = some (formV r9, [(0, .box 156 [.sl 1 (a0.Raw.map intU8C), .lit (.int .i64 z9)] false)])) (M4 : out_8.length + 1 ≤ 100000000) (W5 : InI ((i_8 : Int) + 1)) :
    Cont 1 (exec Tryz.prog (tab (n + 4)) 1 50 (livesOf 75) big gr_C8) (livesOf 75 8) (gr_h8 a0 r2 r3 i_8 i2_8 r out_4 out_8) (gr_h8 a0 r2 r3 (i_8 + 1) z9 r out_4 (out_8 ++ [r9])) := by
  have W2_ : IntKind.i64.wrap ((1 + r) + r2) = (1 + r) + r2 := wr64 W2.1 W2.2
  simp only [formV] at K3
  have M4_ : ∀ b, b ≤ 10000 → roomy (out_8.length + 1) b = true := fun b hb => roomy_s M4 hb
  have W5_ : IntKind.i64.wrap ((i_8 : Int) + 1) = (i_8 : Int) + 1 := wr64 W5.1 W5.2
  unfold Cont
  simp +decide [gr_h8, loopsOf, Tryz.f75, gr_C8, C1, W2_, K3, M4_, W5_]
theorem gr_x8_1 (C1 : ¬ (i_8 : Int) < 1 + r3) :
    Leave 1 (exec Tryz.prog (tab (n + 4)) 1 50 (livesOf 75) big gr_C8) (livesOf 75 (outOf 8)) (gr_h8 a0 r2 r3 i_8 i2_8 r out_4 out_8) (.exit 2) (gr_o8a a0 i2_8 r out_4 out_8) := by
  unfold Leave
  simp +decide [gr_h8, loopsOf, Tryz.f75, gr_o8a, gr_C8, C1]
theorem gr_f1 (K1 : runL (n + 3) 149 [.ptr 0 0, .lit (.int .i64 3)] [.box 156 [.sl 1 (a0.Raw.map intU8C), .lit (.int .i64 (a0.At))] false] = some (.lit (.int .i64 r), [(0, .box 156 [.sl 1 (a0.Raw.map intU8C), .lit (.int .i64 z)] false)])) (W2 : InI (1 + r)) (K3 : runL (n + 3) 149 [.ptr 0 0, .lit (.int .i64 5)] [.box 156 [.sl 1 (a0.Raw.map intU8C), .lit (.int .i64 z)] false] = some (.lit (.int .i64 r2), [(0, .box 156 [.sl 1 (a0.Raw.map intU8C), .lit (.int .i64 z2)] false)])) (K4 : runL (n + 3) 149 [.ptr 0 0, .lit (.int .i64 3)] [.box 156 [.sl 1 (a0.Raw.map intU8C), .lit (.int .i64 z2)] false] = some (.lit (.int .i64 r3), [(0, .box 156 [.sl 1 (a0.Raw.map intU8C), .lit (.int .i64 z3)] false)])) (W5 : InI (1 + r3)) (L6 : loopG Tryz.prog (tab (n + 4)) 1 50 (livesOf 75) 4 gr_C4 (gr_h4 a0 r2 r3 0 z3 r []) = some (.exit 0, gr_o4a a0 r2 r3 i2_4 r out_4)) (L7 : loopG Tryz.prog (tab (n + 4)) 1 50 (livesOf 75) 8 gr_C8 (gr_h8 a0 r2 r3 0 i2_4 r out_4 []) = some (.exit 2, gr_o8a a0 i2_8 r out_4 out_8)) :
    runL (n + 4) 75 [.ptr 0 0] [.box 156 [.sl 1 (a0.Raw.map intU8C), .lit (.int .i64 (a0.At))] false] = some (.agg [.lit (.int .i64 (1 + r)), .sl 4 (out_4.map formC), .sl 4 (out_8.map formC)], [(0, .box 156 [.sl 1 (a0.Raw.map intU8C), .lit (.int .i64 i2_8)] false)]) := by
  have W2_ : IntKind.i64.wrap (1 + r) = 1 + r := wr64 W2.1 W2.2
  have W5_ : IntKind.i64.wrap (1 + r3) = 1 + r3 := wr64 W5.1 W5.2
  unfold runL fnL
  simp +decide [Tryz.f75, K1, W2_, K3, K4, W5_]
  rw [loopX_G (C' := gr_C4) (e := (gr_h4 a0 r2 r3 0 z3 r [])) ?_ ?_, L6]
  rotate_left
  · kernel_rfl
  · simp +decide [gr_h4, K1, W2_, K3, K4, W5_]
  simp +decide [gr_o4a, K1, W2_, K3, K4, W5_]
  rw [loopX_G (C' := gr_C8) (e := (gr_h8 a0 r2 r3 0 i2_4 r out_4 [])) ?_ ?_, L7]
  rotate_left
  · kernel_rfl
  · simp +decide [gr_h8, K1, W2_, K3, K4, W5_]
  simp +decide [gr_o8a, K1, W2_, K3, K4, W5_]
end
end Go.Proofs.YtlpmemelhlnfbaaGreatDoor
set_option linter.all false
set_option maxRecDepth 100000
set_option maxHeartbeats 6400000
namespace Go.Proofs.YtlpmemelhlnfbaaGreatDoor
open Go.RowKit
attribute [local irreducible] run runL loopG exec
structure SmL (i : Nat) (l : List (Int × Rat)) : Prop where
  len : l.length ≤ i
  sorted : l.Pairwise (fun a b => a.1 < b.1)
  each : ∀ t ∈ l, 0 ≤ t.1 ∧ t.1 < (i : Int) ∧ t.2 ≠ 0 ∧ H t.2 ≤ 2
theorem SmL.nil (i : Nat) : SmL i [] := ⟨by simp, List.Pairwise.nil, fun t ht => by cases ht⟩
theorem plus_end : ∀ (l : List (Int × Rat)) (v : Int) (q : Rat), (∀ t ∈ l, t.1 < v ∧ t.2 ≠ 0) → plusV false l v q = l ++ put1 v q
  | [], v, q, _ => rfl
  | t :: l, v, q, h => by
    have h0 := h t List.mem_cons_self
    rw [plusV_lt (by omega) (Or.inr h0.1), plus_end l v q (fun u hu => h u (List.mem_cons_of_mem _ hu))]
    unfold put1
    rw [if_neg h0.2]
    rfl
theorem SmL.step {i : Nat} {l : List (Int × Rat)} {q : Rat} (h : SmL i l) (hq : H q ≤ 2) : SmL (i + 1) (l ++ put1 (i : Int) q) := by
  by_cases h0 : q = 0
  · have e : put1 (i : Int) q = [] := by unfold put1; rw [if_pos h0]
    rw [e, List.append_nil]
    exact ⟨by have := h.len; omega, h.sorted, fun t ht => by obtain ⟨h1, h2, h3⟩ := h.each t ht; exact ⟨h1, by omega, h3⟩⟩
  · have e : put1 (i : Int) q = [((i : Int), q)] := by unfold put1; rw [if_neg h0]
    rw [e]
    refine ⟨by rw [List.length_append]; have := h.len; simp; omega, ?_, fun t ht => ?_⟩
    · rw [List.pairwise_append]
      refine ⟨h.sorted, List.pairwise_singleton _ _, fun a ha b hb => ?_⟩
      rw [List.mem_singleton.1 hb]
      exact (h.each a ha).2.1
    · rcases List.mem_append.1 ht with h9 | h9
      · obtain ⟨h1, h2, h3⟩ := h.each t h9
        exact ⟨h1, by omega, h3⟩
      · rw [List.mem_singleton.1 h9]
        exact ⟨by show (0 : Int) ≤ (i : Int); omega, by show (i : Int) < ((i + 1 : Nat) : Int); omega, h0, hq⟩
theorem num_few {x : Int} (h0 : 0 ≤ x) (h1 : x < 9) (y : Int) : H (((x - 4 : Int) : Rat) / ((dd y : Int) : Rat)) ≤ 2 := by
  have hd : dd y = 1 ∨ dd y = 2 ∨ dd y = 4 := by unfold dd; split; omega; split <;> omega
  have hx : x = 0 ∨ x = 1 ∨ x = 2 ∨ x = 3 ∨ x = 4 ∨ x = 5 ∨ x = 6 ∨ x = 7 ∨ x = 8 := by omega
  rcases hd with e | e | e <;> rw [e] <;> rcases hx with rfl | rfl | rfl | rfl | rfl | rfl | rfl | rfl | rfl <;> decide +kernel
theorem numN_few (bs : List Int) (k : Nat) : H (numN bs k).1 ≤ 2 := by
  have h := nextN_lt (bs := bs) (k := k) (n := 9) (by omega)
  exact num_few h.1 h.2 _
theorem numN_le {bs : List Int} {k : Nat} (hk : k ≤ bs.length) : (numN bs k).2 ≤ bs.length := nextN_le (nextN_le hk)
theorem SmL.up {i : Nat} {l : List (Int × Rat)} (h : SmL i l) : SmL (i + 1) l := ⟨Nat.le_succ_of_le h.len, h.sorted, fun t ht => by have h1 := h.each t ht; exact ⟨h1.1, by omega, h1.2.2.1, h1.2.2.2⟩⟩
structure SmF (n : Nat) (f : Form) : Prop where
  l : SmL n f.1
  k : H f.2 ≤ 2
def fdB (bs : List Int) (k : Nat) : AB := .box 156 [.sl 1 (bs.map intU8C), .lit (.int .i64 (k : Int))] false
section
variable {n : Nat} {bs : List Int} {k : Nat}
theorem next_c (hb : Byt bs) (hk : k ≤ bs.length) {m : Int} (hm : 0 < m) : runL n 149 [.ptr 0 0, .lit (.int .i64 m)] [fdB bs k] = some (.lit (.int .i64 (nextN bs k m).1), [(0, fdB bs (nextN bs k m).2)]) := by
  have hl := hb.len
  unfold nextN
  cases hx : bs[k]? with
  | some x =>
    have hlt := (List.getElem?_eq_some_iff.1 hx).1
    obtain ⟨x0, x1⟩ := hb.val x (List.mem_of_getElem? hx)
    have h := nx_f2 (n := n) (a0 := ⟨bs, (k : Int)⟩) (a1 := m) (x := x) (by dsimp only; omega) ⟨by dsimp only; omega, by dsimp only; omega⟩ ⟨by dsimp only; omega, by dsimp only; omega⟩ (by dsimp only; rw [Int.toNat_natCast]; exact hx) (by dsimp only; omega) ⟨by omega, by omega⟩ (by omega)
    rw [Int.tmod_eq_emod_of_nonneg x0] at h
    exact h
  | none =>
    have h1 : bs.length ≤ k := List.getElem?_eq_none_iff.1 hx
    exact nx_f1 (n := n) (a0 := ⟨bs, (k : Int)⟩) (a1 := m) (by dsimp only; omega)
theorem num_c (hb : Byt bs) (hk : k ≤ bs.length) : runL (n + 1) 92 [.ptr 0 0] [fdB bs k] = some (ratV (numN bs k).1, [(0, fdB bs (numN bs k).2)]) := by
  have h1 := next_c (n := n) hb hk (m := 9) (by omega)
  have k1 := nextN_le (n := 9) hk
  have b1 := nextN_lt (bs := bs) (k := k) (n := 9) (by omega)
  have h2 := next_c (n := n) hb k1 (m := 4) (by omega)
  have b2 := nextN_lt (bs := bs) (k := (nextN bs k 9).2) (n := 4) (by omega)
  unfold numN
  generalize nextN bs k 9 = p at *
  obtain ⟨x, j1⟩ := p
  dsimp only at *
  generalize nextN bs j1 4 = p at *
  obtain ⟨y, j2⟩ := p
  dsimp only at *
  have W : InI (x - 4) := ⟨by omega, by omega⟩
  have hy : y = 0 ∨ y = 1 ∨ y = 2 ∨ y = 3 := by omega
  rcases hy with rfl | rfl | rfl | rfl
  · exact nu_f1 (a0 := ⟨bs, (k : Int)⟩) h1 W h2 rfl W
  · exact nu_f2 (a0 := ⟨bs, (k : Int)⟩) h1 W h2 (by omega) rfl W
  · exact nu_f3 (a0 := ⟨bs, (k : Int)⟩) h1 W h2 (by omega) (by omega) rfl W
  · exact nu_f4 (a0 := ⟨bs, (k : Int)⟩) h1 W h2 (by omega) (by omega) (by omega) rfl W
theorem form_c (hb : Byt bs) (hk : k ≤ bs.length) {z : Int} (h0 : 0 ≤ z) (h1 : z ≤ 1000) : ∃ (f : Form) (k' : Nat), runL (n + 3) 150 [.ptr 0 0, .lit (.int .i64 z)] [fdB bs k] = some (formV f, [(0, fdB bs k')]) ∧ SmF z.toNat f ∧ k' ≤ bs.length := by
  have hnum := num_c (n := n + 1) hb hk
  have hK := numN_few bs k
  have hk1 := numN_le hk
  generalize numN bs k = p at *
  obtain ⟨K, k1⟩ := p
  dsimp only at *
  obtain ⟨b, hL, h3, h4⟩ := loopG_R (O := tab (n + 3)) (P := Tryz.prog) (m := 1) (N := 26) (lives := livesOf 150) (r := 3) (C := fo_C3) (exN := .exit 0) (M := z.toNat) (enc := fun i (b : List (Int × Rat) × Nat) => fo_h3 ⟨bs, (k : Int)⟩ z i (b.2 : Int) b.1 K) (out := fun b => fo_o3a ⟨bs, (k : Int)⟩ (b.2 : Int) b.1 K) (fun i b => SmL i b.1 ∧ b.2 ≤ bs.length) ([], k1) ⟨SmL.nil 0, hk1⟩ (by omega) (by simp)
    (fun i b hi hI => by
      obtain ⟨l, j⟩ := b
      obtain ⟨hI1, hI2⟩ := hI
      dsimp only at hI1 hI2
      have C1 : (i : Int) < z := by omega
      have W : InI ((i : Int) + 1) := ⟨by omega, by omega⟩
      have n1 := next_c (n := n + 2) hb hI2 (m := 3) (by omega)
      have l1 := nextN_le (n := 3) hI2
      generalize nextN bs j 3 = p at *
      obtain ⟨x, j1⟩ := p
      dsimp only at *
      by_cases hx : 0 < x
      · have n2 := num_c (n := n + 1) hb l1
        have q2 := numN_few bs j1
        have l2 := numN_le l1
        generalize numN bs j1 = p at *
        obtain ⟨q, j2⟩ := p
        dsimp only at *
        have hV : TmB 1 [((i : Int), (1 : Rat))] := fun t ht => by
          cases List.mem_singleton.1 ht
          exact ⟨(by decide : (1 : Rat) ≠ 0), (by decide : H 1 ≤ 1)⟩
        have n3 := scale_c (n := n + 1) (f := ([((i : Int), 1)], 0)) (c := q) (hV.mono (by omega)) (by simp) (by show H 0 ≤ 1000000; decide) (by omega)
        have es : sclV [((i : Int), 1)] q = put1 (i : Int) q := by simp [sclV]
        have ez : (0 : Rat) * q = 0 := Rat.zero_mul q
        dsimp only at n3
        rw [es, ez] at n3
        have hT : TmB 100 l := fun t ht => ⟨(hI1.each t ht).2.2.1, Nat.le_trans (hI1.each t ht).2.2.2 (by omega)⟩
        have hS : TmB 3 (put1 (i : Int) q) := TmB.put _ (by omega)
        have hS2 := put1_len (i : Int) q
        have n4 := add_c (n := n) (f := (l, K)) (g := (put1 (i : Int) q, 0)) hS (by dsimp only; omega) hT (by dsimp only; have := hI1.len; omega) (by dsimp only; omega) (by dsimp only; omega) (by show H 0 ≤ 1000000; decide)
        have ea : addV l (put1 (i : Int) q) = l ++ put1 (i : Int) q := by
          by_cases h0 : q = 0
          · have e1 : put1 (i : Int) q = [] := if_pos h0
            rw [e1, List.append_nil]; rfl
          · have e1 : put1 (i : Int) q = [((i : Int), q)] := if_neg h0
            rw [e1]
            unfold addV
            rw [List.foldl_cons, List.foldl_nil, plus_end _ (i : Int) q (fun t ht => ⟨(hI1.each t ht).2.1, (hI1.each t ht).2.2.1⟩), e1]
        have ek : K + 0 = K := Rat.add_zero K
        dsimp only at n4
        rw [ea, ek] at n4
        exact ⟨(l ++ put1 (i : Int) q, j2), fo_r3_1 (r13 := ([((i : Int), 1)], 0)) C1 n1 hx (var_c (i : Int)) n2 n3 n4 W, hI1.step q2, l2⟩
      · exact ⟨(l, j1), fo_r3_2 C1 n1 hx W, hI1.up, l1⟩)
    (fun b hI => fo_x3_1 (by omega))
  exact ⟨(b.1, K), b.2, fo_f1 (a0 := ⟨bs, (k : Int)⟩) hnum hL, ⟨h3, hK⟩, h4⟩
structure GrOk (g : TGraph) : Prop where
  i0 : 1 ≤ g.Inputs
  i1 : g.Inputs ≤ 3
  u : g.Units.length ≤ 4
  o0 : 1 ≤ g.Outputs.length
  o1 : g.Outputs.length ≤ 3
  un : ∀ i f, g.Units[i]? = some f → SmF (g.Inputs.toNat + i) f
  ou : ∀ f ∈ g.Outputs, SmF (g.Inputs.toNat + g.Units.length) f
theorem graph_c (hb : Byt bs) (hk : k ≤ bs.length) : ∃ (g : TGraph) (k' : Nat), runL (n + 4) 75 [.ptr 0 0] [fdB bs k] = some (graphV g, [(0, fdB bs k')]) ∧ GrOk g ∧ k' ≤ bs.length := by
  have h1 := next_c (n := n + 3) hb hk (m := 3) (by omega)
  have b1 := nextN_lt (bs := bs) (k := k) (n := 3) (by omega)
  have l1 := nextN_le (n := 3) hk
  generalize nextN bs k 3 = p at *
  obtain ⟨x, j1⟩ := p
  dsimp only at *
  have h2 := next_c (n := n + 3) hb l1 (m := 5) (by omega)
  have b2 := nextN_lt (bs := bs) (k := j1) (n := 5) (by omega)
  have l2 := nextN_le (n := 5) l1
  generalize nextN bs j1 5 = p at *
  obtain ⟨y, j2⟩ := p
  dsimp only at *
  have h3 := next_c (n := n + 3) hb l2 (m := 3) (by omega)
  have b3 := nextN_lt (bs := bs) (k := j2) (n := 3) (by omega)
  have l3 := nextN_le (n := 3) l2
  generalize nextN bs j2 3 = p at *
  obtain ⟨z, j3⟩ := p
  dsimp only at *
  obtain ⟨⟨U, j4⟩, hL1, h4, h5, h6⟩ := loopG_R (O := tab (n + 4)) (P := Tryz.prog) (m := 1) (N := 50) (lives := livesOf 75) (r := 4) (C := gr_C4) (exN := .exit 0) (M := y.toNat) (enc := fun i (b : List Form × Nat) => gr_h4 ⟨bs, (k : Int)⟩ y z i (b.2 : Int) x b.1) (out := fun b => gr_o4a ⟨bs, (k : Int)⟩ y z (b.2 : Int) x b.1)
    (fun i b => b.2 ≤ bs.length ∧ b.1.length = i ∧ ∀ j f, b.1[j]? = some f → SmF ((1 + x).toNat + j) f) ([], j3) ⟨l3, rfl, fun j f h => by simp at h⟩ (by omega) (by simp)
    (fun i b hi hI => by
      obtain ⟨U, j⟩ := b
      obtain ⟨hI1, hI2, hI3⟩ := hI
      dsimp only at hI1 hI2 hI3
      obtain ⟨f, j', h7, h8, h9⟩ := form_c (n := n) hb hI1 (z := (1 + x) + (i : Int)) (by omega) (by omega)
      refine ⟨(U ++ [f], j'), gr_r4_1 (by omega) ⟨by omega, by omega⟩ h7 (by dsimp only; omega) ⟨by omega, by omega⟩, h9, by dsimp only; rw [List.length_append, hI2]; rfl, fun q g hq => ?_⟩
      dsimp only at hq
      by_cases hqi : q < U.length
      · rw [List.getElem?_append_left hqi] at hq; exact hI3 q g hq
      · rw [List.getElem?_append_right (by omega)] at hq
        have h0 : q - U.length = 0 := by
          have := (List.getElem?_eq_some_iff.1 hq).1
          rw [List.length_singleton] at this
          omega
        rw [h0] at hq
        cases hq
        have e : (1 + x).toNat + q = ((1 + x) + (i : Int)).toNat := by omega
        rw [e]; exact h8)
    (fun b hI => gr_x4_1 (by omega))
  dsimp only at hL1 h4 h5 h6
  obtain ⟨⟨O, j5⟩, hL2, h7, h8, h9⟩ := loopG_R (O := tab (n + 4)) (P := Tryz.prog) (m := 1) (N := 50) (lives := livesOf 75) (r := 8) (C := gr_C8) (exN := .exit 2) (M := (1 + z).toNat) (enc := fun i (b : List Form × Nat) => gr_h8 ⟨bs, (k : Int)⟩ y z i (b.2 : Int) x U b.1) (out := fun b => gr_o8a ⟨bs, (k : Int)⟩ (b.2 : Int) x U b.1)
    (fun i b => b.2 ≤ bs.length ∧ b.1.length = i ∧ ∀ f ∈ b.1, SmF ((1 + x) + y).toNat f) ([], j4) ⟨h4, rfl, fun f h => by cases h⟩ (by omega) (by simp)
    (fun i b hi hI => by
      obtain ⟨O, j⟩ := b
      obtain ⟨hI1, hI2, hI3⟩ := hI
      dsimp only at hI1 hI2 hI3
      obtain ⟨f, j', h7, h8, h9⟩ := form_c (n := n) hb hI1 (z := (1 + x) + y) (by omega) (by omega)
      refine ⟨(O ++ [f], j'), gr_r8_1 (by omega) ⟨by omega, by omega⟩ h7 (by dsimp only; omega) ⟨by omega, by omega⟩, h9, by dsimp only; rw [List.length_append, hI2]; rfl, fun g hg => ?_⟩
      rcases List.mem_append.1 hg with hg | hg
      · exact hI3 g hg
      · rw [List.mem_singleton.1 hg]; exact h8)
    (fun b hI => gr_x8_1 (by omega))
  dsimp only at hL2 h7 h8 h9
  refine ⟨⟨1 + x, U, O⟩, j5, gr_f1 (a0 := ⟨bs, (k : Int)⟩) h1 ⟨by omega, by omega⟩ h2 h3 ⟨by omega, by omega⟩ hL1 hL2, ⟨by dsimp only; omega, by dsimp only; omega, by dsimp only; omega, by dsimp only; omega, by dsimp only; omega, h6, fun f hf => ?_⟩, h7⟩
  have e : (1 + x).toNat + U.length = ((1 + x) + y).toNat := by omega
  dsimp only
  rw [e]; exact h9 f hf
end
end Go.Proofs.YtlpmemelhlnfbaaGreatDoor
set_option linter.all false
set_option maxRecDepth 100000
set_option maxHeartbeats 6400000
namespace Go.Proofs.YtlpmemelhlnfbaaGreatDoor
open Go.RowKit
noncomputable def vg_C4 : Code := (loopsOf (bodyOf Tryz.f25)).getD 0 .skip
def vg_h4 (a0 : TGraph) (i_4 : Nat) : St :=
  ⟨[(1, .ptr 0 0), (3, .lit (.int .i64 (i_4 : Int)))],
   [(0, some (.box 38 [.lit (.int .i64 (a0.Inputs)), .sl 4 (a0.Units.map formC), .sl 4 (a0.Outputs.map formC)] false))], 1⟩
def vg_o4a (a0 : TGraph) : St :=
  ⟨[(1, .ptr 0 0), (2, .lit (.bool false))],
   [(0, some (.box 38 [.lit (.int .i64 (a0.Inputs)), .sl 4 (a0.Units.map formC), .sl 4 (a0.Outputs.map formC)] false))], 1⟩
def vg_o4b (a0 : TGraph) : St :=
  ⟨[(1, .ptr 0 0), (2, .any)],
   [(0, some (.box 38 [.lit (.int .i64 (a0.Inputs)), .sl 4 (a0.Units.map formC), .sl 4 (a0.Outputs.map formC)] false))], 1⟩
section
variable {r3 : Bool} {q3 : Rat} {i_4 : Nat} {a0 : TGraph} {F3 : List (Int × Rat)} {n : Nat} {r4 : Bool}
theorem vg_r4_1 (C1 : (i_4 : Int) < (a0.Units.length : Int)) (E2 : a0.Units[i_4]? = some (F3, q3)) (W3 : InI (a0.Inputs + (i_4 : Int))) (K4 : run (n + 1) 51 [formV (F3, q3), .lit (.int .i64 (a0.Inputs + (i_4 : Int)))] = some (.lit (.bool r3))) (C5 : r3 = true) (W6 : InI ((i_4 : Int) + 1)) :
    Cont 0 (exec Tryz.prog (tab (n + 2)) 0 57 (livesOf 25) big vg_C4) (livesOf 25 4) (vg_h4 a0 i_4) (vg_h4 a0 (i_4 + 1)) := by
  have C1_ : i_4 < a0.Units.length := by omega
  obtain ⟨EL2, EG2⟩ := List.getElem?_eq_some_iff.1 E2
  have W3_ : IntKind.i64.wrap (a0.Inputs + (i_4 : Int)) = a0.Inputs + (i_4 : Int) := wr64 W3.1 W3.2
  simp only [formV] at K4
  have W6_ : IntKind.i64.wrap ((i_4 : Int) + 1) = (i_4 : Int) + 1 := wr64 W6.1 W6.2
  unfold Cont
  simp +decide [vg_h4, loopsOf, Tryz.f25, vg_C4, C1, C1_, EL2, EG2, E2, W3_, K4, C5, W6_]
theorem vg_x4_1 (C1 : (i_4 : Int) < (a0.Units.length : Int)) (E2 : a0.Units[i_4]? = some (F3, q3)) (W3 : InI (a0.Inputs + (i_4 : Int))) (K4 : run (n + 1) 51 [formV (F3, q3), .lit (.int .i64 (a0.Inputs + (i_4 : Int)))] = some (.lit (.bool r3))) (C5 : r3 = false) :
    Leave 0 (exec Tryz.prog (tab (n + 2)) 0 57 (livesOf 25) big vg_C4) (livesOf 25 (outOf 4)) (vg_h4 a0 i_4) (.ret) (vg_o4a a0) := by
  have C1_ : i_4 < a0.Units.length := by omega
  obtain ⟨EL2, EG2⟩ := List.getElem?_eq_some_iff.1 E2
  have W3_ : IntKind.i64.wrap (a0.Inputs + (i_4 : Int)) = a0.Inputs + (i_4 : Int) := wr64 W3.1 W3.2
  simp only [formV] at K4
  unfold Leave
  simp +decide [vg_h4, loopsOf, Tryz.f25, vg_o4a, vg_C4, C1, C1_, EL2, EG2, E2, W3_, K4, C5]
theorem vg_x4_2 (C1 : ¬ (i_4 : Int) < (a0.Units.length : Int)) :
    Leave 0 (exec Tryz.prog (tab (n + 2)) 0 57 (livesOf 25) big vg_C4) (livesOf 25 (outOf 4)) (vg_h4 a0 i_4) (.exit 0) (vg_o4b a0) := by
  have C1_ : ¬ i_4 < a0.Units.length := by omega
  unfold Leave
  simp +decide [vg_h4, loopsOf, Tryz.f25, vg_o4b, vg_C4, C1, C1_]
theorem vg_f1 (C1 : a0.Inputs < 1) :
    run (n + 2) 25 [graphV a0] = some (.lit (.bool false)) := by
  unfold run fnP
  simp +decide [Tryz.f25, C1]
theorem vg_f2 (C1 : ¬ a0.Inputs < 1) (C2 : 256 < a0.Inputs) :
    run (n + 2) 25 [graphV a0] = some (.lit (.bool false)) := by
  unfold run fnP
  simp +decide [Tryz.f25, C1, C2]
theorem vg_f3 (C1 : ¬ a0.Inputs < 1) (C2 : ¬ 256 < a0.Inputs) (C3 : 1024 < (a0.Units.length : Int)) :
    run (n + 2) 25 [graphV a0] = some (.lit (.bool false)) := by
  have C3_ : 1024 < a0.Units.length := by omega
  unfold run fnP
  simp +decide [Tryz.f25, C1, C2, C3, C3_]
theorem vg_f4 (C1 : ¬ a0.Inputs < 1) (C2 : ¬ 256 < a0.Inputs) (C3 : ¬ 1024 < (a0.Units.length : Int)) (C4 : (a0.Outputs.length : Int) < 1) :
    run (n + 2) 25 [graphV a0] = some (.lit (.bool false)) := by
  have C3_ : ¬ 1024 < a0.Units.length := by omega
  have C4_ : a0.Outputs.length < 1 := by omega
  unfold run fnP
  simp +decide [Tryz.f25, C1, C2, C3, C3_, C4, C4_]
theorem vg_f5 (C1 : ¬ a0.Inputs < 1) (C2 : ¬ 256 < a0.Inputs) (C3 : ¬ 1024 < (a0.Units.length : Int)) (C4 : ¬ (a0.Outputs.length : Int) < 1) (C5 : 256 < (a0.Outputs.length : Int)) :
    run (n + 2) 25 [graphV a0] = some (.lit (.bool false)) := by
  have C3_ : ¬ 1024 < a0.Units.length := by omega
  have C4_ : ¬ a0.Outputs.length < 1 := by omega
  have C5_ : 256 < a0.Outputs.length := by omega
  unfold run fnP
  simp +decide [Tryz.f25, C1, C2, C3, C3_, C4, C4_, C5, C5_]
theorem vg_f6 (C1 : ¬ a0.Inputs < 1) (C2 : ¬ 256 < a0.Inputs) (C3 : ¬ 1024 < (a0.Units.length : Int)) (C4 : ¬ (a0.Outputs.length : Int) < 1) (C5 : ¬ 256 < (a0.Outputs.length : Int)) (L6 : loopG Tryz.prog (tab (n + 2)) 0 57 (livesOf 25) 4 vg_C4 (vg_h4 a0 0) = some (.ret, vg_o4a a0)) :
    run (n + 2) 25 [graphV a0] = some (.lit (.bool false)) := by
  have C3_ : ¬ 1024 < a0.Units.length := by omega
  have C4_ : ¬ a0.Outputs.length < 1 := by omega
  have C5_ : ¬ 256 < a0.Outputs.length := by omega
  unfold run fnP
  simp +decide [Tryz.f25, C1, C2, C3, C3_, C4, C4_, C5, C5_]
  rw [loopX_G (C' := vg_C4) (e := (vg_h4 a0 0)) ?_ ?_, L6]
  rotate_left
  · kernel_rfl
  · simp +decide [vg_h4, C1, C2, C3, C3_, C4, C4_, C5, C5_]
  simp +decide [vg_o4a, C1, C2, C3, C3_, C4, C4_, C5, C5_]
theorem vg_f7 (C1 : ¬ a0.Inputs < 1) (C2 : ¬ 256 < a0.Inputs) (C3 : ¬ 1024 < (a0.Units.length : Int)) (C4 : ¬ (a0.Outputs.length : Int) < 1) (C5 : ¬ 256 < (a0.Outputs.length : Int)) (L6 : loopG Tryz.prog (tab (n + 2)) 0 57 (livesOf 25) 4 vg_C4 (vg_h4 a0 0) = some (.exit 0, vg_o4b a0)) (W7 : InI (a0.Inputs + (a0.Units.length : Int))) (K8 : run (n + 1) 91 [.sl 4 (a0.Outputs.map formC), .lit (.int .i64 (a0.Inputs + (a0.Units.length : Int)))] = some (.lit (.bool r4))) :
    run (n + 2) 25 [graphV a0] = some (.lit (.bool r4)) := by
  have C3_ : ¬ 1024 < a0.Units.length := by omega
  have C4_ : ¬ a0.Outputs.length < 1 := by omega
  have C5_ : ¬ 256 < a0.Outputs.length := by omega
  have W7_ : IntKind.i64.wrap (a0.Inputs + (a0.Units.length : Int)) = a0.Inputs + (a0.Units.length : Int) := wr64 W7.1 W7.2
  unfold run fnP
  simp +decide [Tryz.f25, C1, C2, C3, C3_, C4, C4_, C5, C5_, W7_, K8]
  rw [loopX_G (C' := vg_C4) (e := (vg_h4 a0 0)) ?_ ?_, L6]
  rotate_left
  · kernel_rfl
  · simp +decide [vg_h4, C1, C2, C3, C3_, C4, C4_, C5, C5_, W7_, K8]
  simp +decide [vg_o4b, C1, C2, C3, C3_, C4, C4_, C5, C5_, W7_, K8]
end
end Go.Proofs.YtlpmemelhlnfbaaGreatDoor
set_option linter.all false
set_option maxRecDepth 100000
set_option maxHeartbeats 6400000
namespace Go.Proofs.YtlpmemelhlnfbaaGreatDoor
open Go.RowKit
attribute [local irreducible] run runL loopG exec
theorem validFs_c {n : Nat} {L : List Form} {vars : Int} (hl : L.length ≤ 100000000) (hB : ∀ f ∈ L, BdF 17179869184 f) : run (n + 1) 91 [.sl 4 (L.map formC), .lit (.int .i64 vars)] = some (.lit (.bool (tv (∀ f ∈ L, OkFm f vars)))) := by
  have hG := loopG_all (O := tab (n + 1)) (P := Tryz.prog) (m := 0) (N := 19) (lives := livesOf 91) (r := 2) (C := vl_C2) (M := L.length) (enc := vl_h2 L vars) (p := fun i => tv (∀ f, L[i]? = some f → OkFm f vars)) (exN := .exit 0) (exE := .ret) (out := vl_o2b) (outE := vl_o2a) (by omega) (by simp) (by simp)
    (fun i hi hI => by
      have hx : L[i]? = some L[i] := List.getElem?_eq_getElem hi
      generalize L[i] = f at hx
      have C1 : (i : Int) < (L.length : Int) := by omega
      have W : InI ((i : Int) + 1) := ⟨by omega, by omega⟩
      have K := validF_c (n := n) (vars := vars) (hB f (List.mem_of_getElem? hx))
      have e : tv (∀ g, L[i]? = some g → OkFm g vars) = tv (OkFm f vars) := tv_iff ⟨fun h => h f hx, fun h g hg => by rw [hx] at hg; cases hg; exact h⟩
      rw [e]
      exact ⟨fun hp => vl_r2_1 C1 hx K hp W, fun hp => vl_x2_1 C1 hx K hp⟩)
    (vl_x2_2 (by omega))
  by_cases h : ∀ f ∈ L, OkFm f vars
  · rw [if_pos (fun i hi => tv_t (all_idx.2 h i hi))] at hG
    rw [tv_t h]
    exact vl_f2 hG
  · rw [if_neg (fun h2 => h (all_idx.1 fun i hi => tv_true (h2 i hi)))] at hG
    rw [tv_f h]
    exact vl_f1 hG
structure OkGr (g : TGraph) : Prop where
  i0 : 1 ≤ g.Inputs
  i1 : g.Inputs ≤ 256
  u : (g.Units.length : Int) ≤ 1024
  o0 : 1 ≤ (g.Outputs.length : Int)
  o1 : (g.Outputs.length : Int) ≤ 256
  un : ∀ i, i < g.Units.length → ∀ f, g.Units[i]? = some f → OkFm f (g.Inputs + (i : Int))
  ou : ∀ f ∈ g.Outputs, OkFm f (g.Inputs + (g.Units.length : Int))
structure BdG (b : Nat) (g : TGraph) : Prop where
  lu : g.Units.length ≤ 100000000
  lo : g.Outputs.length ≤ 100000000
  u : ∀ f ∈ g.Units, BdF b f
  o : ∀ f ∈ g.Outputs, BdF b f
theorem validG_c {n : Nat} {g : TGraph} (hB : BdG 17179869184 g) : run (n + 2) 25 [graphV g] = some (.lit (.bool (tv (OkGr g)))) := by
  have hlu := hB.lu
  have hlo := hB.lo
  by_cases c1 : g.Inputs < 1
  · rw [tv_f (fun h => by have := h.i0; omega)]; exact vg_f1 c1
  by_cases c2 : 256 < g.Inputs
  · rw [tv_f (fun h => by have := h.i1; omega)]; exact vg_f2 c1 c2
  by_cases c3 : 1024 < (g.Units.length : Int)
  · rw [tv_f (fun h => by have := h.u; omega)]; exact vg_f3 c1 c2 c3
  by_cases c4 : (g.Outputs.length : Int) < 1
  · rw [tv_f (fun h => by have := h.o0; omega)]; exact vg_f4 c1 c2 c3 c4
  by_cases c5 : 256 < (g.Outputs.length : Int)
  · rw [tv_f (fun h => by have := h.o1; omega)]; exact vg_f5 c1 c2 c3 c4 c5
  have hG := loopG_all (O := tab (n + 2)) (P := Tryz.prog) (m := 0) (N := 57) (lives := livesOf 25) (r := 4) (C := vg_C4) (M := g.Units.length) (enc := vg_h4 g) (p := fun i => tv (∀ f, g.Units[i]? = some f → OkFm f (g.Inputs + (i : Int)))) (exN := .exit 0) (exE := .ret) (out := vg_o4b g) (outE := vg_o4a g) (by omega) (by simp) (by simp)
    (fun i hi hI => by
      have hx : g.Units[i]? = some g.Units[i] := List.getElem?_eq_getElem hi
      generalize g.Units[i] = f at hx
      have C1 : (i : Int) < (g.Units.length : Int) := by omega
      have W : InI ((i : Int) + 1) := ⟨by omega, by omega⟩
      have W2 : InI (g.Inputs + (i : Int)) := ⟨by omega, by omega⟩
      have K := validF_c (n := n + 1) (vars := g.Inputs + (i : Int)) (hB.u f (List.mem_of_getElem? hx))
      have e : tv (∀ f, g.Units[i]? = some f → OkFm f (g.Inputs + (i : Int))) = tv (OkFm f (g.Inputs + (i : Int))) := tv_iff ⟨fun h => h f hx, fun h g hg => by rw [hx] at hg; cases hg; exact h⟩
      rw [e]
      exact ⟨fun hp => vg_r4_1 C1 hx W2 K hp W, fun hp => vg_x4_1 C1 hx W2 K hp⟩)
    (vg_x4_2 (by omega))
  by_cases h : ∀ i, i < g.Units.length → ∀ f, g.Units[i]? = some f → OkFm f (g.Inputs + (i : Int))
  · rw [if_pos (fun i hi => tv_t (h i hi))] at hG
    have K := validFs_c (n := n) (vars := g.Inputs + (g.Units.length : Int)) hlo hB.o
    have e : tv (OkGr g) = tv (∀ f ∈ g.Outputs, OkFm f (g.Inputs + (g.Units.length : Int))) := tv_iff ⟨fun k => k.ou, fun k => ⟨by omega, by omega, by omega, by omega, by omega, h, k⟩⟩
    rw [e]
    exact vg_f7 c1 c2 c3 c4 c5 hG ⟨by omega, by omega⟩ K
  · rw [if_neg (fun h2 => h fun i hi => tv_true (h2 i hi))] at hG
    rw [tv_f (fun k => h k.un)]
    exact vg_f6 c1 c2 c3 c4 c5 hG
theorem SmF.ok {N : Nat} {f : Form} {vars : Int} (h : SmF N f) (hv : (N : Int) ≤ vars) : OkFm f vars := fun i hi v c hx => by
  obtain ⟨a1, a2, a3, a4⟩ := h.l.each _ (List.mem_of_getElem? hx)
  dsimp only at a1 a2 a3
  refine ⟨a1, by omega, a3, fun v' c' h0 hy => ?_⟩
  obtain ⟨l1, e1⟩ := List.getElem?_eq_some_iff.1 hx
  obtain ⟨l2, e2⟩ := List.getElem?_eq_some_iff.1 hy
  have := List.pairwise_iff_getElem.1 h.l.sorted (i - 1) i l2 l1 (by omega)
  rw [e1, e2] at this
  exact this
theorem SmF.bd {N : Nat} {f : Form} (h : SmF N f) (hN : N ≤ 100000000) : BdF 2 f := ⟨by have := h.l.len; omega, fun t ht => (h.l.each t ht).2.2.2, h.k⟩
theorem GrOk.ok {g : TGraph} (h : GrOk g) : OkGr g := by
  have := h.i0
  have := h.i1
  have := h.u
  have := h.o0
  have := h.o1
  exact ⟨by omega, by omega, by omega, by omega, by omega, fun i hi f hf => (h.un i f hf).ok (by omega), fun f hf => (h.ou f hf).ok (by omega)⟩
theorem GrOk.bd {g : TGraph} (h : GrOk g) : BdG 2 g := by
  have := h.i0
  have := h.i1
  have := h.u
  have := h.o1
  refine ⟨by omega, by omega, fun f hf => ?_, fun f hf => (h.ou f hf).bd (by omega)⟩
  obtain ⟨i, hi⟩ := List.mem_iff_getElem?.1 hf
  have := (List.getElem?_eq_some_iff.1 hi).1
  exact (h.un i f hi).bd (by omega)
theorem BdG.mono {b c : Nat} {g : TGraph} (h : BdG b g) (hb : b ≤ c) : BdG c g := ⟨h.lu, h.lo, fun f hf => (h.u f hf).mono hb, fun f hf => (h.o f hf).mono hb⟩
end Go.Proofs.YtlpmemelhlnfbaaGreatDoor
