/- relucertlaw27.forms; program.Valid, relucertref27.Valid of programs whose numbers need not be canonical: what the calls return; valid ones are canonical. program.Text, relucertref27.Text: the same text; relucertlaw27.ProgramText returns true. -/
import Derived.Test.YtlpmemelhlnfbaaGreatDoorGA16
import Derived.Test.YtlpmemelhlnfbaaGreatDoorGA12
import Derived.Test.YtlpmemelhlnfbaaGreatDoorGA17
import Derived.Test.YtlpmemelhlnfbaaGreatDoorGA14
import Derived.Test.YtlpmemelhlnfbaaGreatDoorGA13
set_option linter.all false
set_option linter.all false
set_option maxRecDepth 100000
set_option maxHeartbeats 6400000
namespace Go.Proofs.YtlpmemelhlnfbaaGreatDoor
open Go.RowKit
attribute [local irreducible] run runL loopG exec

def Four (r : Raw) : Prop := r.l1.length ≤ 4 ∧ r.l2.length ≤ 4
/-- few terms of few limbs -/
def Few4 (f : FormR) : Prop := f.1.length ≤ 10 ∧ Four f.2 ∧ ∀ t ∈ f.1, Four t.2
structure FewP (p : TProgramR) : Prop where
  l : p.Rows.length ≤ 10
  o : Few4 p.Objective
  r : ∀ f ∈ p.Rows, Few4 f
structure LimP (p : TProgramR) : Prop where
  o : LimF p.Objective
  r : ∀ f ∈ p.Rows, LimF f
theorem four_rb {r : Raw} (h : Four r) (hl : LimR2 r) : RawB r := ⟨hl.1, hl.2, by have := h.1; omega, by have := h.2; omega⟩
section
variable {n : Nat} {p : TProgramR}
theorem pfm_in {i : Int} {F : List (Int × Raw)} {r : Raw} (hl : F.length ≤ 10) :
    loopG Tryz.prog (tab n) 0 71 (livesOf 15) 12 pfm_C12 (pfm_h12 p i 0 F r) = some (if ∀ k, k < F.length → tv (∀ t, F[k]? = some t → Four t.2) = true then (.exit 2, pfm_o12b p i) else (.ret, pfm_o12a p i)) :=
  loopG_all (O := tab n) (P := Tryz.prog) (m := 0) (N := 71) (lives := livesOf 15) (r := 12) (C := pfm_C12) (M := F.length) (enc := fun k => pfm_h12 p i k F r) (p := fun k => tv (∀ t, F[k]? = some t → Four t.2)) (exN := .exit 2) (exE := .ret) (out := pfm_o12b p i) (outE := pfm_o12a p i) (by omega) (fun h => by cases h) (fun h => by cases h)
    (fun k hk _ => by
      have hx : F[k]? = some F[k] := List.getElem?_eq_getElem hk
      generalize F[k] = t at hx
      obtain ⟨v, c⟩ := t
      have C1 : (k : Int) < (F.length : Int) := by omega
      have e : tv (∀ u, F[k]? = some u → Four u.2) = tv (Four c) := tv_iff ⟨fun h => h (v, c) hx, fun h u hu => by rw [hx] at hu; cases hu; exact h⟩
      rw [e]
      by_cases c1 : 4 < (c.l1.length : Int)
      · exact ⟨fun hp => absurd (tv_true hp).1 (by omega), fun _ => pfm_x12_1 C1 hx c1⟩
      by_cases c2 : 4 < (c.l2.length : Int)
      · exact ⟨fun hp => absurd (tv_true hp).2 (by omega), fun _ => pfm_x12_2 C1 hx c1 c2⟩
      exact ⟨fun _ => pfm_r12_1 C1 hx c1 c2 ⟨by omega, by omega⟩, fun hp => absurd ⟨by omega, by omega⟩ (tv_false hp)⟩)
    (pfm_x12_3 (by omega))
/-- the form of a round: the objective, then the rows -/
def pfF (p : TProgramR) (k : Nat) : FormR := if k = 0 then p.Objective else p.Rows.getD (k - 1) p.Objective
theorem pfm_c (hl : LimP p) : ∃ b, run n 15 [programRV p] = some (.lit (.bool b)) ∧ (b = true → FewP p) := by
  by_cases c0 : 10 < (p.Rows.length : Int)
  · exact ⟨_, pfm_f1 c0, fun h => by cases h⟩
  have hG := loopG_all (O := tab n) (P := Tryz.prog) (m := 0) (N := 71) (lives := livesOf 15) (r := 4) (C := pfm_C4) (M := p.Rows.length + 1) (enc := fun k => pfm_h4 p ((k : Int) - 1)) (p := fun k => tv (Few4 (pfF p k))) (exN := .exit 0) (exE := .ret) (out := pfm_o4b) (outE := pfm_o4a) (by omega) (fun h => by cases h) (fun h => by cases h)
    (fun k hk _ => by
      have C1 : (k : Int) - 1 < (p.Rows.length : Int) := by omega
      have W : InI ((k : Int) - 1 + 1) := ⟨by omega, by omega⟩
      have e9 : (((k + 1 : Nat) : Int) - 1) = (k : Int) - 1 + 1 := by omega
      have step : ∀ (F : List (Int × Raw)) (c : Raw), pfF p k = (F, c) →
          ((¬ 10 < (F.length : Int)) → (¬ 4 < (c.l1.length : Int)) → (¬ 4 < (c.l2.length : Int)) → loopG Tryz.prog (tab n) 0 71 (livesOf 15) 12 pfm_C12 (pfm_h12 p ((k : Int) - 1) 0 F c) = some (.exit 2, pfm_o12b p ((k : Int) - 1)) → Cont 0 (exec Tryz.prog (tab n) 0 71 (livesOf 15) big pfm_C4) (livesOf 15 4) (pfm_h4 p ((k : Int) - 1)) (pfm_h4 p ((k : Int) - 1 + 1))) →
          (10 < (F.length : Int) → Leave 0 (exec Tryz.prog (tab n) 0 71 (livesOf 15) big pfm_C4) (livesOf 15 (outOf 4)) (pfm_h4 p ((k : Int) - 1)) .ret pfm_o4a) →
          (¬ 10 < (F.length : Int) → 4 < (c.l1.length : Int) → Leave 0 (exec Tryz.prog (tab n) 0 71 (livesOf 15) big pfm_C4) (livesOf 15 (outOf 4)) (pfm_h4 p ((k : Int) - 1)) .ret pfm_o4a) →
          (¬ 10 < (F.length : Int) → ¬ 4 < (c.l1.length : Int) → 4 < (c.l2.length : Int) → Leave 0 (exec Tryz.prog (tab n) 0 71 (livesOf 15) big pfm_C4) (livesOf 15 (outOf 4)) (pfm_h4 p ((k : Int) - 1)) .ret pfm_o4a) →
          (¬ 10 < (F.length : Int) → ¬ 4 < (c.l1.length : Int) → ¬ 4 < (c.l2.length : Int) → loopG Tryz.prog (tab n) 0 71 (livesOf 15) 12 pfm_C12 (pfm_h12 p ((k : Int) - 1) 0 F c) = some (.ret, pfm_o12a p ((k : Int) - 1)) → Leave 0 (exec Tryz.prog (tab n) 0 71 (livesOf 15) big pfm_C4) (livesOf 15 (outOf 4)) (pfm_h4 p ((k : Int) - 1)) .ret pfm_o4a) →
          (tv (Few4 (pfF p k)) = true → Cont 0 (exec Tryz.prog (tab n) 0 71 (livesOf 15) big pfm_C4) (livesOf 15 4) (pfm_h4 p ((k : Int) - 1)) (pfm_h4 p ((k : Int) - 1 + 1))) ∧ (tv (Few4 (pfF p k)) = false → Leave 0 (exec Tryz.prog (tab n) 0 71 (livesOf 15) big pfm_C4) (livesOf 15 (outOf 4)) (pfm_h4 p ((k : Int) - 1)) .ret pfm_o4a) := fun F c hF a1 a2 a3 a4 a5 => by
        rw [hF]
        by_cases c1 : 10 < (F.length : Int)
        · exact ⟨fun hp => absurd (tv_true hp).1 (by dsimp only; omega), fun _ => a2 c1⟩
        by_cases c2 : 4 < (c.l1.length : Int)
        · exact ⟨fun hp => absurd (tv_true hp).2.1.1 (by dsimp only; omega), fun _ => a3 c1 c2⟩
        by_cases c3 : 4 < (c.l2.length : Int)
        · exact ⟨fun hp => absurd (tv_true hp).2.1.2 (by dsimp only; omega), fun _ => a4 c1 c2 c3⟩
        have L6 := pfm_in (n := n) (p := p) (i := (k : Int) - 1) (F := F) (r := c) (by omega)
        by_cases c4 : ∀ j, j < F.length → tv (∀ t, F[j]? = some t → Four t.2) = true
        · rw [if_pos c4] at L6
          refine ⟨fun _ => a1 c1 c2 c3 L6, fun hp => absurd ⟨by dsimp only; omega, ⟨by dsimp only; omega, by dsimp only; omega⟩, fun t ht => ?_⟩ (tv_false hp)⟩
          obtain ⟨j, hj⟩ := List.mem_iff_getElem?.1 ht
          exact tv_true (c4 j (List.getElem?_eq_some_iff.1 hj).1) t hj
        · rw [if_neg c4] at L6
          exact ⟨fun hp => absurd (fun j hj => tv_t fun t ht => (tv_true hp).2.2 t (List.mem_of_getElem? ht)) c4, fun _ => a5 c1 c2 c3 L6⟩
      rw [e9]
      by_cases h0 : k = 0
      · have c5 : ¬ 0 ≤ (k : Int) - 1 := by omega
        exact step p.Objective.1 p.Objective.2 (if_pos h0) (fun x1 x2 x3 L => pfm_r4_2 C1 c5 x1 x2 x3 L W) (fun x1 => pfm_x4_5 C1 c5 x1) (fun x1 x2 => pfm_x4_6 C1 c5 x1 x2) (fun x1 x2 x3 => pfm_x4_7 C1 c5 x1 x2 x3) (fun x1 x2 x3 L => pfm_x4_8 C1 c5 x1 x2 x3 L)
      · have c5 : 0 ≤ (k : Int) - 1 := by omega
        have ek : ((k : Int) - 1).toNat = k - 1 := by omega
        have hx : p.Rows[k - 1]? = some (p.Rows[k - 1]'(by omega)) := List.getElem?_eq_getElem _
        obtain ⟨f, hf⟩ : ∃ f, p.Rows[k - 1]'(by omega) = f := ⟨_, rfl⟩
        rw [hf] at hx
        have hp : pfF p k = f := by
          unfold pfF
          rw [if_neg h0, List.getD_eq_getElem?_getD, hx]
          rfl
        have hx2 : p.Rows[((k : Int) - 1).toNat]? = some (f.1, f.2) := by rw [ek, hx]
        exact step f.1 f.2 hp (fun x1 x2 x3 L => pfm_r4_1 C1 c5 hx2 c5 x1 x2 x3 L W) (fun x1 => pfm_x4_1 C1 c5 hx2 c5 x1) (fun x1 x2 => pfm_x4_2 C1 c5 hx2 c5 x1 x2) (fun x1 x2 x3 => pfm_x4_3 C1 c5 hx2 c5 x1 x2 x3) (fun x1 x2 x3 L => pfm_x4_4 C1 c5 hx2 c5 x1 x2 x3 L))
    (pfm_x4_9 (by omega))
  have e0 : (((0 : Nat) : Int) - 1) = -1 := rfl
  by_cases hA : ∀ k, k < p.Rows.length + 1 → tv (Few4 (pfF p k)) = true
  · rw [if_pos hA] at hG
    refine ⟨_, pfm_f3 c0 hG, fun _ => ⟨by omega, tv_true (hA 0 (by omega)), fun f hf => ?_⟩⟩
    obtain ⟨i, hi⟩ := List.mem_iff_getElem?.1 hf
    have h9 := tv_true (hA (i + 1) (by have := (List.getElem?_eq_some_iff.1 hi).1; omega))
    unfold pfF at h9
    rw [if_neg (by omega), Nat.add_sub_cancel, List.getD_eq_getElem?_getD, hi] at h9
    exact h9
  · rw [if_neg hA] at hG
    exact ⟨_, pfm_f2 c0 hG, fun h => by cases h⟩
/-! Valid -/
structure OkPR (p : TProgramR) : Prop where
  v0 : 0 ≤ p.Vars
  v1 : p.Vars ≤ 1280
  o : OkFR p.Objective p.Vars
  r : ∀ f ∈ p.Rows, OkFR f p.Vars
theorem few_lv (h : FewP p) (hl : LimP p) (vars : Int) : (run n 60 [frV p.Objective, .lit (.int .i64 vars)] = some (.lit (.bool (tv (OkFR p.Objective vars))))) ∧ (∀ f ∈ p.Rows, run n 60 [frV f, .lit (.int .i64 vars)] = some (.lit (.bool (tv (OkFR f vars))))) ∧ (run n 51 [frV p.Objective, .lit (.int .i64 vars)] = some (.lit (.bool (tv (OkFR p.Objective vars))))) ∧ ∀ f ∈ p.Rows, run n 51 [frV f, .lit (.int .i64 vars)] = some (.lit (.bool (tv (OkFR f vars)))) :=
  ⟨lvalidRB_c (by have := h.o.1; omega) (fun t ht => four_rb (h.o.2.2 t ht) (hl.o.t t ht)) (four_rb h.o.2.1 hl.o.k),
   fun f hf => lvalidRB_c (by have := (h.r f hf).1; omega) (fun t ht => four_rb ((h.r f hf).2.2 t ht) ((hl.r f hf).t t ht)) (four_rb (h.r f hf).2.1 (hl.r f hf).k),
   validRB_c (by have := h.o.1; omega) (fun t ht => four_rb (h.o.2.2 t ht) (hl.o.t t ht)) (four_rb h.o.2.1 hl.o.k),
   fun f hf => validRB_c (by have := (h.r f hf).1; omega) (fun t ht => four_rb ((h.r f hf).2.2 t ht) ((hl.r f hf).t t ht)) (four_rb (h.r f hf).2.1 (hl.r f hf).k)⟩
theorem pvR_c (h : FewP p) (hl : LimP p) : run (n + 1) 65 [programRV p] = some (.lit (.bool (tv (OkPR p)))) := by
  have hr := h.l
  by_cases c1 : p.Vars < 0
  · rw [tv_f (fun h => by have := h.v0; omega)]; exact pvR_f1 c1
  by_cases c2 : 1280 < p.Vars
  · rw [tv_f (fun h => by have := h.v1; omega)]; exact pvR_f2 c1 c2
  obtain ⟨k1, k2, _, _⟩ := few_lv (n := n) h hl p.Vars
  by_cases c3 : ¬ OkFR p.Objective p.Vars
  · rw [tv_f c3] at k1
    rw [tv_f (fun h => c3 h.o)]
    exact pvR_f4 c1 c2 (by omega) k1 rfl
  replace c3 := Classical.not_not.1 c3
  rw [tv_t c3] at k1
  have hG := loopG_all (O := tab (n + 1)) (P := Tryz.prog) (m := 0) (N := 40) (lives := livesOf 65) (r := 4) (C := pvR_C4) (M := p.Rows.length) (enc := pvR_h4 p) (p := fun i => tv (∀ f, p.Rows[i]? = some f → OkFR f p.Vars)) (exN := .exit 0) (exE := .ret) (out := pvR_o4b) (outE := pvR_o4a) (by omega) (fun h => by cases h) (fun h => by cases h)
    (fun i hi _ => by
      have hx : p.Rows[i]? = some p.Rows[i] := List.getElem?_eq_getElem hi
      generalize p.Rows[i] = f at hx
      have C1 : (i : Int) < (p.Rows.length : Int) := by omega
      have K := k2 f (List.mem_of_getElem? hx)
      have e : tv (∀ g, p.Rows[i]? = some g → OkFR g p.Vars) = tv (OkFR f p.Vars) := tv_iff ⟨fun h => h f hx, fun h g hg => by rw [hx] at hg; cases hg; exact h⟩
      rw [e]
      exact ⟨fun hp => pvR_r4_1 C1 hx K hp ⟨by omega, by omega⟩, fun hp => pvR_x4_1 C1 hx K hp⟩)
    (pvR_x4_2 (by omega))
  by_cases c4 : ∀ f ∈ p.Rows, OkFR f p.Vars
  · rw [if_pos (fun i hi => tv_t (all_idx.2 c4 i hi))] at hG
    rw [tv_t ⟨by omega, by omega, c3, c4⟩]
    exact pvR_f6 c1 c2 (by omega) k1 rfl hG
  · rw [if_neg (fun h2 => c4 (all_idx.1 fun i hi => tv_true (h2 i hi)))] at hG
    rw [tv_f (fun h => c4 h.r)]
    exact pvR_f5 c1 c2 (by omega) k1 rfl hG
theorem fvR_c (h : FewP p) (hl : LimP p) : run (n + 1) 71 [programRV p] = some (.lit (.bool (tv (OkPR p)))) := by
  have hr := h.l
  by_cases c1 : p.Vars < 0
  · rw [tv_f (fun h => by have := h.v0; omega)]; exact fvR_f1 c1
  by_cases c2 : 1280 < p.Vars
  · rw [tv_f (fun h => by have := h.v1; omega)]; exact fvR_f2 c1 c2
  obtain ⟨_, _, k1, k2⟩ := few_lv (n := n) h hl p.Vars
  by_cases c3 : ¬ OkFR p.Objective p.Vars
  · rw [tv_f c3] at k1
    rw [tv_f (fun h => c3 h.o)]
    exact fvR_f4 c1 c2 (by omega) k1 rfl
  replace c3 := Classical.not_not.1 c3
  rw [tv_t c3] at k1
  have hG := loopG_all (O := tab (n + 1)) (P := Tryz.prog) (m := 0) (N := 42) (lives := livesOf 71) (r := 4) (C := fvR_C4) (M := p.Rows.length) (enc := fvR_h4 p) (p := fun i => tv (∀ f, p.Rows[i]? = some f → OkFR f p.Vars)) (exN := .exit 0) (exE := .ret) (out := fvR_o4b) (outE := fvR_o4a) (by omega) (fun h => by cases h) (fun h => by cases h)
    (fun i hi _ => by
      have hx : p.Rows[i]? = some p.Rows[i] := List.getElem?_eq_getElem hi
      generalize p.Rows[i] = f at hx
      have C1 : (i : Int) < (p.Rows.length : Int) := by omega
      have K := k2 f (List.mem_of_getElem? hx)
      have e : tv (∀ g, p.Rows[i]? = some g → OkFR g p.Vars) = tv (OkFR f p.Vars) := tv_iff ⟨fun h => h f hx, fun h g hg => by rw [hx] at hg; cases hg; exact h⟩
      rw [e]
      exact ⟨fun hp => fvR_r4_1 C1 hx K hp ⟨by omega, by omega⟩, fun hp => fvR_x4_1 C1 hx K hp⟩)
    (fvR_x4_2 (by omega))
  by_cases c4 : ∀ f ∈ p.Rows, OkFR f p.Vars
  · rw [if_pos (fun i hi => tv_t (all_idx.2 c4 i hi))] at hG
    rw [tv_t ⟨by omega, by omega, c3, c4⟩]
    exact fvR_f6 c1 c2 (by omega) k1 rfl hG
  · rw [if_neg (fun h2 => c4 (all_idx.1 fun i hi => tv_true (h2 i hi)))] at hG
    rw [tv_f (fun h => c4 h.r)]
    exact fvR_f5 c1 c2 (by omega) k1 rfl hG
end
end Go.Proofs.YtlpmemelhlnfbaaGreatDoor
set_option linter.all false
set_option maxRecDepth 100000
set_option maxHeartbeats 6400000
namespace Go.Proofs.YtlpmemelhlnfbaaGreatDoor
open Go.RowKit
attribute [local irreducible] run runL loopG exec plw

def tl0 : List UInt8 := [32, 62, 61, 32, 48, 10]
def hd0 : List UInt8 := [109, 105, 110, 105, 109, 105, 122, 101, 32]
/-- the text of a program -/
def ptxt (p : TProgram) : List UInt8 := (p.Rows).foldl (fun s f => s ++ (txt f ++ tl0)) (hd0 ++ txt p.Objective ++ [10])
structure TxP (p : TProgram) : Prop where
  l : p.Rows.length ≤ 10
  o : TxB p.Objective
  r : ∀ f ∈ p.Rows, TxB f
theorem txt_len {f : Form} (hf : TxB f) : (txt f).length ≤ 700000 := by
  have h := txL_len (l := f.1) (a := []) hf.t
  have hm : f.1.length * 6703 ≤ 100 * 6703 := Nat.mul_le_mul_right _ hf.l
  have hk := absT_len2 hf.k
  have hj := jn_len (txL f.1) (ngT f.2) (absT f.2)
  simp only [List.length_nil, Nat.zero_add] at h
  have h2 : (txL f.1).length ≤ f.1.length * 6703 := h
  unfold txt
  split <;> omega
theorem fold_len {g : Form → List UInt8} {m : Nat} : ∀ {R : List Form} {a : List UInt8}, (∀ f ∈ R, (g f).length ≤ m) → (R.foldl (fun s f => s ++ g f) a).length ≤ a.length + R.length * m
  | [], a, _ => by simp
  | f :: R, a, h => by
    have h1 := h f (by simp)
    have h2 := fold_len (R := R) (a := a ++ g f) (fun u hu => h u (by simp [hu]))
    rw [List.foldl_cons, List.length_cons, Nat.add_mul]
    rw [List.length_append] at h2
    omega
theorem fold_snoc {g : Form → List UInt8} (R : List Form) (f : Form) (a : List UInt8) : (R ++ [f]).foldl (fun s f => s ++ g f) a = R.foldl (fun s f => s ++ g f) a ++ g f := by
  rw [List.foldl_append]; rfl
section
variable {n : Nat}
/-- a write to a builder that holds bytes -/
theorem bw_c {a s : List UInt8} (hl : a.length + s.length ≤ 90000000) : ∃ r : Int, runL (n + 1) 69 [.ptr 0 0, .lit (.string (bs s))] [.box 88 [.ptr 0 0, .own 1 (bs a).size] false, .row 5 1 (strEls (bs a)) 0] = some (.tup [.lit (.int .i64 r), .lit .nilIface], [(0, .box 88 [.ptr 0 0, .own 2 (bs (a ++ s)).size] false), (2, .row 5 1 (strEls (bs (a ++ s))) 0)]) := by
  have h := bws_1 (n := n) (a := bs a) (s := bs s) (roomy_s (by rw [bs_size, bs_size]; omega) (by omega))
  have h2 : (bs a).size + (bs s).size = (bs (a ++ s)).size := by rw [bs_size, bs_size, bs_size, List.length_append]
  rw [bs_app, h2] at h
  exact ⟨_, h⟩
theorem bw0_c {s : List UInt8} (hl : s.length ≤ 90000000) : ∃ r : Int, runL (n + 1) 69 [.ptr 0 0, .lit (.string (bs s))] [.box 88 [.lit (.pointer none), .nl 1] false] = some (.tup [.lit (.int .i64 r), .lit .nilIface], [(0, .box 88 [.ptr 0 0, .own 1 (bs s).size] false), (1, .row 5 1 (strEls (bs s)) 0)]) :=
  ⟨_, bws_0 (n := n) (s := bs s) (roomy_s (by rw [bs_size]; omega) (by omega))⟩
theorem ptx_c {p : TProgram} (hp : TxP p) (hv : run (n + 7) 65 [programV p] = some (.lit (.bool true))) : run (n + 8) 16 [programV p] = some (.lit (.string (bs (ptxt p)))) := by
  have hl := hp.l
  have ho := txt_len hp.o
  have hr := fun f hf => txt_len (hp.r f hf)
  have c1 : (⟨#[109, 105, 110, 105, 109, 105, 122, 101, 32]⟩ : ByteArray) = bs hd0 := rfl
  have c2 : (⟨#[10]⟩ : ByteArray) = bs [10] := rfl
  have c3 : (⟨#[32, 62, 61, 32, 48, 10]⟩ : ByteArray) = bs tl0 := rfl
  have hT : ∀ i, i ≤ p.Rows.length → ((p.Rows.take i).foldl (fun s f => s ++ (txt f ++ tl0)) (hd0 ++ txt p.Objective ++ [10])).length ≤ 700010 + i * 700006 := fun i hi => by
    have h := fold_len (g := fun f => txt f ++ tl0) (m := 700006) (R := p.Rows.take i) (a := hd0 ++ txt p.Objective ++ [10]) (fun f hf => by
      have := hr f (List.mem_of_mem_take hf)
      rw [List.length_append]; show _ + 6 ≤ _; omega)
    rw [List.length_take, Nat.min_eq_left hi, List.length_append, List.length_append] at h
    have : hd0.length = 9 := rfl
    have : ([10] : List UInt8).length = 1 := rfl
    omega
  have h0 := hT 0 (Nat.zero_le _)
  have K3 := ltx_c (n := n) hp.o
  obtain ⟨r0, K6⟩ := bw0_c (n := n + 6) (s := hd0 ++ txt p.Objective ++ [10]) (by have : ((p.Rows.take 0).foldl (fun s f => s ++ (txt f ++ tl0)) (hd0 ++ txt p.Objective ++ [10])) = hd0 ++ txt p.Objective ++ [10] := rfl; rw [this] at h0; omega)
  obtain ⟨b, hL, hI1, hI2⟩ := loopG_R (O := tab (n + 8)) (P := Tryz.prog) (m := 0) (N := 28) (lives := livesOf 16) (r := 6) (C := ptx_C6) (exN := .exit 0) (M := p.Rows.length)
    (enc := fun i (b : List UInt8) => ptx_h6 p i (bs b)) (out := fun b => ptx_o6a (bs b))
    (fun i b => b = (p.Rows.take i).foldl (fun s f => s ++ (txt f ++ tl0)) (hd0 ++ txt p.Objective ++ [10]) ∧ i ≤ p.Rows.length) (hd0 ++ txt p.Objective ++ [10]) ⟨rfl, Nat.zero_le _⟩ (by omega) (fun h => by cases h)
    (fun i b hi hI => by
      obtain ⟨hb, hle⟩ := hI
      have hx : p.Rows[i]? = some p.Rows[i] := List.getElem?_eq_getElem hi
      obtain ⟨f, ht⟩ : ∃ f, p.Rows[i] = f := ⟨_, rfl⟩
      rw [ht] at hx
      have htk : p.Rows.take (i + 1) = p.Rows.take i ++ [f] := by rw [List.take_add_one, hx]; rfl
      have hf := List.mem_of_getElem? hx
      have hbl := hT i hle
      rw [← hb] at hbl
      have hfl := hr f hf
      have hi6 : i * 700006 ≤ 10 * 700006 := Nat.mul_le_mul_right _ (by omega)
      have htl : tl0.length = 6 := rfl
      have K := ltx_c (n := n) (hp.r f hf)
      obtain ⟨r, W⟩ := bw_c (n := n + 6) (a := b) (s := txt f ++ tl0) (by rw [List.length_append]; omega)
      refine ⟨b ++ (txt f ++ tl0), ?_, by rw [htk, fold_snoc, ← hb], hi⟩
      exact ptx_r6_1 (r13 := 0) (by omega) hx K (by rw [c3, bs_size, bs_size]; omega) (by rw [c3, bs_app]) W ⟨by omega, by omega⟩)
    (fun b hI => ptx_x6_1 (by omega))
  rw [List.take_length] at hI1
  have hbl := hT p.Rows.length (Nat.le_refl _)
  rw [List.take_length, ← hI1] at hbl
  have hi6 : p.Rows.length * 700006 ≤ 10 * 700006 := Nat.mul_le_mul_right _ (by omega)
  have hne : b ≠ [] := fun e => by
    rw [e] at hI1
    have h9 : ∀ (R : List Form) (a : List UInt8), a ≠ [] → R.foldl (fun s f => s ++ (txt f ++ tl0)) a ≠ [] := fun R => by
      induction R with
      | nil => intro a ha; exact ha
      | cons f R ih => intro a ha; rw [List.foldl_cons]; exact ih _ (by simp [ha])
    exact h9 _ _ (by simp) hI1.symm
  have Z := bstr_c (n := n + 1) hne (by omega)
  have S1 : (⟨#[109, 105, 110, 105, 109, 105, 122, 101, 32]⟩ : ByteArray).size + (bs (txt p.Objective)).size ≤ 9000000000000000000 := by rw [c1, bs_size, bs_size]; show 9 + _ ≤ _; omega
  have S2 : (bs (hd0 ++ txt p.Objective)).size + (⟨#[10]⟩ : ByteArray).size ≤ 9000000000000000000 := by
    rw [c2, bs_size, bs_size, List.length_append]; show 9 + _ + 1 ≤ _; omega
  have R := ptx_f2 (r4 := 0) hv rfl K3 S1 (by rw [c1, bs_app]) S2 (by rw [c2, bs_app]) K6 hL Z
  rw [hI1] at R
  exact R
theorem ptf_c {p : TProgram} (hp : TxP p) (hv : run (n + 6) 71 [programV p] = some (.lit (.bool true))) : run (n + 7) 17 [programV p] = some (.lit (.string (bs (ptxt p)))) := by
  have hl := hp.l
  have ho := txt_len hp.o
  have hr := fun f hf => txt_len (hp.r f hf)
  have c1 : (⟨#[109, 105, 110, 105, 109, 105, 122, 101, 32]⟩ : ByteArray) = bs hd0 := rfl
  have c2 : (⟨#[10]⟩ : ByteArray) = bs [10] := rfl
  have c3 : (⟨#[32, 62, 61, 32, 48, 10]⟩ : ByteArray) = bs tl0 := rfl
  have hT : ∀ i, i ≤ p.Rows.length → ((p.Rows.take i).foldl (fun s f => s ++ (txt f ++ tl0)) (hd0 ++ txt p.Objective ++ [10])).length ≤ 700010 + i * 700006 := fun i hi => by
    have h := fold_len (g := fun f => txt f ++ tl0) (m := 700006) (R := p.Rows.take i) (a := hd0 ++ txt p.Objective ++ [10]) (fun f hf => by
      have := hr f (List.mem_of_mem_take hf)
      rw [List.length_append]; show _ + 6 ≤ _; omega)
    rw [List.length_take, Nat.min_eq_left hi, List.length_append, List.length_append] at h
    have : hd0.length = 9 := rfl
    have : ([10] : List UInt8).length = 1 := rfl
    omega
  have K3 := ftx_c (n := n) hp.o
  obtain ⟨b, hL, hI1, hI2⟩ := loopG_R (O := tab (n + 7)) (P := Tryz.prog) (m := 0) (N := 30) (lives := livesOf 17) (r := 5) (C := ptf_C5) (exN := .exit 0) (M := p.Rows.length)
    (enc := fun i (b : List UInt8) => ptf_h5 p (bs b) i) (out := fun b => ptf_o5a (bs b))
    (fun i b => b = (p.Rows.take i).foldl (fun s f => s ++ (txt f ++ tl0)) (hd0 ++ txt p.Objective ++ [10]) ∧ i ≤ p.Rows.length) (hd0 ++ txt p.Objective ++ [10]) ⟨rfl, Nat.zero_le _⟩ (by omega) (fun h => by cases h)
    (fun i b hi hI => by
      obtain ⟨hb, hle⟩ := hI
      have hx : p.Rows[i]? = some p.Rows[i] := List.getElem?_eq_getElem hi
      obtain ⟨f, ht⟩ : ∃ f, p.Rows[i] = f := ⟨_, rfl⟩
      rw [ht] at hx
      have htk : p.Rows.take (i + 1) = p.Rows.take i ++ [f] := by rw [List.take_add_one, hx]; rfl
      have hf := List.mem_of_getElem? hx
      have hbl := hT i hle
      rw [← hb] at hbl
      have hfl := hr f hf
      have hi6 : i * 700006 ≤ 10 * 700006 := Nat.mul_le_mul_right _ (by omega)
      have htl : tl0.length = 6 := rfl
      have K := ftx_c (n := n) (hp.r f hf)
      refine ⟨b ++ (txt f ++ tl0), ?_, by rw [htk, fold_snoc, ← hb], hi⟩
      exact ptf_r5_1 (by omega) hx K (by rw [bs_size, bs_size]; omega) rfl (by rw [bs_app, c3, bs_size, bs_size, List.length_append]; omega) (by rw [c3, bs_app, bs_app, List.append_assoc]) ⟨by omega, by omega⟩)
    (fun b hI => ptf_x5_1 (by omega))
  rw [List.take_length] at hI1
  have S1 : (⟨#[109, 105, 110, 105, 109, 105, 122, 101, 32]⟩ : ByteArray).size + (bs (txt p.Objective)).size ≤ 9000000000000000000 := by rw [c1, bs_size, bs_size]; show 9 + _ ≤ _; omega
  have S2 : (bs (hd0 ++ txt p.Objective)).size + (⟨#[10]⟩ : ByteArray).size ≤ 9000000000000000000 := by
    rw [c2, bs_size, bs_size, List.length_append]; show 9 + _ + 1 ≤ _; omega
  have R := ptf_f2 hv rfl K3 S1 (by rw [c1, bs_app]) S2 (by rw [c2, bs_app]) hL
  rw [hI1] at R
  exact R
end
def unP (p : TProgramR) : TProgram := ⟨p.Vars, p.Rows.map unR, unR p.Objective⟩
theorem prog_un {p : TProgramR} (h : FewP p) (hO : OkPR p) : programRV p = programV (unP p) ∧ TxP (unP p) := by
  have one : ∀ f, Few4 f → OkFR f p.Vars → frV f = formV (unR f) ∧ TxB (unR f) := fun f h1 h2 => by
    obtain ⟨s1, s2, s3, s4, s5⟩ := small_formB (m := 4) (by omega) (fun t ht => h1.2.2 t ht) h1.2.1 h2
    have := h1.1
    have h9 := s5.srt.2
    have := hO.v1
    exact ⟨s1, by omega, fun t ht => ⟨by have := s3 t ht; omega, (h9 t ht).1, by have := (h9 t ht).2; omega⟩, by omega⟩
  obtain ⟨o1, o2⟩ := one _ h.o hO.o
  have er : p.Rows.map formRC = (p.Rows.map unR).map formC := by
    rw [List.map_map]
    apply List.map_congr_left
    intro f hf
    have e : AV.agg (formRC f) = AV.agg (formC (unR f)) := (one f (h.r f hf) (hO.r f hf)).1
    exact AV.agg.inj e
  have eo : formRC p.Objective = formC (unR p.Objective) := AV.agg.inj o1
  have hl := h.l
  refine ⟨?_, by show (p.Rows.map unR).length ≤ 10; rw [List.length_map]; exact hl, o2, fun f hf => ?_⟩
  · simp only [formRC, formC] at eo
    simp only [programRV, programV, unP, er, eo]
  · obtain ⟨f0, h0, rfl⟩ := List.mem_map.1 (show f ∈ p.Rows.map unR from hf)
    exact (one f0 (h.r f0 h0) (hO.r f0 h0)).2
theorem program_true {n : Nat} {p : TProgramR} (hl : LimP p) : plw n [programRV p] = some (.lit (.bool true)) := by
  obtain ⟨b, K1, hb⟩ := pfm_c (n := n + 8) hl
  cases b with
  | false => exact plw_f1 K1 rfl
  | true =>
  have hF := hb rfl
  have V1 := pvR_c (n := n + 6) hF hl
  have V2 := fvR_c (n := n + 6) hF hl
  have fin : ∀ s : ByteArray, run (n + 8) 16 [programRV p] = some (.lit (.string s)) → run (n + 8) 17 [programRV p] = some (.lit (.string s)) → plw n [programRV p] = some (.lit (.bool true)) := fun s h1 h2 => by
    have R := plw_f2 K1 rfl h1 h2
    rw [beq_self_eq_true] at R
    exact R
  by_cases hO : OkPR p
  · rw [tv_t hO] at V1 V2
    obtain ⟨e, hT⟩ := prog_un hF hO
    rw [e] at V1 V2 fin ⊢
    exact fin _ (ptx_c (n := n) hT V1) (ptf_c (n := n + 1) hT V2)
  · rw [tv_f hO] at V1 V2
    exact fin _ (ptxR_f1 (n := n) V1 rfl) (ptfR_f1 (n := n + 1) V2 rfl)
end Go.Proofs.YtlpmemelhlnfbaaGreatDoor
