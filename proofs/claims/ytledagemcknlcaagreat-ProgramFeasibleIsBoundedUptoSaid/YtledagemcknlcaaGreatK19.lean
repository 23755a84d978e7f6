/- rows in memory; relucertref27.pairs: what the call returns. lists of rows that grow. the elimination of a variable, step by step. relucertref27.eliminate: what the call returns. -/
import Derived.Test.YtledagemcknlcaaGreatK18
set_option linter.all false
namespace Go.Proofs.YtledagemcknlcaaGreat
open Go.RowKit

/-- a row in memory: its coefficients, and the set of rows that it comes from -/
structure WD where
  ad : Option Addr
  n : Nat
  c : Nat
  xs : List Int
  b : Nat
def WD.In (r : WD) (w : World) : Prop := IntR w r.ad r.n r.c r.xs
def WD.at (r : WD) (v : Nat) : Int := r.xs.getD v 0
def WD.k (r : WD) : KRow := (fun u => ((r.at u : Int) : Rat), r.b)
/-- a good row of K coefficients -/
structure OkW (K : Nat) (r : WD) : Prop where
  n : r.n = K
  bd : ∀ (i : Nat) (x : Int), r.xs[i]? = some x → -1073741824 ≤ x ∧ x ≤ 1073741824
  b : r.b < 18446744073709551616
/-- the slice reads as the rows rs -/
structure WsR (w : World) (ad : Option Addr) (n c : Nat) (rs : List WD) : Prop where
  len : rs.length = n
  cap : n ≤ c
  ok : ∀ (i : Nat) (r : WD), rs[i]? = some r → r.In w
  cells : 0 < n → ∃ b o, ad = some ⟨b, o, none⟩ ∧ b < w.heap.size ∧ ∀ (i : Nat) (r : WD), rs[i]? = some r →
    w.cell? ⟨b, o + i * 2, none⟩ = some (.slice r.ad r.n r.c) ∧ w.cell? ⟨b, o + i * 2 + 1, none⟩ = some (.int .u64 (r.b : Int))
theorem WD.In.on {r : WD} {w w' : World} (h : r.In w) (hb : Below w.heap.size w w') : r.In w' := IntR.on h hb
theorem WsR.on {w w' : World} {ad : Option Addr} {n c : Nat} {rs : List WD} (h : WsR w ad n c rs) (hb : Below w.heap.size w w') : WsR w' ad n c rs :=
  ⟨h.len, h.cap, fun i t ht => (h.ok i t ht).on hb, fun h0 => by
    obtain ⟨b, o, e, hlt, hc⟩ := h.cells h0
    refine ⟨b, o, e, Nat.lt_of_lt_of_le hlt hb.size, fun i t ht => ?_⟩
    obtain ⟨e0, e1⟩ := hc i t ht
    have f := fun k => hb.cell (p := ⟨b, k, none⟩) hlt
    exact ⟨(f _).trans e0, (f _).trans e1⟩⟩
/-- a row of the list and one of its coefficients, as the walk reads them -/
theorem WsR.at_ {w : World} {ad : Option Addr} {n c K : Nat} {rs : List WD} (h : WsR w ad n c rs) (ho : ∀ (i : Nat) (r : WD), rs[i]? = some r → OkW K r) {i : Nat} (hi : i < n) :
    ∃ b o b2 o2 rc rb r, ad = some ⟨b, o, none⟩ ∧ b < w.heap.size ∧ Hid (rs[i]? = some r) ∧ Hid (OkW K r) ∧ Hid (r.b = rb) ∧ rb < 18446744073709551616 ∧ K ≤ rc ∧ Hid (r.ad = some ⟨b2, o2, none⟩ ∨ K = 0) ∧ b2 < w.heap.size ∧
      w.cell? ⟨b, o + i * 2, none⟩ = some (.slice (some ⟨b2, o2, none⟩) K rc) ∧ w.cell? ⟨b, o + i * 2 + 1, none⟩ = some (.int .u64 (rb : Int)) ∧
      Hid (∀ v, v < K → w.cell? ⟨b2, o2 + v, none⟩ = some (.int .i64 (r.at v))) ∨ K = 0 := by
  by_cases hK : K = 0
  · exact ⟨0, 0, 0, 0, 0, 0, ⟨none, 0, 0, [], 0⟩, Or.inr hK⟩
  obtain ⟨b, o, e, hb, hc⟩ := h.cells (by omega)
  have hl := h.len
  have ht : rs[i]? = some (rs[i]'(by omega)) := List.getElem?_eq_getElem _
  generalize rs[i]'(by omega) = r at ht
  have hok := ho i r ht
  have hI : IntR w r.ad r.n r.c r.xs := h.ok i r ht
  obtain ⟨b2, o2, e2, hb2, hc2⟩ := hI.cells (by have := hok.n; omega)
  obtain ⟨d1, d2⟩ := hc i r ht
  refine ⟨b, o, b2, o2, r.c, r.b, r, Or.inl ⟨e, hb, ht, hok, rfl, hok.b, ?_, Or.inl e2, hb2, ?_, d2, ?_⟩⟩
  · have := hI.cap; have := hok.n; omega
  · rw [d1, e2, hok.n]
  · intro v hv
    have h9 : r.xs[v]? = some (r.xs[v]'(by have := hI.len; have := hok.n; omega)) := List.getElem?_eq_getElem _
    rw [hc2 v _ h9]
    unfold WD.at
    rw [List.getD_eq_getElem?_getD, h9]; rfl
theorem OkW.at_ {K : Nat} {r : WD} (h : OkW K r) (v : Nat) : -1073741824 ≤ r.at v ∧ r.at v ≤ 1073741824 := by
  unfold WD.at
  rw [List.getD_eq_getElem?_getD]
  rcases e : r.xs[v]? with _ | x
  · exact ⟨by decide, by decide⟩
  · exact h.bd v x e
def nPos (rs : List WD) (v : Nat) : Nat := rs.countP (fun r => decide (0 < r.at v))
def nNeg (rs : List WD) (v : Nat) : Nat := rs.countP (fun r => decide (r.at v < 0))
theorem countP_take {rs : List WD} (p : WD → Bool) {i : Nat} {r : WD} (h : rs[i]? = some r) : (rs.take (i + 1)).countP p = (rs.take i).countP p + if p r then 1 else 0 := by
  rw [List.take_add_one, h, List.countP_append]
  simp [List.countP_cons]
set_option maxRecDepth 100000 in
set_option maxHeartbeats 6400000 in
theorem pairs_c (w : World) {ad : Option Addr} {n c K v : Nat} {rs : List WD} (h : WsR w ad n c rs) (ho : ∀ (i : Nat) (r : WD), rs[i]? = some r → OkW K r) (hn : n ≤ 1048576) (hv : v < K) (hK : K ≤ 1048576) :
    Calls Tryz.prog 43 #[.slice ad n c, .int .i64 (v : Int)] w (RetInt ((nPos rs v * nNeg rs v : Nat) : Int) w) := by
  have HO : Hid (∀ (i : Nat) (r : WD), rs[i]? = some r → OkW K r) := ho
  have HL := Lib.hid h.len
  clear ho
  go_enter Tryz.func43, Tryz.ntmps43
  go_wp2_with fail
  go_loopw [5, 6, 7] (fun s5 s6 s7 wr => ∃ i p q : Nat, i ≤ n ∧ s7 = .int .i64 (i : Nat) ∧ s5 = .int .i64 (p : Nat) ∧ s6 = .int .i64 (q : Nat) ∧ p ≤ i ∧ q ≤ i ∧ Hid (p = nPos (rs.take i) v) ∧ Hid (q = nNeg (rs.take i) v) ∧ Below w.heap.size w wr) (fun _ _ i _ => n - (intOf i).toNat)
  case atStart => exact ⟨0, 0, 0, by omega, rfl, rfl, rfl, by omega, by omega, rfl, rfl, Below.refl _ _⟩
  case round =>
    obtain ⟨i, p, q, hi, rfl, rfl, rfl, hp, hq, HP, HQ, hb⟩ := hrel
    have hr := h.on hb
    by_cases hlt : i < n
    · obtain ⟨B, o, b2, o2, rc, rb, r, hh⟩ := hr.at_ HO.out hlt
      obtain ⟨rfl, hB, HR, HOK, HRB, hrb, hrc, HAD, hb2, c0, c1, HC⟩ : _ := hh.resolve_right (by omega)
      have cv := HC.out v hv
      have hbd := HOK.out.at_ v
      have HP2 : Hid (nPos (rs.take (i + 1)) v = p + if decide (0 < r.at v) then 1 else 0) := (by unfold nPos; rw [countP_take _ HR.out, HP.out]; rfl : nPos (rs.take (i + 1)) v = p + if decide (0 < r.at v) then 1 else 0)
      have HQ2 : Hid (nNeg (rs.take (i + 1)) v = q + if decide (r.at v < 0) then 1 else 0) := (by unfold nNeg; rw [countP_take _ HR.out, HQ.out]; rfl : nNeg (rs.take (i + 1)) v = q + if decide (r.at v < 0) then 1 else 0)
      generalize r.at v = x at *
      by_cases h1 : 0 < x
      · have HP3 : Hid (p + 1 = nPos (rs.take (i + 1)) v) := (by rw [HP2.out, decide_eq_true h1]; rfl : p + 1 = nPos (rs.take (i + 1)) v)
        have HQ3 : Hid (q = nNeg (rs.take (i + 1)) v) := (by rw [HQ2.out, decide_eq_false (by omega)]; rfl : q = nNeg (rs.take (i + 1)) v)
        have d1 : decide (0 < x) = true := decide_eq_true h1
        have d2 : decide (x < 0) = false := decide_eq_false (by omega)
        clear HP2 HQ2
        go_wp2_with fail
        go_roundw
        case rel => exact ⟨i + 1, p + 1, q, by omega, by go_num, by go_num, rfl, by omega, by omega, HP3, HQ3, hb⟩
        case measure => simp [intOf]; omega
      · have HP3 : Hid (p = nPos (rs.take (i + 1)) v) := (by rw [HP2.out, decide_eq_false h1]; rfl : p = nPos (rs.take (i + 1)) v)
        have d1 : decide (0 < x) = false := decide_eq_false h1
        by_cases h2 : x < 0
        · have HQ3 : Hid (q + 1 = nNeg (rs.take (i + 1)) v) := (by rw [HQ2.out, decide_eq_true h2]; rfl : q + 1 = nNeg (rs.take (i + 1)) v)
          have d2 : decide (x < 0) = true := decide_eq_true h2
          clear HP2 HQ2
          go_wp2_with fail
          go_roundw
          case rel => exact ⟨i + 1, p, q + 1, by omega, by go_num, rfl, by go_num, by omega, by omega, HP3, HQ3, hb⟩
          case measure => simp [intOf]; omega
        · have HQ3 : Hid (q = nNeg (rs.take (i + 1)) v) := (by rw [HQ2.out, decide_eq_false h2]; rfl : q = nNeg (rs.take (i + 1)) v)
          have d2 : decide (x < 0) = false := decide_eq_false h2
          clear HP2 HQ2
          go_wp2_with fail
          go_roundw
          case rel => exact ⟨i + 1, p, q, by omega, by go_num, rfl, rfl, by omega, by omega, HP3, HQ3, hb⟩
          case measure => simp [intOf]; omega
    · have e : i = n := by omega
      subst e
      have HF : Hid (RetInt ((nPos rs v * nNeg rs v : Nat) : Int) w (.returned (.int .i64 ((p : Int) * (q : Int)))) wr) := by
        have e1 : rs.take i = rs := List.take_of_length_le (by have := HL.out; omega)
        have e2 := HP.out
        have e3 := HQ.out
        rw [e1] at e2 e3
        rw [← e2, ← e3]
        exact ⟨by rw [Int.natCast_mul], hb⟩
      have hpq : 0 ≤ (p : Int) * (q : Int) ∧ (p : Int) * (q : Int) ≤ 1048576 * 1048576 := ⟨Int.mul_nonneg (by omega) (by omega), Int.mul_le_mul (by omega) (by omega) (by omega) (by omega)⟩
      go_wp2_with fail
      go_ret
      exact HF.out
end Go.Proofs.YtledagemcknlcaaGreat
namespace Go.Proofs.YtledagemcknlcaaGreat
open Go.RowKit

/-- no coefficient -/
def NotZ (x : Value) : Prop := ∀ z, x ≠ .int .i64 z
def wcells (rs : List WD) : List Value := rs.flatMap fun r => [.slice r.ad r.n r.c, .int .u64 (r.b : Int)]
theorem wcells_len (rs : List WD) : (wcells rs).length = rs.length * 2 := by
  induction rs with
  | nil => rfl
  | cons t ts ih => simp [wcells, List.flatMap_cons] at *; omega
theorem wcells_append (a b : List WD) : wcells (a ++ b) = wcells a ++ wcells b := by simp [wcells]
theorem wcells_get {rs : List WD} {i : Nat} {r : WD} (h : rs[i]? = some r) : (wcells rs)[i * 2]? = some (.slice r.ad r.n r.c) ∧ (wcells rs)[i * 2 + 1]? = some (.int .u64 (r.b : Int)) := by
  induction rs generalizing i with
  | nil => cases h
  | cons u rs ih =>
    have e : wcells (u :: rs) = .slice u.ad u.n u.c :: .int .u64 (u.b : Int) :: wcells rs := rfl
    rw [e]
    cases i with
    | zero => cases h; exact ⟨rfl, rfl⟩
    | succ i =>
      have := ih (i := i) h
      rw [show (i + 1) * 2 = i * 2 + 2 by omega]
      exact this
theorem wcells_notZ (rs : List WD) : ∀ x ∈ wcells rs, NotZ x := by
  intro x hx z
  simp only [wcells, List.mem_flatMap] at hx
  obtain ⟨f, _, hx⟩ := hx
  simp at hx
  rcases hx with rfl | rfl <;> simp
theorem wcells_one (rs : List WD) : ∀ x ∈ wcells rs, x.oneCell' = true := by
  intro x hx
  simp only [wcells, List.mem_flatMap] at hx
  obtain ⟨f, _, hx⟩ := hx
  simp at hx
  rcases hx with rfl | rfl <;> rfl
theorem Tryz.infoRow : (Tryz.prog.info? 70).map (fun i => (i.zero, i.size, i.bytes)) = some (some (.agg #[.slice none 0 0, .int .u64 0]), 2, 32) := by kernel_rfl
theorem wrow_zero : ∀ x ∈ (Value.agg #[.slice none 0 0, .int .u64 0]).cells, NotZ x := by
  intro x hx z
  simp [Value.cells] at hx
  rcases hx with rfl | rfl <;> simp
section
variable {w w' : World} {base : Nat} {e : TypeId} {size : Nat} {v : Value} {n : Nat} {xs : List Value}
theorem IntR.row {ad : Option Addr} {m c : Nat} {ys : List Int} (h : IntR w ad m c ys) (hr : Row NotZ w base e size v n xs) (hg : w.grownBy w' v.ownBlock) : IntR w' ad m c ys :=
  ⟨h.len, h.cap, fun h0 => by
    obtain ⟨b, o, e1, hlt, hc⟩ := h.cells h0
    have hl := h.len
    have hne : some b ≠ v.ownBlock := fun h9 => by
      rcases hr.own.2 with ⟨rfl, _⟩ | ⟨g, cap, cur, rfl, _, hgg, _⟩
      · simp [Value.ownBlock] at h9
      · simp only [Value.ownBlock, Option.some.injEq] at h9
        subst h9
        have h8 := hc 0 (ys[0]'(by omega)) (List.getElem?_eq_getElem _)
        rw [cell_of_row w b _ cur e (0, 0) hgg] at h8
        exact hr.all b cur e (0, 0) rfl hgg _ (Array.mem_of_getElem? h8) _ rfl
    have f := fun k => World.cell?_of_block (a := ⟨b, k, none⟩) (hg.block b hlt hne)
    exact ⟨b, o, e1, Nat.lt_of_lt_of_le hlt hg.size, fun i' t' ht => (f _).trans (hc i' t' ht)⟩⟩
theorem Row.ws {ad : Option Addr} {c : Nat} {rs : List WD} (h : Row NotZ w base 70 2 (.slice ad n c) n (wcells rs)) (hin : ∀ (i : Nat) (r : WD), rs[i]? = some r → r.In w) : WsR w ad n c rs := by
  have hlen : rs.length = n := by have := h.own.1; rw [wcells_len] at this; omega
  rcases h.own.2 with ⟨hv, h0⟩ | ⟨g, cap, cur, hv, _, hg, hnc, _, hsz, htake⟩
  · cases hv
    exact ⟨hlen, by omega, hin, fun h => by omega⟩
  · cases hv
    refine ⟨hlen, hnc, hin, fun _ => ⟨g, 0, rfl, (Array.getElem?_eq_some_iff.1 hg).1, fun i t ht => ?_⟩⟩
    have key : ∀ k x, (wcells rs)[k]? = some x → w.cell? ⟨g, k, none⟩ = some x := fun k x hk => by
      rw [cell_of_row w g k cur _ (0, 0) hg, ← Array.getElem?_toList]
      rw [← htake, List.getElem?_take] at hk
      split at hk
      · exact hk
      · cases hk
    obtain ⟨e0, e1⟩ := wcells_get ht
    simp only [Nat.zero_add]
    exact ⟨key _ _ e0, key _ _ e1⟩
end
/-- a list of rows of the call's own -/
structure WOut (w wr : World) (K : Nat) (ad : Option Addr) (m c : Nat) (os : List WD) : Prop where
  row : Row NotZ wr w.heap.size 70 2 (.slice ad m c) m (wcells os)
  all : Hid (∀ (i : Nat) (r : WD), os[i]? = some r → r.In wr)
  ok : Hid (∀ (i : Nat) (r : WD), os[i]? = some r → OkW K r)
  below : Below w.heap.size w wr
theorem WOut.nil (w wr : World) (K : Nat) (hb : Below w.heap.size w wr) : WOut w wr K none 0 0 [] :=
  ⟨Row.nil _ _ _ _ _, (fun i r h => absurd h (by simp) : ∀ (i : Nat) (r : WD), ([] : List WD)[i]? = some r → r.In wr), (fun i r h => absurd h (by simp) : ∀ (i : Nat) (r : WD), ([] : List WD)[i]? = some r → OkW K r), hb⟩
theorem WOut.on {w wr w' : World} {K : Nat} {ad : Option Addr} {m c : Nat} {os : List WD} (h : WOut w wr K ad m c os) (hb : Below wr.heap.size wr w') : WOut w w' K ad m c os :=
  ⟨h.row.on hb, (fun i r hr => (h.all.out i r hr).on hb : ∀ (i : Nat) (r : WD), os[i]? = some r → r.In w'), h.ok, h.below.trans (hb.mono h.below.size)⟩
theorem WOut.app {w w5 w7 : World} {K : Nat} {ad ad' : Option Addr} {m c m' c' : Nat} {os : List WD} {r : WD} (h : WOut w w5 K ad m c os) (hg : w5.grownBy w7 (Value.slice ad m c).ownBlock)
    (hr7 : Row NotZ w7 w.heap.size 70 2 (.slice ad' m' c') m' (wcells os ++ wcells [r])) (hi : r.In w5) (ho : OkW K r) : WOut w w7 K ad' m' c' (os ++ [r]) := by
  refine ⟨by rw [wcells_append]; exact hr7, ?_, ?_, h.below.trans (h.row.below hg h.below.size)⟩
  · intro i f hf
    rcases Nat.lt_or_ge i os.length with h8 | h8
    · rw [List.getElem?_append_left h8] at hf; exact IntR.row (h.all.out i f hf) h.row hg
    · rw [List.getElem?_append_right h8] at hf
      have e : f = r := by
        have h9 := (List.getElem?_eq_some_iff.1 hf).1
        simp at h9
        rw [show i - os.length = 0 by omega] at hf
        cases hf; rfl
      subst e
      exact IntR.row hi h.row hg
  · intro i f hf
    rcases Nat.lt_or_ge i os.length with h8 | h8
    · rw [List.getElem?_append_left h8] at hf; exact h.ok.out i f hf
    · rw [List.getElem?_append_right h8] at hf
      have e : f = r := by
        have h9 := (List.getElem?_eq_some_iff.1 hf).1
        simp at h9
        rw [show i - os.length = 0 by omega] at hf
        cases hf; rfl
      subst e
      exact ho
end Go.Proofs.YtledagemcknlcaaGreat
namespace Go.Proofs.YtledagemcknlcaaGreat
open Go.RowKit

/-- rows so far, ahead of the pair (i, j); at most B of them are combinations -/
structure ElS (K : Nat) (rs : List WD) (v k i j B : Nat) (os : List WD) : Prop where
  from_ : ∀ r ∈ os, (r ∈ rs ∧ r.at v = 0) ∨ ∃ p ∈ rs, ∃ q ∈ rs, 0 < p.at v ∧ q.at v < 0 ∧ r.b = p.b ||| q.b ∧ ∃ g : Rat, 0 < g ∧ ∀ u, u < K → ((r.at u : Int) : Rat) = g * (((p.at u : Int) : Rat) * (-((q.at v : Int) : Rat)) + ((q.at u : Int) : Rat) * ((p.at v : Int) : Rat))
  keep : ∀ r ∈ rs, r.at v = 0 → r ∈ os
  pair : ∀ (i' j' : Nat) (p q : WD), rs[i']? = some p → rs[j']? = some q → (i' < i ∨ i' = i ∧ j' < j) → 0 < p.at v → q.at v < 0 → popF 64 (p.b ||| q.b) ≤ k + 1 → ∃ r ∈ os, r.b = p.b ||| q.b
  cnt : os.length ≤ rs.length + B
section
variable {K : Nat} {rs os : List WD} {v k i j B : Nat}
theorem ElS.start (h : os = rs.filter (fun r => decide (r.at v = 0))) : ElS K rs v k 0 0 0 os := by
  subst h
  refine ⟨fun r hr => ?_, fun r hr h0 => ?_, fun i' j' p q _ _ hl => by omega, ?_⟩
  · obtain ⟨h1, h2⟩ := List.mem_filter.1 hr
    exact Or.inl ⟨h1, of_decide_eq_true h2⟩
  · exact List.mem_filter.2 ⟨hr, decide_eq_true h0⟩
  · exact List.length_filter_le _ _
theorem ElS.more {B' : Nat} (h : ElS K rs v k i j B os) (hB : B ≤ B') : ElS K rs v k i j B' os := ⟨h.from_, h.keep, h.pair, by have := h.cnt; omega⟩
theorem ElS.next (h : ElS K rs v k i j B os) (hj : rs.length ≤ j) : ElS K rs v k (i + 1) 0 B os :=
  ⟨h.from_, h.keep, fun i' j' p q hp hq hl h1 h2 h3 => h.pair i' j' p q hp hq (by have := (List.getElem?_eq_some_iff.1 hq).1; omega) h1 h2 h3, h.cnt⟩
theorem ElS.skip {p q : WD} (h : ElS K rs v k i j B os) (hp : rs[i]? = some p) (hq : rs[j]? = some q) (hn : 0 < p.at v → q.at v < 0 → popF 64 (p.b ||| q.b) ≤ k + 1 → False) : ElS K rs v k i (j + 1) B os :=
  ⟨h.from_, h.keep, fun i' j' p' q' hp' hq' hl h1 h2 h3 => by
    by_cases e : i' = i ∧ j' = j
    · obtain ⟨rfl, rfl⟩ := e
      rw [hp] at hp'; rw [hq] at hq'
      cases hp'; cases hq'
      exact (hn h1 h2 h3).elim
    · exact h.pair i' j' p' q' hp' hq' (by omega) h1 h2 h3, h.cnt⟩
theorem ElS.add {p q r : WD} (h : ElS K rs v k i j B os) (hp : rs[i]? = some p) (hq : rs[j]? = some q) (h1 : 0 < p.at v) (h2 : q.at v < 0) (hb : r.b = p.b ||| q.b)
    (hg : ∃ g : Rat, 0 < g ∧ ∀ u, u < K → ((r.at u : Int) : Rat) = g * (((p.at u : Int) : Rat) * (-((q.at v : Int) : Rat)) + ((q.at u : Int) : Rat) * ((p.at v : Int) : Rat))) : ElS K rs v k i (j + 1) (B + 1) (os ++ [r]) :=
  ⟨fun r' hr' => by
    rcases List.mem_append.1 hr' with h9 | h9
    · exact h.from_ r' h9
    · cases List.mem_singleton.1 h9
      exact Or.inr ⟨p, List.mem_of_getElem? hp, q, List.mem_of_getElem? hq, h1, h2, hb, hg⟩,
   fun r' hr' h0 => List.mem_append_left _ (h.keep r' hr' h0),
   fun i' j' p' q' hp' hq' hl h3 h4 h5 => by
    by_cases e : i' = i ∧ j' = j
    · obtain ⟨rfl, rfl⟩ := e
      rw [hp] at hp'; rw [hq] at hq'
      cases hp'; cases hq'
      exact ⟨r, by simp, hb⟩
    · obtain ⟨r', hr', hb'⟩ := h.pair i' j' p' q' hp' hq' (by omega) h3 h4 h5
      exact ⟨r', List.mem_append_left _ hr', hb'⟩, by have := h.cnt; simp; omega⟩
theorem ElS.fin (h : ElS K rs v k i 0 B os) (hi : rs.length ≤ i) : ElimR K (rs.map WD.k) v k (os.map WD.k) := by
  refine ⟨fun r hr => ?_, fun r hr h0 => ?_, fun p hp q hq h1 h2 h3 => ?_⟩
  · obtain ⟨r, hr', rfl⟩ := List.mem_map.1 hr
    rcases h.from_ r hr' with ⟨h1, h2⟩ | ⟨p, hp, q, hq, h1, h2, h3, g, hg, he⟩
    · refine Or.inl ⟨List.mem_map.2 ⟨r, h1, rfl⟩, ?_⟩
      show ((r.at v : Int) : Rat) = 0
      rw [h2]; rfl
    · refine Or.inr ⟨p.k, List.mem_map.2 ⟨p, hp, rfl⟩, q.k, List.mem_map.2 ⟨q, hq, rfl⟩, ?_, ?_, h3, g, hg, he⟩
      · show (0 : Rat) < ((p.at v : Int) : Rat)
        exact Rat.intCast_pos.2 h1
      · show ((q.at v : Int) : Rat) < 0
        exact Rat.intCast_neg_iff.2 h2
  · obtain ⟨r, hr', rfl⟩ := List.mem_map.1 hr
    have h0' : ((r.at v : Int) : Rat) = 0 := h0
    have h1 : r.at v = 0 := by
      have := Rat.intCast_inj.1 (h0'.trans (rfl : (0 : Rat) = ((0 : Int) : Rat)))
      exact this
    exact List.mem_map.2 ⟨r, h.keep r hr' h1, rfl⟩
  · obtain ⟨p, hp', rfl⟩ := List.mem_map.1 hp
    obtain ⟨q, hq', rfl⟩ := List.mem_map.1 hq
    obtain ⟨a, ha⟩ := List.getElem?_of_mem hp'
    obtain ⟨b, hb⟩ := List.getElem?_of_mem hq'
    have h1' : (0 : Rat) < ((p.at v : Int) : Rat) := h1
    have h2' : ((q.at v : Int) : Rat) < 0 := h2
    obtain ⟨r, hr, he⟩ := h.pair a b p q ha hb (Or.inl (by have := (List.getElem?_eq_some_iff.1 ha).1; omega)) (Rat.intCast_pos.1 h1') (Rat.intCast_neg_iff.1 h2') h3
    exact ⟨r.k, List.mem_map.2 ⟨r, hr, rfl⟩, he⟩
theorem nPos_take_le {i : Nat} : nPos (rs.take i) v ≤ nPos rs v := (List.take_sublist i rs).countP_le
theorem nNeg_take_le {i : Nat} : nNeg (rs.take i) v ≤ nNeg rs v := (List.take_sublist i rs).countP_le
/-- the room for the combinations of row i -/
theorem room {p : WD} (hp : rs[i]? = some p) (h : 0 < p.at v) : nPos (rs.take (i + 1)) v = nPos (rs.take i) v + 1 ∧ nPos (rs.take i) v * nNeg rs v + nNeg (rs.take j) v ≤ nPos rs v * nNeg rs v := by
  have h1 : nPos (rs.take (i + 1)) v = nPos (rs.take i) v + 1 := by unfold nPos; rw [countP_take _ hp, decide_eq_true h]; rfl
  refine ⟨h1, ?_⟩
  have h2 : nPos (rs.take (i + 1)) v ≤ nPos rs v := nPos_take_le
  have h3 : nNeg (rs.take j) v ≤ nNeg rs v := nNeg_take_le
  rw [h1] at h2
  have h4 := Nat.mul_le_mul_right (nNeg rs v) h2
  rw [Nat.add_mul, Nat.one_mul] at h4
  omega
end
end Go.Proofs.YtledagemcknlcaaGreat
namespace Go.Proofs.YtledagemcknlcaaGreat
open Go.RowKit

/-- The call returns the rows without variable v. -/
def RetEl (K : Nat) (rs : List WD) (v k : Nat) (w : World) (e : Ending) (w' : World) : Prop :=
  ∃ ok ad m c os, e = .returned (.tuple #[.slice ad m c, .bool ok]) ∧ Below w.heap.size w w' ∧ (ok = true → WsR w' ad m c os ∧ (∀ (i : Nat) (r : WD), os[i]? = some r → OkW K r) ∧ os.length ≤ rs.length + nPos rs v * nNeg rs v ∧ ElimR K (rs.map WD.k) v k (os.map WD.k))
theorem mul_b {p t : Int} (hp : -1073741824 ≤ p ∧ p ≤ 1073741824) (ht : -1073741824 ≤ t ∧ t ≤ 1073741824) : -1152921504606846976 ≤ p * t ∧ p * t ≤ 1152921504606846976 := by
  have h1 : (p * t).natAbs ≤ 1073741824 * 1073741824 := by rw [Int.natAbs_mul]; exact Nat.mul_le_mul (by omega) (by omega)
  omega
theorem el_fin {D : Nat} {a b x y z : Int} (hD : 0 < D) (h : a * -y + b * x = D * z) : ((z : Int) : Rat) = 1 / (D : Rat) * (((a : Int) : Rat) * (-((y : Int) : Rat)) + ((b : Int) : Rat) * ((x : Int) : Rat)) := by
  have hDr : (D : Rat) ≠ 0 := by have := Rat.natCast_pos.2 hD; grind
  have h1 : ((a : Int) : Rat) * (-((y : Int) : Rat)) + ((b : Int) : Rat) * ((x : Int) : Rat) = (D : Rat) * (z : Rat) := by
    have := congrArg (fun x : Int => (x : Rat)) h
    simpa [Rat.intCast_mul, Rat.intCast_add, Rat.intCast_neg, Rat.intCast_natCast] using this
  rw [h1]
  generalize (D : Rat) = e at *
  generalize (z : Rat) = f at *
  grind
theorem filter_take {rs : List WD} (p : WD → Bool) {i : Nat} {r : WD} (h : rs[i]? = some r) : (rs.take (i + 1)).filter p = (rs.take i).filter p ++ if p r then [r] else [] := by
  rw [List.take_add_one, h, List.filter_append]
  rcases hp : p r with _ | _ <;> simp [hp]
/-- a row of the list, written out -/
theorem WsR.lit {w : World} {ad : Option Addr} {n c K : Nat} {rs : List WD} (h : WsR w ad n c rs) (ho : ∀ (i : Nat) (r : WD), rs[i]? = some r → OkW K r) (hK : 0 < K) {i : Nat} (hi : i < n) :
    ∃ b o b2 o2 rc xs rb, ad = some ⟨b, o, none⟩ ∧ b < w.heap.size ∧ Hid (rs[i]? = some ⟨some ⟨b2, o2, none⟩, K, rc, xs, rb⟩) ∧ Hid (OkW K ⟨some ⟨b2, o2, none⟩, K, rc, xs, rb⟩) ∧ rb < 18446744073709551616 ∧ K ≤ rc ∧ b2 < w.heap.size ∧
      w.cell? ⟨b, o + i * 2, none⟩ = some (.slice (some ⟨b2, o2, none⟩) K rc) ∧ w.cell? ⟨b, o + i * 2 + 1, none⟩ = some (.int .u64 (rb : Int)) ∧
      Hid (∀ v, v < K → w.cell? ⟨b2, o2 + v, none⟩ = some (.int .i64 (WD.at ⟨some ⟨b2, o2, none⟩, K, rc, xs, rb⟩ v))) := by
  obtain ⟨B, o, b2, o2, rc, rb, r, hh⟩ := h.at_ ho hi
  obtain ⟨e1, hB, HR, HOK, HRB, hrb, hrc, HAD, hb2, c0, c1, HC⟩ := hh.resolve_right (by omega)
  have hI : IntR w r.ad r.n r.c r.xs := h.ok i r HR.out
  have hn := HOK.out.n
  have hd := HAD.out.resolve_right (by omega)
  have hb := HRB.out
  obtain ⟨_, _, _, _, hc2⟩ := h.cells (by omega)
  obtain ⟨r1, r2, r3, r4, r5⟩ := r
  simp only at hn hd hb
  subst hn hd hb
  have hc3 : r3 = rc := by
    obtain ⟨B', o', e2, hB', hc⟩ := h.cells (by omega)
    rw [e1] at e2
    cases e2
    have h9 := (hc i _ HR.out).1
    rw [c0] at h9
    simp at h9
    exact h9.symm
  subst hc3
  exact ⟨B, o, b2, o2, _, _, _, e1, hB, HR, HOK, hrb, hrc, hb2, c0, c1, HC⟩
set_option maxRecDepth 100000 in
set_option maxHeartbeats 25600000 in
theorem eliminate_c (w : World) {ad : Option Addr} {n c K v k : Nat} {rs : List WD} (h : WsR w ad n c rs) (ho : ∀ (i : Nat) (r : WD), rs[i]? = some r → OkW K r) (hn : n ≤ 1048576) (hv : v < K) (hK : K ≤ 1048576) (hk : k ≤ 64) (hpr : nPos rs v * nNeg rs v ≤ 20000) :
    Calls Tryz.prog 44 #[.slice ad n c, .int .i64 (v : Int), .int .i64 (k : Int)] w (RetEl K rs v k w) := by
  have HO : Hid (∀ (i : Nat) (r : WD), rs[i]? = some r → OkW K r) := ho
  have HL := Lib.hid h.len
  have HPR := Lib.hid hpr
  clear ho hpr
  obtain ⟨i0, hi0, hz0, hz1, hz2⟩ := info_parts Tryz.infoRow
  have HI := Lib.hid (And.intro hi0 (And.intro hz0 (And.intro hz1 hz2)))
  clear hi0 hz0 hz1 hz2
  go_enter Tryz.func44, Tryz.ntmps44
  go_wp2_with fail
  go_loopw [8, 9] (fun s8 s9 wr => ∃ i mad m mc os, i ≤ n ∧ s9 = .int .i64 (i : Nat) ∧ s8 = .slice mad m mc ∧ WOut w wr K mad m mc os ∧ Hid (os = (rs.take i).filter (fun r => decide (r.at v = 0))) ∧ m ≤ i) (fun _ i _ => n - (intOf i).toNat)
  case atStart => exact ⟨0, none, 0, 0, [], by omega, rfl, rfl, WOut.nil _ _ _ (Below.refl _ _), rfl, by omega⟩
  case round =>
    obtain ⟨i, mad, m, mc, os, hi, rfl, rfl, hW, HS, hm⟩ := hrel
    have hr := h.on hW.below
    by_cases hlt : i < n
    · obtain ⟨B, o, b2, o2, rc, xs, rb, rfl, hB, HR, HOK, hrb, hrc, hb2, c0, c1, HC⟩ := hr.lit HO.out (by omega) hlt
      have cv := HC.out v hv
      have hbd := HOK.out.at_ v
      generalize hx : WD.at ⟨some ⟨b2, o2, none⟩, K, rc, xs, rb⟩ v = x at cv hbd
      have HX := Lib.hid hx
      clear hx
      by_cases h1 : x = 0
      · subst h1
        have HS2 : Hid (os ++ [⟨some ⟨b2, o2, none⟩, K, rc, xs, rb⟩] = (rs.take (i + 1)).filter (fun r => decide (r.at v = 0))) := (by rw [filter_take _ HR.out, HS.out, decide_eq_true HX.out]; rfl : os ++ [⟨some ⟨b2, o2, none⟩, K, rc, xs, rb⟩] = (rs.take (i + 1)).filter (fun r => decide (r.at v = 0)))
        go_upto_region 6 with (fail)
        have hal : Below wr.heap.size wr (wr.alloc (.cells #[.slice (some ⟨b2, o2, none⟩) K rc, .int .u64 (rb : Int)] 70)) := (Below.refl _ _).alloc (Nat.le_refl _) _
        have hW5 := hW.on hal
        have hin := WD.In.on (hr.ok i _ HR.out) hal
        go_wp2_with (at_builtin; refine wpList_row _ rfl (.tmp 29) (.tmp 34) _ rfl w.heap.size 70 i0 (.agg #[.slice none 0 0, .int .u64 0]) 2 32 Tryz.underlying64 HI.out.1 HI.out.2.1 HI.out.2.2.1 HI.out.2.2.2 rfl (by omega) (.slice mad m mc) m (wcells os) rfl hW5.row ⟨wr.heap.size, 0, none⟩ 1 1 [.slice (some ⟨b2, o2, none⟩) K rc, .int .u64 (rb : Int)] rfl rfl (cells_news wr #[.slice (some ⟨b2, o2, none⟩) K rc, .int .u64 (rb : Int)] _) (wcells_one [⟨some ⟨b2, o2, none⟩, K, rc, xs, rb⟩]) (by simp only [maxLen]; omega) (by omega) hW5.below.size (by omega) wrow_zero (wcells_notZ [⟨some ⟨b2, o2, none⟩, K, rc, xs, rb⟩]) ?_; intro v7 w7 hr7 hg7 ho7; obtain ⟨ad7, c7, rfl⟩ := hr7.shape; have hW7 := hW5.app (r := ⟨some ⟨b2, o2, none⟩, K, rc, xs, rb⟩) hg7 hr7 hin HOK.out)
        go_roundw
        case rel => exact ⟨i + 1, _, _, _, _, by omega, by go_num, rfl, hW7, HS2, by omega⟩
        case measure => simp [intOf]; omega
      · have d1 : decide (x = 0) = false := decide_eq_false h1
        have HS2 : Hid (os = (rs.take (i + 1)).filter (fun r => decide (r.at v = 0))) := (by rw [filter_take _ HR.out, HS.out, decide_eq_false (by rw [HX.out]; exact h1)]; simp : os = (rs.take (i + 1)).filter (fun r => decide (r.at v = 0)))
        go_wp2_with fail
        go_roundw
        case rel => exact ⟨i + 1, _, _, _, _, by omega, by go_num, rfl, hW, HS2, by omega⟩
        case measure => simp [intOf]; omega
    · have HS0 : Hid (ElS K rs v k 0 0 0 os) := ElS.start (by rw [HS.out, List.take_of_length_le (by have := HL.out; omega)])
      clear HS hm
      obtain ⟨wo, hwo⟩ : ∃ wo : World, wo = wr := ⟨_, rfl⟩
      subst hwo
      clear hr
      go_wp2_with fail
      go_loopw [8, 10] (fun s8 s10 wr => ∃ i mad m mc os, i ≤ n ∧ s10 = .int .i64 (i : Nat) ∧ s8 = .slice mad m mc ∧ WOut w wr K mad m mc os ∧ Hid (ElS K rs v k i 0 (nPos (rs.take i) v * nNeg rs v) os)) (fun _ i _ => n - (intOf i).toNat)
      case atStart => exact ⟨0, mad, m, mc, os, by omega, rfl, rfl, hW, (by have := HS0.out; simpa [nPos] using this : ElS K rs v k 0 0 (nPos (rs.take 0) v * nNeg rs v) os)⟩
      case round =>
        clear hW HS0
        obtain ⟨i, mad, m, mc, os, hi, rfl, rfl, hW, HS⟩ := hrel
        by_cases hlt : i < n
        · obtain ⟨p, HP⟩ : ∃ p, Hid (rs[i]? = some p) := ⟨rs[i]'(by have := HL.out; omega), List.getElem?_eq_getElem _⟩
          obtain ⟨wo2, hwo2⟩ : ∃ wo2 : World, wo2 = wr := ⟨_, rfl⟩
          subst hwo2
          have HS0 : Hid (ElS K rs v k i 0 (nPos (rs.take i) v * nNeg rs v + if 0 < p.at v then nNeg (rs.take 0) v else 0) os) := (HS.out.more (Nat.le_add_right _ _) : ElS K rs v k i 0 (nPos (rs.take i) v * nNeg rs v + if 0 < p.at v then nNeg (rs.take 0) v else 0) os)
          clear HS
          go_wp2_with fail
          go_loopw [8, 11] (fun s8 s11 wr => ∃ j mad m mc os, j ≤ n ∧ s11 = .int .i64 (j : Nat) ∧ s8 = .slice mad m mc ∧ WOut w wr K mad m mc os ∧ Hid (ElS K rs v k i j (nPos (rs.take i) v * nNeg rs v + if 0 < p.at v then nNeg (rs.take j) v else 0) os)) (fun _ j _ => n - (intOf j).toNat)
          case atStart => exact ⟨0, mad, m, mc, os, by omega, rfl, rfl, hW, HS0⟩
          case round =>
            clear hW HS0
            obtain ⟨j, mad, m, mc, os, hj, rfl, rfl, hW, HS⟩ := hrel
            by_cases hlt2 : j < n
            · obtain ⟨B, o, b2, o2, rc, xs, rb, rfl, hB0, HR, HOK, hrb, hrc, hb20, c0', c1', HC'⟩ := h.lit HO.out (by omega) hlt
              obtain ⟨B', o', b3, o3, qc, ys, qb, had, hB', HQ, HOQ, hqb, hqc, hb30, d0', d1', HD'⟩ := h.lit HO.out (by omega) hlt2
              cases had
              have hB := Nat.lt_of_lt_of_le hB0 hW.below.size
              have hb2 := Nat.lt_of_lt_of_le hb20 hW.below.size
              have hb3 := Nat.lt_of_lt_of_le hb30 hW.below.size
              have c0 := (hW.below.cell (p := ⟨B, o + i * 2, none⟩) hB0).trans c0'
              have c1 := (hW.below.cell (p := ⟨B, o + i * 2 + 1, none⟩) hB0).trans c1'
              have d0 := (hW.below.cell (p := ⟨B, o + j * 2, none⟩) hB0).trans d0'
              have d1 := (hW.below.cell (p := ⟨B, o + j * 2 + 1, none⟩) hB0).trans d1'
              have HC : Hid (∀ v, v < K → wr.cell? ⟨b2, o2 + v, none⟩ = some (.int .i64 (WD.at ⟨some ⟨b2, o2, none⟩, K, rc, xs, rb⟩ v))) := (fun v hv => (hW.below.cell (p := ⟨b2, o2 + v, none⟩) hb20).trans (HC'.out v hv) : ∀ v, v < K → wr.cell? ⟨b2, o2 + v, none⟩ = some (.int .i64 (WD.at ⟨some ⟨b2, o2, none⟩, K, rc, xs, rb⟩ v)))
              have HD : Hid (∀ v, v < K → wr.cell? ⟨b3, o3 + v, none⟩ = some (.int .i64 (WD.at ⟨some ⟨b3, o3, none⟩, K, qc, ys, qb⟩ v))) := (fun v hv => (hW.below.cell (p := ⟨b3, o3 + v, none⟩) hb30).trans (HD'.out v hv) : ∀ v, v < K → wr.cell? ⟨b3, o3 + v, none⟩ = some (.int .i64 (WD.at ⟨some ⟨b3, o3, none⟩, K, qc, ys, qb⟩ v)))
              have HC1 := Lib.hid c1'
              have HD1 := Lib.hid d1'
              clear c0' c1' d0' d1' HC' HD'
              obtain rfl := Option.some.inj (HP.out.symm.trans HR.out)
              have cv := HC.out v hv
              have dv := HD.out v hv
              have hbx := HOK.out.at_ v
              have hby := HOQ.out.at_ v
              have hpc : m ≤ n + 20000 := by
                have h1 := HS.out.cnt
                have h2 := hW.row.own.1
                rw [wcells_len] at h2
                have h3 := HPR.out
                have h4 := HL.out
                by_cases h5 : 0 < WD.at ⟨some ⟨b2, o2, none⟩, K, rc, xs, rb⟩ v
                · rw [if_pos h5] at h1
                  have := (room (j := j) HR.out h5).2
                  omega
                · rw [if_neg h5] at h1
                  have := Nat.mul_le_mul_right (nNeg rs v) (nPos_take_le (rs := rs) (v := v) (i := i))
                  omega
              generalize hx : WD.at ⟨some ⟨b2, o2, none⟩, K, rc, xs, rb⟩ v = xa at cv hbx HS
              generalize hy : WD.at ⟨some ⟨b3, o3, none⟩, K, qc, ys, qb⟩ v = ya at dv hby
              have HX := Lib.hid hx
              have HY := Lib.hid hy
              clear hx hy
              have HSN : Hid (¬ (0 < xa ∧ ya < 0 ∧ popF 64 (rb ||| qb) ≤ k + 1) → ElS K rs v k i (j + 1) (nPos (rs.take i) v * nNeg rs v + if 0 < xa then nNeg (rs.take (j + 1)) v else 0) os) := (fun hno => by
                have h1 := HS.out.skip HR.out HQ.out (fun a1 a2 a3 => hno ⟨by rw [← HX.out]; exact a1, by rw [← HY.out]; exact a2, a3⟩)
                refine h1.more ?_
                by_cases h5 : 0 < xa
                · rw [if_pos h5, if_pos h5]
                  have : nNeg (rs.take j) v ≤ nNeg (rs.take (j + 1)) v := by unfold nNeg; rw [countP_take _ HQ.out]; omega
                  omega
                · rw [if_neg h5, if_neg h5]; omega : ¬ (0 < xa ∧ ya < 0 ∧ popF 64 (rb ||| qb) ≤ k + 1) → ElS K rs v k i (j + 1) (nPos (rs.take i) v * nNeg rs v + if 0 < xa then nNeg (rs.take (j + 1)) v else 0) os)
              obtain ⟨hcx, hfx⟩ := upcell wr
              have hor0 : bits .or .u64 (rb : Int) (qb : Int) = ((rb ||| qb : Nat) : Int) := u64_or_nat _ _ hrb hqb
              have hob0 : rb ||| qb < 18446744073709551616 := Nat.or_lt_two_pow (n := 64) hrb hqb
              obtain ⟨ob, hobe⟩ : ∃ ob, rb ||| qb = ob := ⟨_, rfl⟩
              rw [hobe] at hor0 hob0 HSN
              obtain ⟨P, hPe⟩ : ∃ P, popF 64 ob = P := ⟨_, rfl⟩
              have HV : Hid (∀ x9 : Up wr, Calls Tryz.prog 71 #[.int .u64 (ob : Int)] x9.w (RetInt (P : Nat) x9.w)) := fun x9 => by rw [← hPe]; exact bits_c x9.w _ hob0
              rw [hPe] at HSN
              have HOB := Lib.hid hobe
              have HPE := Lib.hid hPe
              clear hobe hPe
              by_cases h1 : 0 < xa
              · by_cases h2 : ya < 0
                · have e1 : decide (xa ≤ 0) = false := decide_eq_false (by omega)
                  have e2 : decide (0 ≤ ya) = false := decide_eq_false (by omega)
                  by_cases h3 : P ≤ k + 1
                  · have e3 : decide ((k : Int) + 1 < (P : Int)) = false := decide_eq_false (by omega)
                    clear HSN
                    go_upto_region 13 with (fail)
                    refine wp_region_up (by kernel_rfl) (by kernel_rfl) ?_
                    repeat (go_big_quiet_step ((go_at_call 71; exact up_i (HV.out _))))
                    refine wpQuiet_nil ?_
                    intro x
                    have hWx := hW.on x.below
                    have hUx := x.below
                    obtain ⟨U, hUe⟩ : ∃ U, U = x.w := ⟨_, rfl⟩
                    rw [← hUe] at hWx hUx ⊢
                    clear hUe x hcx hfx HV hW
                    obtain ⟨hcU, hfU⟩ := bcell hUx
                    obtain ⟨w3, hw3⟩ : ∃ w3 : World, w3 = wr := ⟨_, rfl⟩
                    subst hw3
                    have hmk := Tryz.mkInts ((K : Int)) K rfl (by omega)
                    have hQ := Pro1.mk' U (madeCells #[.int .i64 0] K) 3
                    go_upto_region 15 with (fail)
                    clear hmk
                    generalize U.alloc (.cells (madeCells #[.int .i64 0] K) 3) = V0 at *
                    have hW0 := hWx.on hQ.below
                    have hB0 : Blk V0 U.heap.size 3 (icells (List.replicate K 0)) := by rw [← icells_made]; exact hQ.b0
                    have hU0 : Below w3.heap.size w3 V0 := hUx.trans (hQ.below.mono hUx.size)
                    have hgW : w3.heap.size ≤ U.heap.size := hUx.size
                    have hUV0 := hQ.below
                    clear hQ
                    go_wp2_with fail
                    go_loopw [13] (fun s13 wr => ∃ t zs, t ≤ K ∧ s13 = .int .i64 (t : Nat) ∧ Blk wr U.heap.size 3 (icells zs) ∧ Hid (zs.length = K) ∧ Hid (∀ u, u < t → zs[u]? = some (WD.at ⟨some ⟨b2, o2, none⟩, K, rc, xs, rb⟩ u * -ya + WD.at ⟨some ⟨b3, o3, none⟩, K, qc, ys, qb⟩ u * xa)) ∧ Below U.heap.size V0 wr) (fun t _ => K - (intOf t).toNat)
                    case atStart => exact ⟨0, _, by omega, rfl, hB0, List.length_replicate, (fun u hu => by omega : ∀ u, u < 0 → (List.replicate K (0 : Int))[u]? = some (WD.at ⟨some ⟨b2, o2, none⟩, K, rc, xs, rb⟩ u * -ya + WD.at ⟨some ⟨b3, o3, none⟩, K, qc, ys, qb⟩ u * xa)), Below.refl _ _⟩
                    case round =>
                      clear hB0
                      obtain ⟨t, zs, ht, rfl, hZ, HZL, HZ, hV⟩ := hrel
                      have hUV : Below w3.heap.size w3 wr := hU0.trans (hV.mono hgW)
                      obtain ⟨hcV, hfV⟩ := bcell hUV
                      by_cases hlt3 : t < K
                      · have v0 := (hUV.cell (p := ⟨B, o + i * 2, none⟩) hB).trans c0
                        have v1 := (hUV.cell (p := ⟨B, o + j * 2, none⟩) hB).trans d0
                        have v2 := (hUV.cell (p := ⟨b2, o2 + t, none⟩) hb2).trans (HC.out t hlt3)
                        have v3 := (hUV.cell (p := ⟨b2, o2 + v, none⟩) hb2).trans cv
                        have v4 := (hUV.cell (p := ⟨b3, o3 + t, none⟩) hb3).trans (HD.out t hlt3)
                        have v5 := (hUV.cell (p := ⟨b3, o3 + v, none⟩) hb3).trans dv
                        have ha := HOK.out.at_ t
                        have hb := HOQ.out.at_ t
                        generalize hae : WD.at ⟨some ⟨b2, o2, none⟩, K, rc, xs, rb⟩ t = a at v2 ha
                        generalize hbe : WD.at ⟨some ⟨b3, o3, none⟩, K, qc, ys, qb⟩ t = b at v4 hb
                        have hm1 : -1152921504606846976 ≤ a * -ya ∧ a * -ya ≤ 1152921504606846976 := mul_b ha (by omega)
                        have hm2 : -1152921504606846976 ≤ b * xa ∧ b * xa ≤ 1152921504606846976 := mul_b hb hbx
                        have wy : IntKind.i64.wrap (-ya) = -ya := IntWalk.i64_in _ (by omega)
                        have wy1 : IntKind.i64.wrap (a * -ya) = a * -ya := IntWalk.i64_in _ (by omega)
                        have wy2 : IntKind.i64.wrap (b * xa) = b * xa := IntWalk.i64_in _ (by omega)
                        have wy3 : IntKind.i64.wrap (a * -ya + b * xa) = a * -ya + b * xa := IntWalk.i64_in _ (by omega)
                        have HZ2 : Hid (∀ u, u < t + 1 → (zs.set t (a * -ya + b * xa))[u]? = some (WD.at ⟨some ⟨b2, o2, none⟩, K, rc, xs, rb⟩ u * -ya + WD.at ⟨some ⟨b3, o3, none⟩, K, qc, ys, qb⟩ u * xa)) := (fun u hu => by
                          by_cases e : u = t
                          · subst e
                            rw [List.getElem?_set_self (by rw [HZL.out]; exact hlt3), hae, hbe]
                          · rw [List.getElem?_set_ne (fun h9 => e h9.symm)]; exact HZ.out u (by omega) : ∀ u, u < t + 1 → (zs.set t (a * -ya + b * xa))[u]? = some (WD.at ⟨some ⟨b2, o2, none⟩, K, rc, xs, rb⟩ u * -ya + WD.at ⟨some ⟨b3, o3, none⟩, K, qc, ys, qb⟩ u * xa))
                        have hvK : (v : Int) < (K : Int) := by omega
                        have htK : (t : Int) < (K : Int) := by omega
                        have hin : (i : Int) < (n : Int) := by omega
                        have hjn : (j : Int) < (n : Int) := by omega
                        have f0 := hZ.frozen t
                        obtain ⟨z, hz⟩ : ∃ z, zs[t]? = some z := ⟨zs[t]'(by rw [HZL.out]; exact hlt3), List.getElem?_eq_getElem _⟩
                        have z0 := ib_cell hZ hz
                        have zl := hZ.lt
                        clear hz
                        clear hae hbe hcU hfU hcV hfV
                        go_upto_region 18 with (fail)
                        refine wp_region_T 39 (fun w' => w'.cell? ⟨B, o + i * 2, none⟩ = some (.slice (some ⟨b2, o2, none⟩) K rc) ∧ w'.cell? ⟨B, o + j * 2, none⟩ = some (.slice (some ⟨b3, o3, none⟩) K qc) ∧ w'.cell? ⟨b2, o2 + t, none⟩ = some (.int .i64 a) ∧ w'.cell? ⟨b2, o2 + v, none⟩ = some (.int .i64 xa) ∧ w'.cell? ⟨b3, o3 + t, none⟩ = some (.int .i64 b) ∧ w'.cell? ⟨b3, o3 + v, none⟩ = some (.int .i64 ya)) (by kernel_rfl) (by (try dsimp only); go_keep) (fun hHeld => ?_)
                        refine wpT_take 0 (v := ?_) rfl (by kernel_rfl) (fun _ _ _ h => h) (by rfl) (by assumption) ?_ ?_
                        rotate_left
                        · (intro w9 hS9; (try dsimp only at hS9); go_simp; try with_reducible rfl)
                        try simp only [Act.put, List.setIfInBounds_toArray, List.set_cons_zero, List.set_cons_succ]
                        refine wpT_take 1 (v := ?_) rfl (by kernel_rfl) (fun _ _ _ h => h) (by rfl) (by assumption) ?_ ?_
                        rotate_left
                        · (intro w9 hS9; (try dsimp only at hS9); go_simp; try with_reducible rfl)
                        try simp only [Act.put, List.setIfInBounds_toArray, List.set_cons_zero, List.set_cons_succ]
                        refine wpT_take 2 (v := ?_) rfl (by kernel_rfl) (fun _ _ _ h => h) (by rfl) (by assumption) ?_ ?_
                        rotate_left
                        · (intro w9 hS9; (try dsimp only at hS9); go_simp; try with_reducible rfl)
                        try simp only [Act.put, List.setIfInBounds_toArray, List.set_cons_zero, List.set_cons_succ]
                        refine wpT_take 3 (v := ?_) rfl (by kernel_rfl) (fun _ _ _ h => h) (by rfl) (by assumption) ?_ ?_
                        rotate_left
                        · (intro w9 hS9; (try dsimp only at hS9); go_simp; try with_reducible rfl)
                        try simp only [Act.put, List.setIfInBounds_toArray, List.set_cons_zero, List.set_cons_succ]
                        refine wpT_take 4 (v := ?_) rfl (by kernel_rfl) (fun _ _ _ h => h) (by rfl) (by assumption) ?_ ?_
                        rotate_left
                        · (intro w9 hS9; (try dsimp only at hS9); go_simp; try with_reducible rfl)
                        try simp only [Act.put, List.setIfInBounds_toArray, List.set_cons_zero, List.set_cons_succ]
                        refine wpT_take 5 (v := ?_) rfl (by kernel_rfl) (fun _ _ _ h => h) (by rfl) (by assumption) ?_ ?_
                        rotate_left
                        · (intro w9 hS9; (try dsimp only at hS9); go_simp; try with_reducible rfl)
                        try simp only [Act.put, List.setIfInBounds_toArray, List.set_cons_zero, List.set_cons_succ]
                        refine wpT_take 6 (v := ?_) rfl (by kernel_rfl) (fun _ _ _ h => h) (by rfl) (by assumption) ?_ ?_
                        rotate_left
                        · (intro w9 hS9; (try dsimp only at hS9); go_simp; try with_reducible rfl)
                        try simp only [Act.put, List.setIfInBounds_toArray, List.set_cons_zero, List.set_cons_succ]
                        refine wpT_take 7 (v := ?_) rfl (by kernel_rfl) (fun _ _ _ h => h) (by rfl) (by assumption) ?_ ?_
                        rotate_left
                        · (intro w9 hS9; (try dsimp only at hS9); go_simp; try with_reducible rfl)
                        try simp only [Act.put, List.setIfInBounds_toArray, List.set_cons_zero, List.set_cons_succ]
                        refine wpT_take 8 (v := ?_) rfl (by kernel_rfl) (fun _ _ _ h => h) (by rfl) (by assumption) ?_ ?_
                        rotate_left
                        · (intro w9 hS9; (try dsimp only at hS9); go_simp; try with_reducible rfl)
                        try simp only [Act.put, List.setIfInBounds_toArray, List.set_cons_zero, List.set_cons_succ]
                        refine wpT_take 9 (v := ?_) rfl (by kernel_rfl) (fun _ _ _ h => h) (by rfl) (by assumption) ?_ ?_
                        rotate_left
                        · (intro w9 hS9; (try dsimp only at hS9); go_simp; try with_reducible rfl)
                        try simp only [Act.put, List.setIfInBounds_toArray, List.set_cons_zero, List.set_cons_succ]
                        refine wpT_take 10 (v := ?_) rfl (by kernel_rfl) (fun _ _ _ h => h) (by rfl) (by assumption) ?_ ?_
                        rotate_left
                        · (intro w9 hS9; (try dsimp only at hS9); go_simp; try with_reducible rfl)
                        try simp only [Act.put, List.setIfInBounds_toArray, List.set_cons_zero, List.set_cons_succ]
                        refine wpT_take 11 (v := ?_) rfl (by kernel_rfl) (fun _ _ _ h => h) (by rfl) (by assumption) ?_ ?_
                        rotate_left
                        · (intro w9 hS9; (try dsimp only at hS9); go_simp; try with_reducible rfl)
                        try simp only [Act.put, List.setIfInBounds_toArray, List.set_cons_zero, List.set_cons_succ]
                        refine wpT_take 12 (v := ?_) rfl (by kernel_rfl) (fun _ _ _ h => h) (by rfl) (by assumption) ?_ ?_
                        rotate_left
                        · (intro w9 hS9; (try dsimp only at hS9); go_simp; try with_reducible rfl)
                        try simp only [Act.put, List.setIfInBounds_toArray, List.set_cons_zero, List.set_cons_succ]
                        refine wpT_take 13 (v := ?_) rfl (by kernel_rfl) (fun _ _ _ h => h) (by rfl) (by assumption) ?_ ?_
                        rotate_left
                        · (intro w9 hS9; (try dsimp only at hS9); go_simp; try with_reducible rfl)
                        try simp only [Act.put, List.setIfInBounds_toArray, List.set_cons_zero, List.set_cons_succ]
                        refine wpT_take 14 (v := ?_) rfl (by kernel_rfl) (fun _ _ _ h => h) (by rfl) (by assumption) ?_ ?_
                        rotate_left
                        · (intro w9 hS9; (try dsimp only at hS9); go_simp; try with_reducible rfl)
                        try simp only [Act.put, List.setIfInBounds_toArray, List.set_cons_zero, List.set_cons_succ]
                        refine wpT_take 15 (v := ?_) rfl (by kernel_rfl) (fun _ _ _ h => h) (by rfl) (by assumption) ?_ ?_
                        rotate_left
                        · (intro w9 hS9; (try dsimp only at hS9); go_simp; try with_reducible rfl)
                        try simp only [Act.put, List.setIfInBounds_toArray, List.set_cons_zero, List.set_cons_succ]
                        refine wpT_take 16 (v := ?_) rfl (by kernel_rfl) (fun _ _ _ h => h) (by rfl) (by assumption) ?_ ?_
                        rotate_left
                        · (intro w9 hS9; (try dsimp only at hS9); go_simp; try with_reducible rfl)
                        try simp only [Act.put, List.setIfInBounds_toArray, List.set_cons_zero, List.set_cons_succ]
                        refine wpT_take 17 (v := ?_) rfl (by kernel_rfl) (fun _ _ _ h => h) (by rfl) (by assumption) ?_ ?_
                        rotate_left
                        · (intro w9 hS9; (try dsimp only at hS9); go_simp; try with_reducible rfl)
                        try simp only [Act.put, List.setIfInBounds_toArray, List.set_cons_zero, List.set_cons_succ]
                        refine wpT_take 18 (v := ?_) rfl (by kernel_rfl) (fun _ _ _ h => h) (by rfl) (by assumption) ?_ ?_
                        rotate_left
                        · (intro w9 hS9; (try dsimp only at hS9); go_simp; try with_reducible rfl)
                        try simp only [Act.put, List.setIfInBounds_toArray, List.set_cons_zero, List.set_cons_succ]
                        refine wpT_take 19 (v := ?_) rfl (by kernel_rfl) (fun _ _ _ h => h) (by rfl) (by assumption) ?_ ?_
                        rotate_left
                        · (intro w9 hS9; (try dsimp only at hS9); go_simp; try with_reducible rfl)
                        try simp only [Act.put, List.setIfInBounds_toArray, List.set_cons_zero, List.set_cons_succ]
                        refine wpT_take 20 (v := ?_) rfl (by kernel_rfl) (fun _ _ _ h => h) (by rfl) (by assumption) ?_ ?_
                        rotate_left
                        · (intro w9 hS9; (try dsimp only at hS9); go_simp; try with_reducible rfl)
                        try simp only [Act.put, List.setIfInBounds_toArray, List.set_cons_zero, List.set_cons_succ]
                        refine wpT_take 21 (v := ?_) rfl (by kernel_rfl) (fun _ _ _ h => h) (by rfl) (by assumption) ?_ ?_
                        rotate_left
                        · (intro w9 hS9; (try dsimp only at hS9); go_simp; try with_reducible rfl)
                        try simp only [Act.put, List.setIfInBounds_toArray, List.set_cons_zero, List.set_cons_succ]
                        refine wpT_take 22 (v := ?_) rfl (by kernel_rfl) (fun _ _ _ h => h) (by rfl) (by assumption) ?_ ?_
                        rotate_left
                        · (intro w9 hS9; (try dsimp only at hS9); go_simp; try with_reducible rfl)
                        try simp only [Act.put, List.setIfInBounds_toArray, List.set_cons_zero, List.set_cons_succ]
                        refine wpT_take 23 (v := ?_) rfl (by kernel_rfl) (fun _ _ _ h => h) (by rfl) (by assumption) ?_ ?_
                        rotate_left
                        · (intro w9 hS9; (try dsimp only at hS9); go_simp; try with_reducible rfl)
                        try simp only [Act.put, List.setIfInBounds_toArray, List.set_cons_zero, List.set_cons_succ]
                        refine wpT_take 24 (v := ?_) rfl (by kernel_rfl) (fun _ _ _ h => h) (by rfl) (by assumption) ?_ ?_
                        rotate_left
                        · (intro w9 hS9; (try dsimp only at hS9); go_simp; try with_reducible rfl)
                        try simp only [Act.put, List.setIfInBounds_toArray, List.set_cons_zero, List.set_cons_succ]
                        refine wpT_take 25 (v := ?_) rfl (by kernel_rfl) (fun _ _ _ h => h) (by rfl) (by assumption) ?_ ?_
                        rotate_left
                        · (intro w9 hS9; (try dsimp only at hS9); go_simp; try with_reducible rfl)
                        try simp only [Act.put, List.setIfInBounds_toArray, List.set_cons_zero, List.set_cons_succ]
                        refine wpT_take 26 (v := ?_) rfl (by kernel_rfl) (fun _ _ _ h => h) (by rfl) (by assumption) ?_ ?_
                        rotate_left
                        · (intro w9 hS9; (try dsimp only at hS9); go_simp; try with_reducible rfl)
                        try simp only [Act.put, List.setIfInBounds_toArray, List.set_cons_zero, List.set_cons_succ]
                        refine wpT_take 27 (v := ?_) rfl (by kernel_rfl) (fun _ _ _ h => h) (by rfl) (by assumption) ?_ ?_
                        rotate_left
                        · (intro w9 hS9; (try dsimp only at hS9); go_simp; try with_reducible rfl)
                        try simp only [Act.put, List.setIfInBounds_toArray, List.set_cons_zero, List.set_cons_succ]
                        refine wpT_take 28 (v := ?_) rfl (by kernel_rfl) (fun _ _ _ h => h) (by rfl) (by assumption) ?_ ?_
                        rotate_left
                        · (intro w9 hS9; (try dsimp only at hS9); go_simp; try with_reducible rfl)
                        try simp only [Act.put, List.setIfInBounds_toArray, List.set_cons_zero, List.set_cons_succ]
                        refine wpT_take 29 (v := ?_) rfl (by kernel_rfl) (fun _ _ _ h => h) (by rfl) (by assumption) ?_ ?_
                        rotate_left
                        · (intro w9 hS9; (try dsimp only at hS9); go_simp; try with_reducible rfl)
                        try simp only [Act.put, List.setIfInBounds_toArray, List.set_cons_zero, List.set_cons_succ]
                        refine wpT_take 30 (v := ?_) rfl (by kernel_rfl) (fun _ _ _ h => h) (by rfl) (by assumption) ?_ ?_
                        rotate_left
                        · (intro w9 hS9; (try dsimp only at hS9); go_simp; try with_reducible rfl)
                        try simp only [Act.put, List.setIfInBounds_toArray, List.set_cons_zero, List.set_cons_succ]
                        refine wpT_take 31 (v := ?_) rfl (by kernel_rfl) (fun _ _ _ h => h) (by rfl) (by assumption) ?_ ?_
                        rotate_left
                        · (intro w9 hS9; (try dsimp only at hS9); go_simp; try with_reducible rfl)
                        try simp only [Act.put, List.setIfInBounds_toArray, List.set_cons_zero, List.set_cons_succ]
                        refine wpT_take 32 (v := ?_) rfl (by kernel_rfl) (fun _ _ _ h => h) (by rfl) (by assumption) ?_ ?_
                        rotate_left
                        · (intro w9 hS9; (try dsimp only at hS9); go_simp; try with_reducible rfl)
                        try simp only [Act.put, List.setIfInBounds_toArray, List.set_cons_zero, List.set_cons_succ]
                        refine wpT_take 33 (v := ?_) rfl (by kernel_rfl) (fun _ _ _ h => h) (by rfl) (by assumption) ?_ ?_
                        rotate_left
                        · (intro w9 hS9; (try dsimp only at hS9); go_simp; try with_reducible rfl)
                        try simp only [Act.put, List.setIfInBounds_toArray, List.set_cons_zero, List.set_cons_succ]
                        refine wpT_take 34 (v := ?_) rfl (by kernel_rfl) (fun _ _ _ h => h) (by rfl) (by assumption) ?_ ?_
                        rotate_left
                        · (intro w9 hS9; (try dsimp only at hS9); go_simp; try with_reducible rfl)
                        try simp only [Act.put, List.setIfInBounds_toArray, List.set_cons_zero, List.set_cons_succ]
                        refine wpT_take 35 (v := ?_) rfl (by kernel_rfl) (fun _ _ _ h => h) (by rfl) (by assumption) ?_ ?_
                        rotate_left
                        · (intro w9 hS9; (try dsimp only at hS9); go_simp; try with_reducible rfl)
                        try simp only [Act.put, List.setIfInBounds_toArray, List.set_cons_zero, List.set_cons_succ]
                        refine wpT_take 36 (v := ?_) rfl (by kernel_rfl) (fun _ _ _ h => h) (by rfl) (by assumption) ?_ ?_
                        rotate_left
                        · (intro w9 hS9; (try dsimp only at hS9); go_simp; try with_reducible rfl)
                        try simp only [Act.put, List.setIfInBounds_toArray, List.set_cons_zero, List.set_cons_succ]
                        refine wpT_take 37 (v := ?_) rfl (by kernel_rfl) (fun _ _ _ h => h) (by rfl) (by assumption) ?_ ?_
                        rotate_left
                        · (intro w9 hS9; (try dsimp only at hS9); go_simp; try with_reducible rfl)
                        try simp only [Act.put, List.setIfInBounds_toArray, List.set_cons_zero, List.set_cons_succ]
                        refine wpT_take 38 (v := ?_) rfl (by kernel_rfl) (fun _ _ _ h => h) (by rfl) (by assumption) ?_ ?_
                        rotate_left
                        · (intro w9 hS9; (try dsimp only at hS9); go_simp; try with_reducible rfl)
                        try simp only [Act.put, List.setIfInBounds_toArray, List.set_cons_zero, List.set_cons_succ]
                        refine wpT_last 39 rfl rfl (by kernel_rfl) (fun KK hK => ?_)
                        go_simp
                        refine hK.out _ _ ?_
                        clear hK KK
                        try simp only [Act.put, List.setIfInBounds_toArray, List.set_cons_zero, List.set_cons_succ]
                        refine wpT_done (by kernel_rfl) ?_ _
                        have hZ' := (ib_set hZ t (a * -ya + b * xa)).on (Below.drewN (Below.refl _ _) 1)
                        have hV' : Below U.heap.size V0 (wr.setCell ⟨U.heap.size, t, none⟩ (.int .i64 (a * -ya + b * xa))).drew := Below.drewN (hV.setCell (p := ⟨U.heap.size, t, none⟩) (Nat.le_refl _) _) 1
                        have hzl' : Hid ((zs.set t (a * -ya + b * xa)).length = K) := (by rw [List.length_set]; exact HZL.out : (zs.set t (a * -ya + b * xa)).length = K)
                        clear v0 v1 v2 v3 v4 v5 wy wy1 wy2 wy3 hm1 hm2 z0 f0
                        go_wp2_with fail
                        go_roundw
                        case rel => exact ⟨t + 1, _, by omega, by go_num, hZ', hzl', HZ2, hV'⟩
                        case measure => simp [intOf]; omega
                      · have HT := Lib.hid (show t = K by omega)
                        clear ht hcU hfU hcV hfV
                        have hzb : ∀ (u : Nat) (z : Int), zs[u]? = some z → -4611686018427387904 ≤ z ∧ z ≤ 4611686018427387904 := by
                          intro u z hu
                          have hul := (List.getElem?_eq_some_iff.1 hu).1
                          rw [HZ.out u (by have := HZL.out; have := HT.out; omega)] at hu
                          cases hu
                          have e1 := mul_b (HOK.out.at_ u) (t := -ya) (by omega)
                          have e2 := mul_b (HOQ.out.at_ u) hbx
                          omega
                        have HRD := Lib.hid (reduce_c wr (N := K) hZ HZL.out hzb (by omega))
                        have HWU := Lib.hid hWx
                        clear hzb hW0 hWx
                        go_wp2_with fail
                        refine HRD.out.mono ?_
                        rintro e w9 ⟨ok, ys', rfl, hZ9, hzl9, hred, hb9⟩
                        have hW9 := HWU.out.on ((hUV0.trans hV).trans hb9)
                        have hU9 : Below w3.heap.size w3 w9 := hU0.trans ((hV.trans hb9).mono hgW)
                        have HRE := Lib.hid hred
                        clear hred
                        rcases ok with _ | _
                        · have HF : Hid (RetEl K rs v k w (.returned (.tuple #[.slice none 0 0, .bool false])) w9) := ⟨false, none, 0, 0, [], rfl, hW9.below, fun h9 => by cases h9⟩
                          clear hZ9 hzl9 hb9 hW9
                          go_wp2_with fail
                          go_ret2
                          exact HF.out
                        · have v0 := (hU9.cell (p := ⟨B, o + i * 2 + 1, none⟩) hB).trans c1
                          have v1 := (hU9.cell (p := ⟨B, o + j * 2 + 1, none⟩) hB).trans d1
                          have hal : Below w9.heap.size w9 (w9.drew.alloc (.cells #[.slice (some ⟨U.heap.size, 0, none⟩) K K, .int .u64 (ob : Int)] 70)) := (Below.drewN (Below.refl _ _) 1).alloc (Nat.le_refl _) _
                          have hWal := hW9.on hal
                          have hIn : WD.In ⟨some ⟨U.heap.size, 0, none⟩, K, K, ys', ob⟩ w9 := ib_read hZ9 hzl9
                          have hInal := hIn.on hal
                          have HOR : Hid (OkW K ⟨some ⟨U.heap.size, 0, none⟩, K, K, ys', ob⟩) := ⟨rfl, (HRE.out rfl).bd, hob0⟩
                          have HSA : Hid (ElS K rs v k i (j + 1) (nPos (rs.take i) v * nNeg rs v + if 0 < xa then nNeg (rs.take (j + 1)) v else 0) (os ++ [⟨some ⟨U.heap.size, 0, none⟩, K, K, ys', ob⟩])) := by
                            have e1 := HS.out.add (r := ⟨some ⟨U.heap.size, 0, none⟩, K, K, ys', ob⟩) HR.out HQ.out (by rw [HX.out]; exact h1) (by rw [HY.out]; exact h2) HOB.out.symm (by
                              obtain ⟨D, hD0, hDe⟩ := (HRE.out rfl).ex
                              refine ⟨1 / (D : Rat), ratdiv_pos (by decide +kernel) (Rat.natCast_pos.2 hD0), fun u hu => ?_⟩
                              have e2 := HZ.out u (by have := HT.out; omega)
                              have e3 : ys'[u]? = some (ys'[u]'(by omega)) := List.getElem?_eq_getElem _
                              have e4 := hDe u _ _ e2 e3
                              have e5 : WD.at ⟨some ⟨U.heap.size, 0, none⟩, K, K, ys', ob⟩ u = ys'[u]'(by omega) := by
                                unfold WD.at
                                rw [List.getD_eq_getElem?_getD, e3]; rfl
                              rw [e5, HX.out, HY.out]
                              exact el_fin hD0 e4)
                            refine e1.more ?_
                            have e6 : nNeg (rs.take (j + 1)) v = nNeg (rs.take j) v + 1 := by unfold nNeg; rw [countP_take _ HQ.out, decide_eq_true (by rw [HY.out]; exact h2)]; rfl
                            rw [if_pos h1, if_pos h1, e6]
                            omega
                          have hin : (i : Int) < (n : Int) := by omega
                          have hjn : (j : Int) < (n : Int) := by omega
                          clear c0 c1 d0 d1 cv dv hZ9 hzl9 hb9 hZ hV hU0 hUV0
                          go_upto_region 21 with (fail)
                          refine wp_region_T 16 (fun w' => w'.cell? ⟨B, o + i * 2 + 1, none⟩ = some (.int .u64 (rb : Int)) ∧ w'.cell? ⟨B, o + j * 2 + 1, none⟩ = some (.int .u64 (qb : Int))) (by kernel_rfl) (by (try dsimp only); go_keep) (fun hHeld => ?_)
                          refine wpT_take 0 (v := ?_) rfl (by kernel_rfl) (fun _ _ _ h => h) (by rfl) (by assumption) ?_ ?_
                          rotate_left
                          · (intro w9 hS9; (try dsimp only at hS9); go_simp; try with_reducible rfl)
                          try simp only [Act.put, List.setIfInBounds_toArray, List.set_cons_zero, List.set_cons_succ]
                          refine wpT_take 1 (v := ?_) rfl (by kernel_rfl) (fun _ _ _ h => h) (by rfl) (by assumption) ?_ ?_
                          rotate_left
                          · (intro w9 hS9; (try dsimp only at hS9); go_simp; try with_reducible rfl)
                          try simp only [Act.put, List.setIfInBounds_toArray, List.set_cons_zero, List.set_cons_succ]
                          refine wpT_take 2 (v := ?_) rfl (by kernel_rfl) (fun _ _ _ h => h) (by rfl) (by assumption) ?_ ?_
                          rotate_left
                          · (intro w9 hS9; (try dsimp only at hS9); go_simp; try with_reducible rfl)
                          try simp only [Act.put, List.setIfInBounds_toArray, List.set_cons_zero, List.set_cons_succ]
                          refine wpT_take 3 (v := ?_) rfl (by kernel_rfl) (fun _ _ _ h => h) (by rfl) (by assumption) ?_ ?_
                          rotate_left
                          · (intro w9 hS9; (try dsimp only at hS9); go_simp; try with_reducible rfl)
                          try simp only [Act.put, List.setIfInBounds_toArray, List.set_cons_zero, List.set_cons_succ]
                          refine wpT_take 4 (v := ?_) rfl (by kernel_rfl) (fun _ _ _ h => h) (by rfl) (by assumption) ?_ ?_
                          rotate_left
                          · (intro w9 hS9; (try dsimp only at hS9); go_simp; try with_reducible rfl)
                          try simp only [Act.put, List.setIfInBounds_toArray, List.set_cons_zero, List.set_cons_succ]
                          refine wpT_take 5 (v := ?_) rfl (by kernel_rfl) (fun _ _ _ h => h) (by rfl) (by assumption) ?_ ?_
                          rotate_left
                          · (intro w9 hS9; (try dsimp only at hS9); go_simp; try with_reducible rfl)
                          try simp only [Act.put, List.setIfInBounds_toArray, List.set_cons_zero, List.set_cons_succ]
                          refine wpT_take 6 (v := ?_) rfl (by kernel_rfl) (fun _ _ _ h => h) (by rfl) (by assumption) ?_ ?_
                          rotate_left
                          · (intro w9 hS9; (try dsimp only at hS9); go_simp; try with_reducible rfl)
                          try simp only [Act.put, List.setIfInBounds_toArray, List.set_cons_zero, List.set_cons_succ]
                          refine wpT_take 7 (v := ?_) rfl (by kernel_rfl) (fun _ _ _ h => h) (by rfl) (by assumption) ?_ ?_
                          rotate_left
                          · (intro w9 hS9; (try dsimp only at hS9); go_simp; try with_reducible rfl)
                          try simp only [Act.put, List.setIfInBounds_toArray, List.set_cons_zero, List.set_cons_succ]
                          refine wpT_take 8 (v := ?_) rfl (by kernel_rfl) (fun _ _ _ h => h) (by rfl) (by assumption) ?_ ?_
                          rotate_left
                          · (intro w9 hS9; (try dsimp only at hS9); go_simp; try with_reducible rfl)
                          try simp only [Act.put, List.setIfInBounds_toArray, List.set_cons_zero, List.set_cons_succ]
                          refine wpT_take 9 (v := ?_) rfl (by kernel_rfl) (fun _ _ _ h => h) (by rfl) (by assumption) ?_ ?_
                          rotate_left
                          · (intro w9 hS9; (try dsimp only at hS9); go_simp; try with_reducible rfl)
                          try simp only [Act.put, List.setIfInBounds_toArray, List.set_cons_zero, List.set_cons_succ]
                          refine wpT_take 10 (v := ?_) rfl (by kernel_rfl) (fun _ _ _ h => h) (by rfl) (by assumption) ?_ ?_
                          rotate_left
                          · (intro w9 hS9; (try dsimp only at hS9); go_simp; try with_reducible rfl)
                          try simp only [Act.put, List.setIfInBounds_toArray, List.set_cons_zero, List.set_cons_succ]
                          refine wpT_take 11 (v := ?_) rfl (by kernel_rfl) (fun _ _ _ h => h) (by rfl) (by assumption) ?_ ?_
                          rotate_left
                          · (intro w9 hS9; (try dsimp only at hS9); go_simp; try with_reducible rfl)
                          try simp only [Act.put, List.setIfInBounds_toArray, List.set_cons_zero, List.set_cons_succ]
                          refine wpT_take 12 (v := ?_) rfl (by kernel_rfl) (fun _ _ _ h => h) (by rfl) (by assumption) ?_ ?_
                          rotate_left
                          · (intro w9 hS9; (try dsimp only at hS9); go_simp; try with_reducible rfl)
                          try simp only [Act.put, List.setIfInBounds_toArray, List.set_cons_zero, List.set_cons_succ]
                          refine wpT_take 13 (v := ?_) rfl (by kernel_rfl) (fun _ _ _ h => h) (by rfl) (by assumption) ?_ ?_
                          rotate_left
                          · (intro w9 hS9; (try dsimp only at hS9); go_simp; try with_reducible rfl)
                          try simp only [Act.put, List.setIfInBounds_toArray, List.set_cons_zero, List.set_cons_succ]
                          refine wpT_only 14 rfl (by kernel_rfl) (fun KK hK => ?_)
                          go_simp
                          have hOld := hHeld
                          clear hHeld
                          refine hK.out _ _ ?_ (fun hHeld => ?_)
                          · (try dsimp only); go_keep
                          clear hOld hK KK
                          try simp only [Act.put, List.setIfInBounds_toArray, List.set_cons_zero, List.set_cons_succ]
                          refine wpT_only 15 rfl (by kernel_rfl) (fun KK hK => ?_)
                          refine step_row _ rfl (.tmp 140) (.tmp 154) _ rfl w.heap.size 70 i0 (.agg #[.slice none 0 0, .int .u64 0]) 2 32 Tryz.underlying64 HI.out.1 HI.out.2.1 HI.out.2.2.1 HI.out.2.2.2 rfl (by omega) (.slice mad m mc) m (wcells os) rfl hWal.row ⟨w9.drew.heap.size, 0, none⟩ 1 1 [.slice (some ⟨U.heap.size, 0, none⟩) K K, .int .u64 (ob : Int)] rfl rfl (cells_news w9.drew #[.slice (some ⟨U.heap.size, 0, none⟩) K K, .int .u64 (ob : Int)] _) (wcells_one [⟨some ⟨U.heap.size, 0, none⟩, K, K, ys', ob⟩]) (by simp only [maxLen]; omega) (by omega) hWal.below.size (by omega) wrow_zero (wcells_notZ [⟨some ⟨U.heap.size, 0, none⟩, K, K, ys', ob⟩]) ?_; intro v7 w7 hr7 hg7 ho7; obtain ⟨ad7, c7, rfl⟩ := hr7.shape; have hW7 := hWal.app (r := ⟨some ⟨U.heap.size, 0, none⟩, K, K, ys', ob⟩) hg7 hr7 hInal HOR.out; have q0 := (hW7.below.cell (p := ⟨B, o + i * 2 + 1, none⟩) hB0).trans HC1.out; have q1 := (hW7.below.cell (p := ⟨B, o + j * 2 + 1, none⟩) hB0).trans HD1.out
                          have hOld := hHeld
                          clear hHeld
                          refine hK.out _ _ ?_ (fun hHeld => ?_)
                          · (try dsimp only); go_keep
                          clear hOld hK KK
                          try simp only [Act.put, List.setIfInBounds_toArray, List.set_cons_zero, List.set_cons_succ]
                          refine wpT_last 16 rfl rfl (by kernel_rfl) (fun KK hK => ?_)
                          go_simp
                          refine hK.out _ _ ?_
                          clear hK KK
                          try simp only [Act.put, List.setIfInBounds_toArray, List.set_cons_zero, List.set_cons_succ]
                          refine wpT_done (by kernel_rfl) ?_ _
                          go_wp2_with fail
                          go_roundw
                          case rel => exact ⟨j + 1, _, _, _, _, by omega, by go_num, rfl, hW7, HSA⟩
                          case measure => simp [intOf]; omega
                  · have e3 : decide ((k : Int) + 1 < (P : Int)) = true := decide_eq_true (by omega)
                    have HSM := Lib.hid (HSN.out (fun h9 => h3 h9.2.2))
                    clear HSN
                    go_upto_region 13 with (fail)
                    refine wp_region_up (by kernel_rfl) (by kernel_rfl) ?_
                    repeat (go_big_quiet_step ((go_at_call 71; exact up_i (HV.out _))))
                    refine wpQuiet_nil ?_
                    intro x
                    have hWx := hW.on x.below
                    go_wp2_with fail
                    go_roundw
                    case rel => exact ⟨j + 1, _, _, _, _, by omega, by go_num, rfl, hWx, HSM⟩
                    case measure => simp [intOf]; omega
                · have e1 : decide (xa ≤ 0) = false := decide_eq_false (by omega)
                  have e2 : decide (0 ≤ ya) = true := decide_eq_true (by omega)
                  have HSM := Lib.hid (HSN.out (fun h9 => h2 h9.2.1))
                  clear HSN
                  go_upto_region 13 with (fail)
                  refine wp_region_up (by kernel_rfl) (by kernel_rfl) ?_
                  repeat (go_big_quiet_step ((go_at_call 71; exact up_i (HV.out _))))
                  refine wpQuiet_nil ?_
                  intro x
                  have hWx := hW.on x.below
                  go_wp2_with fail
                  go_roundw
                  case rel => exact ⟨j + 1, _, _, _, _, by omega, by go_num, rfl, hWx, HSM⟩
                  case measure => simp [intOf]; omega
              · have e1 : decide (xa ≤ 0) = true := decide_eq_true (by omega)
                have HSM := Lib.hid (HSN.out (fun h9 => h1 h9.1))
                clear HSN
                go_upto_region 13 with (fail)
                refine wp_region_up (by kernel_rfl) (by kernel_rfl) ?_
                repeat (go_big_quiet_step ((go_at_call 71; exact up_i (HV.out _))))
                refine wpQuiet_nil ?_
                intro x
                have hWx := hW.on x.below
                go_wp2_with fail
                go_roundw
                case rel => exact ⟨j + 1, _, _, _, _, by omega, by go_num, rfl, hWx, HSM⟩
                case measure => simp [intOf]; omega
            · have HSM : Hid (ElS K rs v k (i + 1) 0 (nPos (rs.take (i + 1)) v * nNeg rs v) os) := by
                have h1 := HS.out.next (by have := HL.out; omega)
                refine h1.more ?_
                by_cases h5 : 0 < p.at v
                · rw [if_pos h5, (room (j := j) HP.out h5).1, Nat.add_mul, Nat.one_mul]
                  exact Nat.add_le_add_left nNeg_take_le _
                · rw [if_neg h5]
                  have : nPos (rs.take (i + 1)) v = nPos (rs.take i) v := by unfold nPos; rw [countP_take _ HP.out, decide_eq_false h5]; simp
                  rw [this]; exact Nat.le_refl _
              go_wp2_with fail
              go_roundw
              case rel => exact ⟨i + 1, _, _, _, _, by omega, by go_num, rfl, hW, HSM⟩
              case measure => simp [intOf]; omega
        · have HF : Hid (RetEl K rs v k w (.returned (.tuple #[.slice mad m mc, .bool true])) wr) := by
            have h1 := HS.out.more (Nat.mul_le_mul_right (nNeg rs v) (nPos_take_le (rs := rs) (v := v) (i := i)))
            exact ⟨true, mad, m, mc, os, rfl, hW.below, fun _ => ⟨hW.row.ws hW.all.out, hW.ok.out, h1.cnt, h1.fin (by have := HL.out; omega)⟩⟩
          go_wp2_with fail
          go_ret2
          exact HF.out
end Go.Proofs.YtledagemcknlcaaGreat
