/- linear.merge: what the call returns. -/
import Derived.Test.YtledagemcknlcaaGreatK6
import Derived.Test.YtledagemcknlcaaGreatK0
set_option linter.all false
namespace Go.Proofs.YtledagemcknlcaaGreat
open Go.RowKit

/-- the terms as plain numbers -/
def fm (ts : List TD) : List (Int × Rat) := ts.map fun t => (t.v, t.c.q)
theorem fm_added {ts ts' : List TD} {v : Int} {q : Rat} (h : Added ts ts' v q) : fm ts' = fm ts ++ put1 v q := by
  rcases h with ⟨rfl, rfl⟩ | ⟨h0, r, rfl, _, rfl⟩
  · simp [put1]
  · simp [put1, h0, fm]
theorem OkT.added {m : Nat} {ts ts' : List TD} {v : Int} {q : Rat} (h : OkT m ts) (ha : Added ts ts' v q) (hq : H q ≤ m) : OkT m ts' := by
  rcases ha with ⟨_, rfl⟩ | ⟨_, r, rfl, ho, rfl⟩
  · exact h
  · intro i t ht
    rcases Nat.lt_or_ge i ts.length with h1 | h1
    · rw [List.getElem?_append_left h1] at ht; exact h i t ht
    · rw [List.getElem?_append_right h1] at ht
      rcases Nat.eq_zero_or_pos (i - ts.length) with h2 | h2
      · rw [h2] at ht; simp at ht; subst ht; exact ⟨ho, hq⟩
      · rw [List.getElem?_eq_none (by simp; omega)] at ht; cases ht
theorem OkT.tail {m : Nat} {t : TD} {ts : List TD} (h : OkT m (t :: ts)) : OkT m ts := fun i u hu => h (i + 1) u hu
/-- the slice without its first term -/
theorem TermsR.tail {w : World} {b o n c : Nat} {t : TD} {ts : List TD} (h : TermsR w (some ⟨b, o, none⟩) n c (t :: ts)) :
    TermsR w (if c = 1 then some ⟨b, o, none⟩ else some ⟨b, o + 4, none⟩) (n - 1) (c - 1) ts := by
  have hl := h.len
  simp at hl
  obtain ⟨b1, o1, e, hb, hc⟩ := h.cells (by omega)
  obtain ⟨rfl, rfl⟩ : b = b1 ∧ o = o1 := by simpa using e
  have hcap := h.cap
  refine ⟨by omega, by omega, fun i u hu => h.ok (i + 1) u hu, fun h0 => ?_⟩
  rw [if_neg (by omega)]
  refine ⟨b, o + 4, rfl, hb, fun i u hu => ?_⟩
  have := hc (i + 1) u hu
  rw [show o + (i + 1) * 4 = o + 4 + i * 4 by omega] at this
  exact this

theorem put_c (w : World) (base : Nat) {ad : Option Addr} {n c : Nat} {ts : List TD} {k : RD} (v : Int) {s1 : Bool} {a1 a2 : Option Addr} {n1 n2 c1 c2 : Nat} {q : Rat} (hr : Row NotU w base 52 4 (.slice ad n c) n (tcells ts)) (ha : AllIn w ts) (hq : RatC w s1 a1 n1 c1 a2 n2 c2 q) (hH : H q ≤ 274877906944) (hn : n ≤ 1073741824) (hbase : base ≤ w.heap.size) :
    Calls Tryz.prog 92 #[.agg #[.slice ad n c, .bool k.neg, .slice k.a1 k.n1 k.c1, .slice k.a2 k.n2 k.c2], .int .i64 v, .agg #[.bool s1, .slice a1 n1 c1, .slice a2 n2 c2]] w (PutPost base ad n c ts k v q w) := by
  by_cases h0 : q = 0
  · subst h0; exact put_zero w base v hr ha hq
  · exact put_some w base v hr ha hq hH hn hbase h0
theorem TermsR.head {w : World} {ad : Option Addr} {n c : Nat} {t : TD} {ts : List TD} (h : TermsR w ad n c (t :: ts)) :
    ∃ b o, ad = some ⟨b, o, none⟩ ∧ b < w.heap.size ∧ t.c.In w ∧ w.cell? ⟨b, o, none⟩ = some (.int .i64 t.v) ∧ w.cell? ⟨b, o + 1, none⟩ = some (.bool t.c.neg) ∧
    w.cell? ⟨b, o + 1 + 1, none⟩ = some (.slice t.c.a1 t.c.n1 t.c.c1) ∧ w.cell? ⟨b, o + 1 + 2, none⟩ = some (.slice t.c.a2 t.c.n2 t.c.c2) := by
  have hl := h.len
  simp at hl
  obtain ⟨b, o, rfl, hb, hc⟩ := h.cells (by omega)
  have := hc 0 t rfl
  simp only [Nat.zero_mul, Nat.add_zero] at this
  exact ⟨b, o, rfl, hb, h.ok 0 t rfl, this⟩
theorem TermsR.nil_len {w : World} {ad : Option Addr} {n c : Nat} (h : TermsR w ad n c []) : n = 0 := by have := h.len; simpa using this.symm
section
variable {w : World} {B : Nat} {t : TypeId}
theorem RatC.set4 {neg : Bool} {q1 q2 : Option Addr} {m1 d1 m2 d2 : Nat} {q : Rat} (h : RatC w neg q1 m1 d1 q2 m2 d2 q) {x : Bool} {a a' a'' : Option Addr} {m k m' k' m'' k'' : Nat} (hB : Blk w B t #[.slice a m k, .bool x, .slice a' m' k', .slice a'' m'' k'']) (a1 : Option Addr) (n1 c1 : Nat) (s : Bool) (a2 : Option Addr) (n2 c2 : Nat) (a3 : Option Addr) (n3 c3 : Nat) :
    RatC ((((w.setCell ⟨B, 0, none⟩ (.slice a1 n1 c1)).setCell ⟨B, 1, none⟩ (.bool s)).setCell ⟨B, 2, none⟩ (.slice a2 n2 c2)).setCell ⟨B, 3, none⟩ (.slice a3 n3 c3)) neg q1 m1 d1 q2 m2 d2 q :=
  ⟨h.sign, h.num.set4 hB _ _ _ _ _ _ _ _ _ _, h.den.set4 hB _ _ _ _ _ _ _ _ _ _⟩
theorem below_set4 {B0 : Nat} {w0 : World} (h : Below B0 w0 w) (hB : B0 ≤ B) (u0 u1 u2 u3 : Value) : Below B0 w0 ((((w.setCell ⟨B, 0, none⟩ u0).setCell ⟨B, 1, none⟩ u1).setCell ⟨B, 2, none⟩ u2).setCell ⟨B, 3, none⟩ u3) :=
  (((h.setCell (p := ⟨B, 0, none⟩) hB u0).setCell (p := ⟨B, 1, none⟩) hB u1).setCell (p := ⟨B, 2, none⟩) hB u2).setCell (p := ⟨B, 3, none⟩) hB u3
end
/-- what is known of the sum under way -/
structure MOut (w wr : World) (base B m : Nat) (kq : Rat) (ac : Array Value) (ado : Option Addr) (no co : Nat) (ts : List TD) (k : RD) : Prop where
  row : Row NotU wr base 52 4 (.slice ado no co) no (tcells ts)
  all : AllIn wr ts
  ok : OkT m ts
  box : Blk wr B 29 #[.slice ado no co, .bool k.neg, .slice k.a1 k.n1 k.c1, .slice k.a2 k.n2 k.c2]
  kin : k.C wr kq
  cbox : Blk wr (w.heap.size + 1 + 1) 27 ac
  res : Blk wr (w.heap.size + 1 + 1 + 1) 29 #[.slice none 0 0, .bool false, .slice none 0 0, .slice none 0 0]
  below : Below w.heap.size w wr
  base_le : base ≤ wr.heap.size
  B_lt : B < base
  B_ge : w.heap.size + 1 + 1 + 1 < B
theorem MOut.put {w wr w5 w6 : World} {base B m : Nat} {kq : Rat} {ac : Array Value} {ado : Option Addr} {no co : Nat} {ts : List TD} {k : RD} {v : Int} {qv : Rat} {e : Ending}
    (h : MOut w wr base B m kq ac ado no co ts k) (hb : Below wr.heap.size wr w5) (hp : PutPost base ado no co ts k v qv w5 e w6) (hH : H qv ≤ m) :
    ∃ ado' no' co' ts', e = .returned (.agg #[.slice ado' no' co', .bool k.neg, .slice k.a1 k.n1 k.c1, .slice k.a2 k.n2 k.c2]) ∧ Hid (Added ts ts' v qv) ∧ no' ≤ no + 1 ∧
      Blk w6 B 29 #[.slice ado no co, .bool k.neg, .slice k.a1 k.n1 k.c1, .slice k.a2 k.n2 k.c2] ∧ (∀ b o, b < base → w6.cell? ⟨b, o, none⟩ = w5.cell? ⟨b, o, none⟩) ∧
      MOut w ((((w6.setCell ⟨B, 0, none⟩ (.slice ado' no' co')).setCell ⟨B, 1, none⟩ (.bool k.neg)).setCell ⟨B, 2, none⟩ (.slice k.a1 k.n1 k.c1)).setCell ⟨B, 3, none⟩ (.slice k.a2 k.n2 k.c2)) base B m kq ac ado' no' co' ts' k := by
  obtain ⟨ado', no', co', ts', rfl, hrow, hall, hadd, hg, hno⟩ := hp
  have hr5 := h.row.on hb
  have hlt := fun g hg => (h.row.own.lt g hg).1
  have hlt' := fun g hg => (hrow.own.lt g hg).1
  have h1 := h.B_lt
  have h2 := h.B_ge
  have h3 := h.base_le
  have hfar : ∀ b, b < base → some b ≠ (Value.slice ado no co).ownBlock := fun b hb h9 => by have := hlt b h9.symm; omega
  have hne' : (Value.slice ado' no' co').ownBlock ≠ some B := fun h9 => by have := hlt' B h9; omega
  have hbase5 : base ≤ w5.heap.size := Nat.le_trans h3 hb.size
  have hB6 := ((h.box.on hb).grown hg (hfar B h1))
  have hbel : Below base w5 w6 := hr5.below hg hbase5
  have hw5 : Below w.heap.size w w5 := h.below.trans (hb.mono h.below.size)
  refine ⟨ado', no', co', ts', rfl, hadd, hno, hB6, fun b o hb' => hbel.cell (p := ⟨b, o, none⟩) hb', ?_⟩
  exact {
    row := hrow.set4 hne' _ _ _ _
    all := fun i t ht => (hall i t ht).set4 hB6 _ _ _ _ _ _ _ _ _ _
    ok := h.ok.added hadd hH
    box := hB6.set4 _ _ _ _
    kin := RatC.set4 (RatC.row (RatC.on h.kin hb) hr5 hg) hB6 _ _ _ _ _ _ _ _ _ _
    cbox := ((h.cbox.on hb).grown hg (hfar _ (by omega))).far4 (by omega) _ _ _ _
    res := ((h.res.on hb).grown hg (hfar _ (by omega))).far4 (by omega) _ _ _ _
    below := below_set4 (hw5.trans (hbel.mono (by omega))) (by omega) _ _ _ _
    base_le := by have := hbel.size; simp [World.setCell]; omega
    B_lt := h1
    B_ge := h2 }
theorem MOut.on {w wr w' : World} {base B m : Nat} {kq : Rat} {ac : Array Value} {ado : Option Addr} {no co : Nat} {ts : List TD} {k : RD} (h : MOut w wr base B m kq ac ado no co ts k) (hb : Below wr.heap.size wr w') : MOut w w' base B m kq ac ado no co ts k :=
  { row := h.row.on hb, all := fun i t ht => (h.all i t ht).on hb, ok := h.ok, box := h.box.on hb, kin := RatC.on h.kin hb, cbox := h.cbox.on hb, res := h.res.on hb, below := h.below.trans (hb.mono h.below.size), base_le := Nat.le_trans h.base_le hb.size, B_lt := h.B_lt, B_ge := h.B_ge }
def lenOf : Value → Nat
  | .slice _ n _ => n
  | _ => 0
/-- the loop's relation -/
def MRel (w : World) (base B m : Nat) (kq q : Rat) (ac : Array Value) (R : List (Int × Rat)) (s8 s9 : Value) (wr : World) : Prop :=
  ∃ ad8 n8 c8 ad9 n9 c9 tf tg ado no co ts k, s8 = .slice ad8 n8 c8 ∧ s9 = .slice ad9 n9 c9 ∧ TermsR w ad8 n8 c8 tf ∧ TermsR w ad9 n9 c9 tg ∧ OkT m tf ∧ OkT m tg ∧
    MOut w wr base B (3 * m + 1) kq ac ado no co ts k ∧ Hid (fm ts ++ mergeV (fm tf) (fm tg) q = R) ∧ no + n8 + n9 ≤ 536870912
/-- The call returns the form with the terms R and the number kq. -/
def RetF (m : Nat) (R : List (Int × Rat)) (kq : Rat) (w : World) (e : Ending) (w' : World) : Prop :=
  ∃ ad n c ts k, e = .returned (.agg #[.slice ad n c, .bool k.neg, .slice k.a1 k.n1 k.c1, .slice k.a2 k.n2 k.c2]) ∧ TermsR w' ad n c ts ∧ OkT m ts ∧ fm ts = R ∧ RD.C k w' kq ∧ Below w.heap.size w w'

theorem MOut.fin {w wr : World} {base B m : Nat} {kq : Rat} {ac : Array Value} {ado : Option Addr} {no co : Nat} {ts : List TD} {k : RD} {R : List (Int × Rat)} (h : MOut w wr base B m kq ac ado no co ts k) (he : fm ts = R) :
    RetF m R kq w (.returned (.agg #[.slice ado no co, .bool k.neg, .slice k.a1 k.n1 k.c1, .slice k.a2 k.n2 k.c2]))
      ((((wr.setCell ⟨w.heap.size + 1 + 1 + 1, 0, none⟩ (.slice ado no co)).setCell ⟨w.heap.size + 1 + 1 + 1, 1, none⟩ (.bool k.neg)).setCell ⟨w.heap.size + 1 + 1 + 1, 2, none⟩ (.slice k.a1 k.n1 k.c1)).setCell ⟨w.heap.size + 1 + 1 + 1, 3, none⟩ (.slice k.a2 k.n2 k.c2)) := by
  have h1 := h.B_lt
  have h2 := h.B_ge
  have hne : (Value.slice ado no co).ownBlock ≠ some (w.heap.size + 1 + 1 + 1) := fun h9 => by have := (h.row.own.lt _ h9).1; omega
  exact ⟨_, _, _, ts, k, rfl, (h.row.set4 hne _ _ _ _).terms (fun i t ht => (h.all i t ht).set4 h.res _ _ _ _ _ _ _ _ _ _), h.ok, he, RatC.set4 h.kin h.res _ _ _ _ _ _ _ _ _ _, below_set4 h.below (by omega) _ _ _ _⟩
theorem hid_a {us us' uf ug : List TD} {t : TD} {q : Rat} {R : List (Int × Rat)} (h : Hid (Added us us' t.v t.c.q)) (he : Hid (fm us ++ mergeV (fm (t :: uf)) (fm ug) q = R)) (hc : ug = [] ∨ ∃ u ug', ug = u :: ug' ∧ t.v < u.v) : fm us' ++ mergeV (fm uf) (fm ug) q = R := by
  have he' := he.out
  rw [fm_added h.out, List.append_assoc, ← he']
  congr 1
  rcases hc with rfl | ⟨u, ug', rfl, hlt⟩
  · exact (mergeV_a (t.v, t.c.q) (fm uf) q).symm
  · exact (mergeV_lt (a := (t.v, t.c.q)) (b := (u.v, u.c.q)) hlt (fm uf) (fm ug') q).symm
theorem hid_b {us us' uf ug : List TD} {u : TD} {q : Rat} {R : List (Int × Rat)} (h : Hid (Added us us' u.v (u.c.q * q))) (he : Hid (fm us ++ mergeV (fm uf) (fm (u :: ug)) q = R)) (hc : uf = [] ∨ ∃ t uf', uf = t :: uf' ∧ u.v < t.v) : fm us' ++ mergeV (fm uf) (fm ug) q = R := by
  have he' := he.out
  rw [fm_added h.out, List.append_assoc, ← he']
  congr 1
  rcases hc with rfl | ⟨t, uf', rfl, hlt⟩
  · exact (mergeV_b (u.v, u.c.q) (fm ug) q).symm
  · exact (mergeV_gt (a := (t.v, t.c.q)) (b := (u.v, u.c.q)) hlt (fm uf') (fm ug) q).symm
theorem hid_ab {us us' uf ug : List TD} {t u : TD} {q : Rat} {R : List (Int × Rat)} (h : Hid (Added us us' t.v (t.c.q + u.c.q * q))) (he : Hid (fm us ++ mergeV (fm (t :: uf)) (fm (u :: ug)) q = R)) (hc : t.v = u.v) : fm us' ++ mergeV (fm uf) (fm ug) q = R := by
  have he' := he.out
  rw [fm_added h.out, List.append_assoc, ← he']
  congr 1
  exact (mergeV_eq (a := (t.v, t.c.q)) (b := (u.v, u.c.q)) hc (fm uf) (fm ug) q).symm

def MergeCut (W : World) (q : Rat) (s7 : Value) (wx : World) : Prop :=
  ∃ U B s a n c a' n' c', s7 = .pointer (some ⟨B, 0, none⟩) ∧ Blk U B 29 #[.slice none 0 0, .bool s, .slice a n c, .slice a' n' c'] ∧ RatC U s a n c a' n' c' q ∧ W.heap.size ≤ B ∧ Below W.heap.size W U ∧ U = wx

set_option maxRecDepth 100000 in
set_option maxHeartbeats 12800000 in
theorem merge_c (w : World) {ad8 ad9 : Option Addr} {n8 c8 n9 c9 : Nat} {tf tg : List TD} {kf kg : RD} {s1 : Bool} {a1 a2 : Option Addr} {n1 n2 c1 c2 : Nat} {q : Rat} {m : Nat}
    (hf : TermsR w ad8 n8 c8 tf) (hkf : kf.In w) (hg : TermsR w ad9 n9 c9 tg) (hkg : kg.In w) (hq : RatC w s1 a1 n1 c1 a2 n2 c2 q) (hm : m ≤ 68719476736) (hof : OkT m tf) (hog : OkT m tg) (hokf : kf.Ok) (hokg : kg.Ok) (hHf : H kf.q ≤ m) (hHg : H kg.q ≤ m) (hHq : H q ≤ m) (hn8 : n8 ≤ 268435456) (hn9 : n9 ≤ 268435456) :
    Calls Tryz.prog 63 #[.agg #[.slice ad8 n8 c8, .bool kf.neg, .slice kf.a1 kf.n1 kf.c1, .slice kf.a2 kf.n2 kf.c2], .agg #[.slice ad9 n9 c9, .bool kg.neg, .slice kg.a1 kg.n1 kg.c1, .slice kg.a2 kg.n2 kg.c2], .agg #[.bool s1, .slice a1 n1 c1, .slice a2 n2 c2]] w (RetF (3 * m + 1) (mergeV (fm tf) (fm tg) q) (kf.q + kg.q * q) w) := by
  have hP := Pro4.mk' w #[.slice ad8 n8 c8, .bool kf.neg, .slice kf.a1 kf.n1 kf.c1, .slice kf.a2 kf.n2 kf.c2] #[.slice ad9 n9 c9, .bool kg.neg, .slice kg.a1 kg.n1 kg.c1, .slice kg.a2 kg.n2 kg.c2] #[.bool s1, .slice a1 n1 c1, .slice a2 n2 c2] #[.slice none 0 0, .bool false, .slice none 0 0, .slice none 0 0] 29 29 27 29
  go_enter Tryz.func63, Tryz.ntmps63
  go_upto_region 1 with (fail)
  generalize (((w.alloc (.cells #[.slice ad8 n8 c8, .bool kf.neg, .slice kf.a1 kf.n1 kf.c1, .slice kf.a2 kf.n2 kf.c2] 29)).alloc (.cells #[.slice ad9 n9 c9, .bool kg.neg, .slice kg.a1 kg.n1 kg.c1, .slice kg.a2 kg.n2 kg.c2] 29)).alloc (.cells #[.bool s1, .slice a1 n1 c1, .slice a2 n2 c2] 27)).alloc (.cells #[.slice none 0 0, .bool false, .slice none 0 0, .slice none 0 0] 29) = W at *
  have hA : Blk W (w.heap.size) 29 #[.slice ad8 n8 c8, .bool kf.neg, .slice kf.a1 kf.n1 kf.c1, .slice kf.a2 kf.n2 kf.c2] := hP.b0
  have hG : Blk W (w.heap.size + 1) 29 #[.slice ad9 n9 c9, .bool kg.neg, .slice kg.a1 kg.n1 kg.c1, .slice kg.a2 kg.n2 kg.c2] := hP.b1
  have hC : Blk W (w.heap.size + 1 + 1) 27 #[.bool s1, .slice a1 n1 c1, .slice a2 n2 c2] := hP.b2
  have hR : Blk W (w.heap.size + 1 + 1 + 1) 29 #[.slice none 0 0, .bool false, .slice none 0 0, .slice none 0 0] := hP.b3
  have hPb := hP.below
  have HPS := Lib.hid hP.size
  have qf := RD.ok_c (hkf.on hPb) hokf
  have qg := RD.ok_c (hkg.on hPb) hokg
  have qc := hq.on hPb
  have k0 := hA.cell 0
  have k1 := hA.cell 1
  have k2 := hA.cell 2
  have k3 := hA.cell 3
  have l0 := hG.cell 0
  have l1 := hG.cell 1
  have l2 := hG.cell 2
  have l3 := hG.cell 3
  have m0 := hC.cell 0
  have m1 := hC.cell 1
  have m2 := hC.cell 2
  have z0 := hA.lt
  have z1 := hG.lt
  have z2 := hC.lt
  have z3 := hR.lt
  simp at k0 k1 k2 k3 l0 l1 l2 l3 m0 m1 m2
  clear hP
  have hqW : Blk (W.alloc (.cells #[.slice none 0 0, .bool false, .slice none 0 0, .slice none 0 0] 29)).drew W.heap.size 29 #[.slice none 0 0, .bool false, .slice none 0 0, .slice none 0 0] := Blk.new W _ _
  have hwW : Below W.heap.size W W.drew := Below.drew (Below.refl _ _)
  have huW : Below W.heap.size W (W.alloc (.cells #[.slice none 0 0, .bool false, .slice none 0 0, .slice none 0 0] 29)).drew := Below.drew ((Below.refl _ _).alloc (Nat.le_refl _) _)
  have eW0 : w.heap.size ≠ W.heap.size := by omega
  have eW0' := Ne.symm eW0
  have eW1 : w.heap.size + 1 ≠ W.heap.size := by omega
  have eW1' := Ne.symm eW1
  have eW2 : w.heap.size + 1 + 1 ≠ W.heap.size := by omega
  have eW2' := Ne.symm eW2
  have eW3 : w.heap.size + 1 + 1 + 1 ≠ W.heap.size := by omega
  have eW3' := Ne.symm eW3
  go_cut [7] (fun s7 wx => MergeCut W (kf.q + kg.q * q) s7 wx)
  case first =>
    go_region_held3 (fun w' => w'.cell? ⟨w.heap.size, 1, none⟩ = some (.bool kf.neg) ∧ w'.cell? ⟨w.heap.size, 2, none⟩ = some (.slice kf.a1 kf.n1 kf.c1) ∧ w'.cell? ⟨w.heap.size, 3, none⟩ = some (.slice kf.a2 kf.n2 kf.c2) ∧ w'.cell? ⟨w.heap.size + 1, 1, none⟩ = some (.bool kg.neg) ∧ w'.cell? ⟨w.heap.size + 1, 2, none⟩ = some (.slice kg.a1 kg.n1 kg.c1) ∧ w'.cell? ⟨w.heap.size + 1, 3, none⟩ = some (.slice kg.a2 kg.n2 kg.c2) ∧ w'.cell? ⟨w.heap.size + 1 + 1, 0, none⟩ = some (.bool s1) ∧ w'.cell? ⟨w.heap.size + 1 + 1, 1, none⟩ = some (.slice a1 n1 c1) ∧ w'.cell? ⟨w.heap.size + 1 + 1, 2, none⟩ = some (.slice a2 n2 c2))
      (go_keep)
      (first
        | (go_at_call 82; refine (rmul_c _ (RatC.on qg (by first | exact hwW | exact huW)) (qc.on (by first | exact hwW | exact huW)) (by omega) (by omega)).mono ?_; rintro e w5 ⟨s5, a5, n5, c5, a6, n6, c6, rfl, g5, hb5'⟩; have hb5 : Below W.heap.size W w5 := (by first | exact hwW.trans hb5' | exact huW.trans (hb5'.mono huW.size)); obtain ⟨hc5, hf5⟩ := bcell hb5; have ew50 : w.heap.size ≠ w5.heap.size := (by have := hb5.size; omega); have ew50' := Ne.symm ew50; have ew51 : w.heap.size + 1 ≠ w5.heap.size := (by have := hb5.size; omega); have ew51' := Ne.symm ew51; have ew52 : w.heap.size + 1 + 1 ≠ w5.heap.size := (by have := hb5.size; omega); have ew52' := Ne.symm ew52; have ew53 : w.heap.size + 1 + 1 + 1 ≠ w5.heap.size := (by have := hb5.size; omega); have ew53' := Ne.symm ew53; (try (have hX5 := hqW.on hb5')); have hal5 : Below w5.heap.size w5 (w5.alloc (.cells #[.slice none 0 0, .bool false, .slice none 0 0, .slice none 0 0] 29)) := (Below.refl _ _).alloc (Nat.le_refl _) _)
        | (go_at_call 81; refine (radd_c _ (RatC.on qf (by first | exact hb5 | exact hb5.trans (hal5.mono hb5.size))) (by first | exact g5 | exact g5.on hal5) (by omega) (by have := H_mul kg.q q; omega)).mono ?_; rintro e w6 ⟨s6, a7, n7, c7, a8, n10, c10, rfl, g6, hb6'⟩; have hb6 : Below W.heap.size W w6 := (by first | exact hb5.trans (hb6'.mono hb5.size) | exact (hb5.trans (hal5.mono hb5.size)).trans (hb6'.mono (hb5.trans (hal5.mono hb5.size)).size)); obtain ⟨hc6, hf6⟩ := bcell hb6; have ew60 : w.heap.size ≠ w6.heap.size := (by have := hb6.size; omega); have ew60' := Ne.symm ew60; have ew61 : w.heap.size + 1 ≠ w6.heap.size := (by have := hb6.size; omega); have ew61' := Ne.symm ew61; have ew62 : w.heap.size + 1 + 1 ≠ w6.heap.size := (by have := hb6.size; omega); have ew62' := Ne.symm ew62; have ew63 : w.heap.size + 1 + 1 + 1 ≠ w6.heap.size := (by have := hb6.size; omega); have ew63' := Ne.symm ew63; (first | have hX6 := hX5.on hb6' | have hX6 := (Blk.new w5 29 #[.slice none 0 0, .bool false, .slice none 0 0, .slice none 0 0]).on hb6' | skip); try (have x0 := hX6.cell 0; have x1 := hX6.cell 1; have x2 := hX6.cell 2; have x3 := hX6.cell 3; have x4 := hX6.frozen 0; have x5 := hX6.frozen 1; have x6 := hX6.frozen 2; have x7 := hX6.frozen 3; have x8 := hX6.lt; simp at x0 x1 x2 x3)))
    all_goals
      go_wp2_with fail
      go_meet
      first
        | exact ⟨_, _, s6, a7, n7, c7, a8, n10, c10, rfl, hX6.set4 _ _ _ _, g6.set4 hX6 _ _ _ _ _ _ _ _ _ _, (by first | exact Nat.le_refl _ | exact hb5.size), below_set4 hb6 (by first | exact Nat.le_refl _ | exact hb5.size) _ _ _ _, rfl⟩
        | exact ⟨_, w6.heap.size, s6, a7, n7, c7, a8, n10, c10, rfl, Blk.new _ _ _, g6.on ((Below.refl _ _).alloc (Nat.le_refl _) _), hb6.size, hb6.alloc hb6.size _, rfl⟩
  case rest =>
    obtain ⟨wx, B, s, a, n, c, a', n', c', rfl, hBX, hqX, hBge, hbX, rfl⟩ := hcut
    clear hqW hwW huW qf qg qc
    have hwx : Below w.heap.size w wx := hPb.trans (hbX.mono (by have := HPS.out; omega))
    have k0 := (hA.on hbX).cell 0
    have l0 := (hG.on hbX).cell 0
    simp at k0 l0
    have hM0 : MOut w wx wx.heap.size B (3 * m + 1) (kf.q + kg.q * q) #[.bool s1, .slice a1 n1 c1, .slice a2 n2 c2] none 0 0 [] (rdOf s a n c a' n' c' (kf.q + kg.q * q)) := {
      row := Row.nil _ _ _ _ _
      all := fun i t ht => by cases ht
      ok := fun i t ht => by cases ht
      box := hBX
      kin := hqX
      cbox := hC.on hbX
      res := hR.on hbX
      below := hwx
      base_le := Nat.le_refl _
      B_lt := hBX.lt
      B_ge := by have := HPS.out; omega }
    clear hA hG hC hR hBX hqX k1 k2 k3 l1 l2 l3 m0 m1 m2 hbX hBge
    go_upto_region 2 with (fail)
    go_quiet (fail)
    have hbn := (Below.refl wx.heap.size wx).drewN nq
    have hM1 := hM0.on hbn
    go_wp2_with fail
    go_loopw [8, 9] (fun s8 s9 wr => MRel w wx.heap.size B m (kf.q + kg.q * q) q #[.bool s1, .slice a1 n1 c1, .slice a2 n2 c2] (mergeV (fm tf) (fm tg) q) s8 s9 wr) (fun s8 s9 _ => lenOf s8 + lenOf s9)
    case atStart => exact ⟨_, _, _, _, _, _, tf, tg, _, _, _, [], _, rfl, rfl, hf, hg, hof, hog, hM1, rfl, by omega⟩
    case round =>
      clear hf hg hof hog hkf hkg hokf hokg hHf hHg hM0 hM1 k0 l0 z0 z1 z2 z3 hbn hwx
      obtain ⟨x8, p8, d8, x9, p9, d9, uf, ug, xo, po, do_, us, ko, rfl, rfl, hT8, hT9, hO8, hO9, hM, HE, hsum⟩ := hrel
      rcases uf with _ | ⟨t, uf⟩ <;> rcases ug with _ | ⟨u, ug⟩
      · have e8 : p8 = 0 := hT8.nil_len
        have e9 : p9 = 0 := hT9.nil_len
        subst e8 e9
        have b0 := hM.box.cell 0
        have b1 := hM.box.cell 1
        have b2 := hM.box.cell 2
        have b3 := hM.box.cell 3
        have r0 := hM.res.cell 0
        have r1 := hM.res.cell 1
        have r2 := hM.res.cell 2
        have r3 := hM.res.cell 3
        have f0 := hM.res.frozen 0
        have f1 := hM.res.frozen 1
        have f2 := hM.res.frozen 2
        have f3 := hM.res.frozen 3
        have rz := hM.res.lt
        have HF := Lib.hid (hM.fin (R := fm us) rfl)
        have HQ : Hid (fm us = mergeV (fm tf) (fm tg) q) := by have := HE.out; rw [show fm [] = [] from rfl, mergeV_nil, List.append_nil] at this; exact this
        simp at b0 b1 b2 b3 r0 r1 r2 r3
        go_wp2_with fail
        exact bodyPost_ret (v := .agg #[.slice xo po do_, .bool ko.neg, .slice ko.a1 ko.n1 ko.c1, .slice ko.a2 ko.n2 ko.c2]) (by simp [results, Tryz.results63, go_sem, *]) rfl (by rw [← HQ.out]; exact HF.out)
      · obtain ⟨bu, ou, rfl, hu, gu, u0, u1, u2, u3⟩ := (hT9.on hM.below).head
        have hTu := hT9.tail
        have pp9 : 0 < p9 := by have := hT9.len; simp at this; omega
        have i9 : decide ((0 : Int) < (p9 : Int)) = true := decide_eq_true (by omega)
        have j9 : decide (0 < p9) = true := decide_eq_true pp9
        have q9 : ((p9 : Int) == 0) = false := by simp; omega
        have e8 : p8 = 0 := hT8.nil_len
        subst e8
        go_upto_region 6 with (fail)
        go_quiet (fail)
        have hbU1 := (Below.refl wr.heap.size wr).drewN nq
        generalize wr.drewN nq = U1 at *
        have hMU1 := hM.on hbU1
        clear u0 u1 u2 u3
        obtain ⟨bu9, ou9, eu9, hu9, gu9, u0, u1, u2, u3⟩ := (hT9.on hMU1.below).head
        obtain ⟨rfl, rfl⟩ : bu = bu9 ∧ ou = ou9 := by simpa using eu9
        clear eu9 gu hu
        have gu := gu9
        have hu := hu9
        clear gu9 hu9
        go_upto_region 9 with (fail)
        go_quiet (fail)
        have hbU := (Below.refl U1.heap.size U1).drewN nq
        generalize U1.drewN nq = U at *
        have hMU := hMU1.on hbU
        clear u0 u1 u2 u3
        obtain ⟨bu9, ou9, eu9, hu9, gu9, u0, u1, u2, u3⟩ := (hT9.on hMU.below).head
        obtain ⟨rfl, rfl⟩ : bu = bu9 ∧ ou = ou9 := by simpa using eu9
        clear eu9 gu hu
        have gu := gu9
        have hu := hu9
        clear gu9 hu9
        go_upto_region 10 with (fail)
        have b0 := hMU.box.cell 0
        have b1 := hMU.box.cell 1
        have b2 := hMU.box.cell 2
        have b3 := hMU.box.cell 3
        have bz := hMU.box.lt
        simp at b0 b1 b2 b3
        have m0 := hMU.cbox.cell 0
        have m1 := hMU.cbox.cell 1
        have m2 := hMU.cbox.cell 2
        have mz := hMU.cbox.lt
        simp at m0 m1 m2
        have hU0 : Below U.heap.size U U.drew := Below.drew (Below.refl _ _)
        have nBc : B ≠ w.heap.size + 1 + 1 := by have := hM.B_ge; omega
        have nBc' : w.heap.size + 1 + 1 < wx.heap.size := by have := hM.B_ge; have := hM.B_lt; omega
        have nBu : B ≠ bu := by
          obtain ⟨b9, o9, e9, h9, _⟩ := hT9.head
          obtain ⟨rfl, rfl⟩ : bu = b9 ∧ ou = o9 := by simpa using e9
          have := hM.B_ge; omega
        have nBu' : bu < wx.heap.size := by
          obtain ⟨b9, o9, e9, h9, _⟩ := hT9.head
          obtain ⟨rfl, rfl⟩ : bu = b9 ∧ ou = o9 := by simpa using e9
          have := hM.B_ge; have := hM.B_lt; omega
        refine wp_region_T 12 (fun w' => w'.cell? ⟨bu, ou, none⟩ = some (.int .i64 u.v) ∧ w'.cell? ⟨bu, ou + 1, none⟩ = some (.bool u.c.neg) ∧ w'.cell? ⟨bu, ou + 1 + 1, none⟩ = some (.slice u.c.a1 u.c.n1 u.c.c1) ∧ w'.cell? ⟨bu, ou + 1 + 2, none⟩ = some (.slice u.c.a2 u.c.n2 u.c.c2) ∧ w'.cell? ⟨w.heap.size + 1 + 1, 0, none⟩ = some (.bool s1) ∧ w'.cell? ⟨w.heap.size + 1 + 1, 1, none⟩ = some (.slice a1 n1 c1) ∧ w'.cell? ⟨w.heap.size + 1 + 1, 2, none⟩ = some (.slice a2 n2 c2) ∧ w'.cell? ⟨B, 0, none⟩ = some (.slice xo po do_) ∧ w'.cell? ⟨B, 1, none⟩ = some (.bool ko.neg) ∧ w'.cell? ⟨B, 2, none⟩ = some (.slice ko.a1 ko.n1 ko.c1) ∧ w'.cell? ⟨B, 3, none⟩ = some (.slice ko.a2 ko.n2 ko.c2)) (by kernel_rfl) (by (try dsimp only); go_keep) (fun hHeld => ?_)
        refine wpT_take 0 (v := ?_) rfl (by kernel_rfl) (fun _ _ _ h => h) (by rfl) (by assumption) ?_ ?_
        rotate_left
        · (intro w9 hS9; (try dsimp only at hS9); go_simp; try with_reducible rfl)
        try simp only [Act.put, List.setIfInBounds_toArray, List.set_cons_zero, List.set_cons_succ]
        refine wpT_take 1 (v := ?_) rfl (by kernel_rfl) (fun _ _ _ h => h) (by rfl) (by assumption) ?_ ?_
        rotate_left
        · (intro w9 hS9; (try dsimp only at hS9); go_simp; try with_reducible rfl)
        try simp only [Act.put, List.setIfInBounds_toArray, List.set_cons_zero, List.set_cons_succ]
        refine wpT_take 2 (v := ?_) rfl (by kernel_rfl) (fun _ _ _ h => h) (by rfl) (by assumption) ?_ ?_
        rotate_left
        · (intro w9 hS9; (try dsimp only at hS9); go_simp; try with_reducible rfl)
        try simp only [Act.put, List.setIfInBounds_toArray, List.set_cons_zero, List.set_cons_succ]
        refine wpT_take 3 (v := ?_) rfl (by kernel_rfl) (fun _ _ _ h => h) (by rfl) (by assumption) ?_ ?_
        rotate_left
        · (intro w9 hS9; (try dsimp only at hS9); go_simp; try with_reducible rfl)
        try simp only [Act.put, List.setIfInBounds_toArray, List.set_cons_zero, List.set_cons_succ]
        refine wpT_take 4 (v := ?_) rfl (by kernel_rfl) (fun _ _ _ h => h) (by rfl) (by assumption) ?_ ?_
        rotate_left
        · (intro w9 hS9; (try dsimp only at hS9); go_simp; try with_reducible rfl)
        try simp only [Act.put, List.setIfInBounds_toArray, List.set_cons_zero, List.set_cons_succ]
        refine wpT_take 5 (v := ?_) rfl (by kernel_rfl) (fun _ _ _ h => h) (by rfl) (by assumption) ?_ ?_
        rotate_left
        · (intro w9 hS9; (try dsimp only at hS9); go_simp; try with_reducible rfl)
        try simp only [Act.put, List.setIfInBounds_toArray, List.set_cons_zero, List.set_cons_succ]
        refine wpT_take 6 (v := ?_) rfl (by kernel_rfl) (fun _ _ _ h => h) (by rfl) (by assumption) ?_ ?_
        rotate_left
        · (intro w9 hS9; (try dsimp only at hS9); go_simp; try with_reducible rfl)
        try simp only [Act.put, List.setIfInBounds_toArray, List.set_cons_zero, List.set_cons_succ]
        refine wpT_take 7 (v := ?_) rfl (by kernel_rfl) (fun _ _ _ h => h) (by rfl) (by assumption) ?_ ?_
        rotate_left
        · (intro w9 hS9; (try dsimp only at hS9); go_simp; try with_reducible rfl)
        try simp only [Act.put, List.setIfInBounds_toArray, List.set_cons_zero, List.set_cons_succ]
        refine wpT_take 8 (v := ?_) rfl (by kernel_rfl) (fun _ _ _ h => h) (by rfl) (by assumption) ?_ ?_
        rotate_left
        · (intro w9 hS9; (try dsimp only at hS9); go_simp; try with_reducible rfl)
        try simp only [Act.put, List.setIfInBounds_toArray, List.set_cons_zero, List.set_cons_succ]
        refine wpT_take 9 (v := ?_) rfl (by kernel_rfl) (fun _ _ _ h => h) (by rfl) (by assumption) ?_ ?_
        rotate_left
        · (intro w9 hS9; (try dsimp only at hS9); go_simp; try with_reducible rfl)
        try simp only [Act.put, List.setIfInBounds_toArray, List.set_cons_zero, List.set_cons_succ]
        refine wpT_only 10 rfl (by kernel_rfl) (fun K hK => ?_)
        go_simp
        (go_at_call 82; refine (rmul_c _ (RatC.on (RD.ok_c gu (hO9 0 u rfl).1) hU0) ((hq.on hMU.below).on hU0) (by have := (hO9 0 u rfl).2; omega) (by omega)).mono ?_; rintro e w5 ⟨s5, a5, n5, c5, a6, n6, c6, rfl, g5, hb5'⟩; have hb5 : Below U.heap.size U w5 := hU0.trans hb5'; obtain ⟨hc5, hf5⟩ := bcell hb5)
        go_wp2_with fail
        clear hHeld
        refine hK.out _ _ ?_ (fun hHeld => ?_)
        · (try dsimp only); go_keep
        clear hK K
        try simp only [Act.put, List.setIfInBounds_toArray, List.set_cons_zero, List.set_cons_succ]
        refine wpT_only 11 rfl (by kernel_rfl) (fun K hK => ?_)
        go_simp
        (go_at_call 92; refine (put_c _ wx.heap.size u.v (hMU.row.on hb5) (fun i y hy => (hMU.all i y hy).on hb5) g5 (by have := H_mul u.c.q q; have := (hO9 0 u rfl).2; omega) (by omega) (Nat.le_trans hMU.base_le (hb5).size)).mono ?_; rintro e w6 hp; obtain ⟨xo', po', do', us', rfl, HA, hpo, hB6, hc6, hM6⟩ := hMU.put hb5 hp (by have := H_mul u.c.q q; have := (hO9 0 u rfl).2; omega); have y0 := hB6.cell 0; have y1 := hB6.cell 1; have y2 := hB6.cell 2; have y3 := hB6.cell 3; have y4 := hB6.frozen 0; have y5 := hB6.frozen 1; have y6 := hB6.frozen 2; have y7 := hB6.frozen 3; have y8 := hB6.lt; have yz := hM6.base_le; simp at y0 y1 y2 y3)
        go_wp2_with fail
        clear hHeld
        refine hK.out _ _ ?_ (fun hHeld => ?_)
        · (try dsimp only); go_keep
        clear hK K
        try simp only [Act.put, List.setIfInBounds_toArray, List.set_cons_zero, List.set_cons_succ]
        refine wpT_last 12 rfl rfl (by kernel_rfl) (fun K hK => ?_)
        go_simp
        refine hK.out _ _ ?_
        clear hK K
        try simp only [Act.put, List.setIfInBounds_toArray, List.set_cons_zero, List.set_cons_succ]
        refine wpT_done (by kernel_rfl) ?_ _
        all_goals
          go_wp2_with fail
          go_roundw
          case rel => exact ⟨_, 0, d8, _, p9 - 1, _, [], ug, xo', po', do', us', ko, rfl, rfl, hT8, hTu, hO8, hO9.tail, hM6, hid_b HA HE (.inl rfl), by omega⟩
          case measure => simp [lenOf]; omega
      · obtain ⟨bt, ot, rfl, ht, gt, t0, t1, t2, t3⟩ := (hT8.on hM.below).head
        have hTt := hT8.tail
        have pp8 : 0 < p8 := by have := hT8.len; simp at this; omega
        have i8 : decide ((0 : Int) < (p8 : Int)) = true := decide_eq_true (by omega)
        have j8 : decide (0 < p8) = true := decide_eq_true pp8
        have q8 : ((p8 : Int) == 0) = false := by simp; omega
        have e9 : p9 = 0 := hT9.nil_len
        subst e9
        go_upto_region 6 with (fail)
        go_quiet (fail)
        have hbU := (Below.refl wr.heap.size wr).drewN nq
        generalize wr.drewN nq = U at *
        have hMU := hM.on hbU
        clear t0 t1 t2 t3
        obtain ⟨bt9, ot9, et9, ht9, gt9, t0, t1, t2, t3⟩ := (hT8.on hMU.below).head
        obtain ⟨rfl, rfl⟩ : bt = bt9 ∧ ot = ot9 := by simpa using et9
        clear et9 gt ht
        have gt := gt9
        have ht := ht9
        clear gt9 ht9
        go_upto_region 7 with (fail)
        have b0 := hMU.box.cell 0
        have b1 := hMU.box.cell 1
        have b2 := hMU.box.cell 2
        have b3 := hMU.box.cell 3
        have bz := hMU.box.lt
        simp at b0 b1 b2 b3
        have m0 := hMU.cbox.cell 0
        have m1 := hMU.cbox.cell 1
        have m2 := hMU.cbox.cell 2
        have mz := hMU.cbox.lt
        simp at m0 m1 m2
        have hU0 : Below U.heap.size U U.drew := Below.drew (Below.refl _ _)
        have nBc : B ≠ w.heap.size + 1 + 1 := by have := hM.B_ge; omega
        have nBc' : w.heap.size + 1 + 1 < wx.heap.size := by have := hM.B_ge; have := hM.B_lt; omega
        have nBt : B ≠ bt := by
          obtain ⟨b9, o9, e9, h9, _⟩ := hT8.head
          obtain ⟨rfl, rfl⟩ : bt = b9 ∧ ot = o9 := by simpa using e9
          have := hM.B_ge; omega
        have nBt' : bt < wx.heap.size := by
          obtain ⟨b9, o9, e9, h9, _⟩ := hT8.head
          obtain ⟨rfl, rfl⟩ : bt = b9 ∧ ot = o9 := by simpa using e9
          have := hM.B_ge; have := hM.B_lt; omega
        refine wp_region_T 10 (fun w' => w'.cell? ⟨bt, ot, none⟩ = some (.int .i64 t.v) ∧ w'.cell? ⟨bt, ot + 1, none⟩ = some (.bool t.c.neg) ∧ w'.cell? ⟨bt, ot + 1 + 1, none⟩ = some (.slice t.c.a1 t.c.n1 t.c.c1) ∧ w'.cell? ⟨bt, ot + 1 + 2, none⟩ = some (.slice t.c.a2 t.c.n2 t.c.c2) ∧ w'.cell? ⟨B, 0, none⟩ = some (.slice xo po do_) ∧ w'.cell? ⟨B, 1, none⟩ = some (.bool ko.neg) ∧ w'.cell? ⟨B, 2, none⟩ = some (.slice ko.a1 ko.n1 ko.c1) ∧ w'.cell? ⟨B, 3, none⟩ = some (.slice ko.a2 ko.n2 ko.c2)) (by kernel_rfl) (by (try dsimp only); go_keep) (fun hHeld => ?_)
        refine wpT_take 0 (v := ?_) rfl (by kernel_rfl) (fun _ _ _ h => h) (by rfl) (by assumption) ?_ ?_
        rotate_left
        · (intro w9 hS9; (try dsimp only at hS9); go_simp; try with_reducible rfl)
        try simp only [Act.put, List.setIfInBounds_toArray, List.set_cons_zero, List.set_cons_succ]
        refine wpT_take 1 (v := ?_) rfl (by kernel_rfl) (fun _ _ _ h => h) (by rfl) (by assumption) ?_ ?_
        rotate_left
        · (intro w9 hS9; (try dsimp only at hS9); go_simp; try with_reducible rfl)
        try simp only [Act.put, List.setIfInBounds_toArray, List.set_cons_zero, List.set_cons_succ]
        refine wpT_take 2 (v := ?_) rfl (by kernel_rfl) (fun _ _ _ h => h) (by rfl) (by assumption) ?_ ?_
        rotate_left
        · (intro w9 hS9; (try dsimp only at hS9); go_simp; try with_reducible rfl)
        try simp only [Act.put, List.setIfInBounds_toArray, List.set_cons_zero, List.set_cons_succ]
        refine wpT_take 3 (v := ?_) rfl (by kernel_rfl) (fun _ _ _ h => h) (by rfl) (by assumption) ?_ ?_
        rotate_left
        · (intro w9 hS9; (try dsimp only at hS9); go_simp; try with_reducible rfl)
        try simp only [Act.put, List.setIfInBounds_toArray, List.set_cons_zero, List.set_cons_succ]
        refine wpT_take 4 (v := ?_) rfl (by kernel_rfl) (fun _ _ _ h => h) (by rfl) (by assumption) ?_ ?_
        rotate_left
        · (intro w9 hS9; (try dsimp only at hS9); go_simp; try with_reducible rfl)
        try simp only [Act.put, List.setIfInBounds_toArray, List.set_cons_zero, List.set_cons_succ]
        refine wpT_take 5 (v := ?_) rfl (by kernel_rfl) (fun _ _ _ h => h) (by rfl) (by assumption) ?_ ?_
        rotate_left
        · (intro w9 hS9; (try dsimp only at hS9); go_simp; try with_reducible rfl)
        try simp only [Act.put, List.setIfInBounds_toArray, List.set_cons_zero, List.set_cons_succ]
        refine wpT_take 6 (v := ?_) rfl (by kernel_rfl) (fun _ _ _ h => h) (by rfl) (by assumption) ?_ ?_
        rotate_left
        · (intro w9 hS9; (try dsimp only at hS9); go_simp; try with_reducible rfl)
        try simp only [Act.put, List.setIfInBounds_toArray, List.set_cons_zero, List.set_cons_succ]
        refine wpT_take 7 (v := ?_) rfl (by kernel_rfl) (fun _ _ _ h => h) (by rfl) (by assumption) ?_ ?_
        rotate_left
        · (intro w9 hS9; (try dsimp only at hS9); go_simp; try with_reducible rfl)
        try simp only [Act.put, List.setIfInBounds_toArray, List.set_cons_zero, List.set_cons_succ]
        refine wpT_take 8 (v := ?_) rfl (by kernel_rfl) (fun _ _ _ h => h) (by rfl) (by assumption) ?_ ?_
        rotate_left
        · (intro w9 hS9; (try dsimp only at hS9); go_simp; try with_reducible rfl)
        try simp only [Act.put, List.setIfInBounds_toArray, List.set_cons_zero, List.set_cons_succ]
        refine wpT_only 9 rfl (by kernel_rfl) (fun K hK => ?_)
        go_simp
        (go_at_call 92; refine (put_c _ wx.heap.size t.v (hMU.row.on hU0) (fun i y hy => (hMU.all i y hy).on hU0) (RatC.on (RD.ok_c gt (hO8 0 t rfl).1) hU0) (by have := (hO8 0 t rfl).2; omega) (by omega) (Nat.le_trans hMU.base_le (hU0).size)).mono ?_; rintro e w6 hp; obtain ⟨xo', po', do', us', rfl, HA, hpo, hB6, hc6, hM6⟩ := hMU.put hU0 hp (by have := (hO8 0 t rfl).2; omega); have y0 := hB6.cell 0; have y1 := hB6.cell 1; have y2 := hB6.cell 2; have y3 := hB6.cell 3; have y4 := hB6.frozen 0; have y5 := hB6.frozen 1; have y6 := hB6.frozen 2; have y7 := hB6.frozen 3; have y8 := hB6.lt; have yz := hM6.base_le; simp at y0 y1 y2 y3)
        go_wp2_with fail
        clear hHeld
        refine hK.out _ _ ?_ (fun hHeld => ?_)
        · (try dsimp only); go_keep
        clear hK K
        try simp only [Act.put, List.setIfInBounds_toArray, List.set_cons_zero, List.set_cons_succ]
        refine wpT_last 10 rfl rfl (by kernel_rfl) (fun K hK => ?_)
        go_simp
        refine hK.out _ _ ?_
        clear hK K
        try simp only [Act.put, List.setIfInBounds_toArray, List.set_cons_zero, List.set_cons_succ]
        refine wpT_done (by kernel_rfl) ?_ _
        all_goals
          go_wp2_with fail
          go_roundw
          case rel => exact ⟨_, p8 - 1, _, _, 0, d9, uf, [], xo', po', do', us', ko, rfl, rfl, hTt, hT9, hO8.tail, hO9, hM6, hid_a HA HE (.inl rfl), by omega⟩
          case measure => simp [lenOf]; omega
      · rcases Int.lt_trichotomy t.v u.v with hv | hv | hv
        · obtain ⟨bt, ot, rfl, ht, gt, t0, t1, t2, t3⟩ := (hT8.on hM.below).head
          have hTt := hT8.tail
          obtain ⟨bu, ou, rfl, hu, gu, u0, u1, u2, u3⟩ := (hT9.on hM.below).head
          have pp8 : 0 < p8 := by have := hT8.len; simp at this; omega
          have i8 : decide ((0 : Int) < (p8 : Int)) = true := decide_eq_true (by omega)
          have j8 : decide (0 < p8) = true := decide_eq_true pp8
          have q8 : ((p8 : Int) == 0) = false := by simp; omega
          have pp9 : 0 < p9 := by have := hT9.len; simp at this; omega
          have i9 : decide ((0 : Int) < (p9 : Int)) = true := decide_eq_true (by omega)
          have j9 : decide (0 < p9) = true := decide_eq_true pp9
          have q9 : ((p9 : Int) == 0) = false := by simp; omega
          have d1 : decide (t.v < u.v) = true := decide_eq_true hv
          go_upto_region 6 with (fail)
          go_quiet (fail)
          have hbU := (Below.refl wr.heap.size wr).drewN nq
          generalize wr.drewN nq = U at *
          have hMU := hM.on hbU
          clear t0 t1 t2 t3
          obtain ⟨bt9, ot9, et9, ht9, gt9, t0, t1, t2, t3⟩ := (hT8.on hMU.below).head
          obtain ⟨rfl, rfl⟩ : bt = bt9 ∧ ot = ot9 := by simpa using et9
          clear et9 gt ht
          have gt := gt9
          have ht := ht9
          clear gt9 ht9
          clear u0 u1 u2 u3
          obtain ⟨bu9, ou9, eu9, hu9, gu9, u0, u1, u2, u3⟩ := (hT9.on hMU.below).head
          obtain ⟨rfl, rfl⟩ : bu = bu9 ∧ ou = ou9 := by simpa using eu9
          clear eu9 gu hu
          have gu := gu9
          have hu := hu9
          clear gu9 hu9
          go_upto_region 7 with (fail)
          have b0 := hMU.box.cell 0
          have b1 := hMU.box.cell 1
          have b2 := hMU.box.cell 2
          have b3 := hMU.box.cell 3
          have bz := hMU.box.lt
          simp at b0 b1 b2 b3
          have m0 := hMU.cbox.cell 0
          have m1 := hMU.cbox.cell 1
          have m2 := hMU.cbox.cell 2
          have mz := hMU.cbox.lt
          simp at m0 m1 m2
          have hU0 : Below U.heap.size U U.drew := Below.drew (Below.refl _ _)
          have nBc : B ≠ w.heap.size + 1 + 1 := by have := hM.B_ge; omega
          have nBc' : w.heap.size + 1 + 1 < wx.heap.size := by have := hM.B_ge; have := hM.B_lt; omega
          have nBt : B ≠ bt := by
            obtain ⟨b9, o9, e9, h9, _⟩ := hT8.head
            obtain ⟨rfl, rfl⟩ : bt = b9 ∧ ot = o9 := by simpa using e9
            have := hM.B_ge; omega
          have nBt' : bt < wx.heap.size := by
            obtain ⟨b9, o9, e9, h9, _⟩ := hT8.head
            obtain ⟨rfl, rfl⟩ : bt = b9 ∧ ot = o9 := by simpa using e9
            have := hM.B_ge; have := hM.B_lt; omega
          have nBu : B ≠ bu := by
            obtain ⟨b9, o9, e9, h9, _⟩ := hT9.head
            obtain ⟨rfl, rfl⟩ : bu = b9 ∧ ou = o9 := by simpa using e9
            have := hM.B_ge; omega
          have nBu' : bu < wx.heap.size := by
            obtain ⟨b9, o9, e9, h9, _⟩ := hT9.head
            obtain ⟨rfl, rfl⟩ : bu = b9 ∧ ou = o9 := by simpa using e9
            have := hM.B_ge; have := hM.B_lt; omega
          refine wp_region_T 10 (fun w' => w'.cell? ⟨bt, ot, none⟩ = some (.int .i64 t.v) ∧ w'.cell? ⟨bt, ot + 1, none⟩ = some (.bool t.c.neg) ∧ w'.cell? ⟨bt, ot + 1 + 1, none⟩ = some (.slice t.c.a1 t.c.n1 t.c.c1) ∧ w'.cell? ⟨bt, ot + 1 + 2, none⟩ = some (.slice t.c.a2 t.c.n2 t.c.c2) ∧ w'.cell? ⟨B, 0, none⟩ = some (.slice xo po do_) ∧ w'.cell? ⟨B, 1, none⟩ = some (.bool ko.neg) ∧ w'.cell? ⟨B, 2, none⟩ = some (.slice ko.a1 ko.n1 ko.c1) ∧ w'.cell? ⟨B, 3, none⟩ = some (.slice ko.a2 ko.n2 ko.c2)) (by kernel_rfl) (by (try dsimp only); go_keep) (fun hHeld => ?_)
          refine wpT_take 0 (v := ?_) rfl (by kernel_rfl) (fun _ _ _ h => h) (by rfl) (by assumption) ?_ ?_
          rotate_left
          · (intro w9 hS9; (try dsimp only at hS9); go_simp; try with_reducible rfl)
          try simp only [Act.put, List.setIfInBounds_toArray, List.set_cons_zero, List.set_cons_succ]
          refine wpT_take 1 (v := ?_) rfl (by kernel_rfl) (fun _ _ _ h => h) (by rfl) (by assumption) ?_ ?_
          rotate_left
          · (intro w9 hS9; (try dsimp only at hS9); go_simp; try with_reducible rfl)
          try simp only [Act.put, List.setIfInBounds_toArray, List.set_cons_zero, List.set_cons_succ]
          refine wpT_take 2 (v := ?_) rfl (by kernel_rfl) (fun _ _ _ h => h) (by rfl) (by assumption) ?_ ?_
          rotate_left
          · (intro w9 hS9; (try dsimp only at hS9); go_simp; try with_reducible rfl)
          try simp only [Act.put, List.setIfInBounds_toArray, List.set_cons_zero, List.set_cons_succ]
          refine wpT_take 3 (v := ?_) rfl (by kernel_rfl) (fun _ _ _ h => h) (by rfl) (by assumption) ?_ ?_
          rotate_left
          · (intro w9 hS9; (try dsimp only at hS9); go_simp; try with_reducible rfl)
          try simp only [Act.put, List.setIfInBounds_toArray, List.set_cons_zero, List.set_cons_succ]
          refine wpT_take 4 (v := ?_) rfl (by kernel_rfl) (fun _ _ _ h => h) (by rfl) (by assumption) ?_ ?_
          rotate_left
          · (intro w9 hS9; (try dsimp only at hS9); go_simp; try with_reducible rfl)
          try simp only [Act.put, List.setIfInBounds_toArray, List.set_cons_zero, List.set_cons_succ]
          refine wpT_take 5 (v := ?_) rfl (by kernel_rfl) (fun _ _ _ h => h) (by rfl) (by assumption) ?_ ?_
          rotate_left
          · (intro w9 hS9; (try dsimp only at hS9); go_simp; try with_reducible rfl)
          try simp only [Act.put, List.setIfInBounds_toArray, List.set_cons_zero, List.set_cons_succ]
          refine wpT_take 6 (v := ?_) rfl (by kernel_rfl) (fun _ _ _ h => h) (by rfl) (by assumption) ?_ ?_
          rotate_left
          · (intro w9 hS9; (try dsimp only at hS9); go_simp; try with_reducible rfl)
          try simp only [Act.put, List.setIfInBounds_toArray, List.set_cons_zero, List.set_cons_succ]
          refine wpT_take 7 (v := ?_) rfl (by kernel_rfl) (fun _ _ _ h => h) (by rfl) (by assumption) ?_ ?_
          rotate_left
          · (intro w9 hS9; (try dsimp only at hS9); go_simp; try with_reducible rfl)
          try simp only [Act.put, List.setIfInBounds_toArray, List.set_cons_zero, List.set_cons_succ]
          refine wpT_take 8 (v := ?_) rfl (by kernel_rfl) (fun _ _ _ h => h) (by rfl) (by assumption) ?_ ?_
          rotate_left
          · (intro w9 hS9; (try dsimp only at hS9); go_simp; try with_reducible rfl)
          try simp only [Act.put, List.setIfInBounds_toArray, List.set_cons_zero, List.set_cons_succ]
          refine wpT_only 9 rfl (by kernel_rfl) (fun K hK => ?_)
          go_simp
          (go_at_call 92; refine (put_c _ wx.heap.size t.v (hMU.row.on hU0) (fun i y hy => (hMU.all i y hy).on hU0) (RatC.on (RD.ok_c gt (hO8 0 t rfl).1) hU0) (by have := (hO8 0 t rfl).2; omega) (by omega) (Nat.le_trans hMU.base_le (hU0).size)).mono ?_; rintro e w6 hp; obtain ⟨xo', po', do', us', rfl, HA, hpo, hB6, hc6, hM6⟩ := hMU.put hU0 hp (by have := (hO8 0 t rfl).2; omega); have y0 := hB6.cell 0; have y1 := hB6.cell 1; have y2 := hB6.cell 2; have y3 := hB6.cell 3; have y4 := hB6.frozen 0; have y5 := hB6.frozen 1; have y6 := hB6.frozen 2; have y7 := hB6.frozen 3; have y8 := hB6.lt; have yz := hM6.base_le; simp at y0 y1 y2 y3)
          go_wp2_with fail
          clear hHeld
          refine hK.out _ _ ?_ (fun hHeld => ?_)
          · (try dsimp only); go_keep
          clear hK K
          try simp only [Act.put, List.setIfInBounds_toArray, List.set_cons_zero, List.set_cons_succ]
          refine wpT_last 10 rfl rfl (by kernel_rfl) (fun K hK => ?_)
          go_simp
          refine hK.out _ _ ?_
          clear hK K
          try simp only [Act.put, List.setIfInBounds_toArray, List.set_cons_zero, List.set_cons_succ]
          refine wpT_done (by kernel_rfl) ?_ _
          all_goals
            go_wp2_with fail
            go_roundw
            case rel => exact ⟨_, p8 - 1, _, _, p9, d9, uf, (u :: ug), xo', po', do', us', ko, rfl, rfl, hTt, hT9, hO8.tail, hO9, hM6, hid_a HA HE (.inr ⟨u, ug, rfl, hv⟩), by omega⟩
            case measure => simp [lenOf]; omega
        · obtain ⟨bt, ot, rfl, ht, gt, t0, t1, t2, t3⟩ := (hT8.on hM.below).head
          have hTt := hT8.tail
          obtain ⟨bu, ou, rfl, hu, gu, u0, u1, u2, u3⟩ := (hT9.on hM.below).head
          have hTu := hT9.tail
          have pp8 : 0 < p8 := by have := hT8.len; simp at this; omega
          have i8 : decide ((0 : Int) < (p8 : Int)) = true := decide_eq_true (by omega)
          have j8 : decide (0 < p8) = true := decide_eq_true pp8
          have q8 : ((p8 : Int) == 0) = false := by simp; omega
          have pp9 : 0 < p9 := by have := hT9.len; simp at this; omega
          have i9 : decide ((0 : Int) < (p9 : Int)) = true := decide_eq_true (by omega)
          have j9 : decide (0 < p9) = true := decide_eq_true pp9
          have q9 : ((p9 : Int) == 0) = false := by simp; omega
          have d1 : decide (t.v < u.v) = false := decide_eq_false (by omega)
          have d2 : decide (u.v < t.v) = false := decide_eq_false (by omega)
          have HV := Lib.hid hv
          clear hv
          go_upto_region 6 with (fail)
          go_quiet (fail)
          have hbU1 := (Below.refl wr.heap.size wr).drewN nq
          generalize wr.drewN nq = U1 at *
          have hMU1 := hM.on hbU1
          clear t0 t1 t2 t3
          obtain ⟨bt9, ot9, et9, ht9, gt9, t0, t1, t2, t3⟩ := (hT8.on hMU1.below).head
          obtain ⟨rfl, rfl⟩ : bt = bt9 ∧ ot = ot9 := by simpa using et9
          clear et9 gt ht
          have gt := gt9
          have ht := ht9
          clear gt9 ht9
          clear u0 u1 u2 u3
          obtain ⟨bu9, ou9, eu9, hu9, gu9, u0, u1, u2, u3⟩ := (hT9.on hMU1.below).head
          obtain ⟨rfl, rfl⟩ : bu = bu9 ∧ ou = ou9 := by simpa using eu9
          clear eu9 gu hu
          have gu := gu9
          have hu := hu9
          clear gu9 hu9
          go_upto_region 9 with (fail)
          go_quiet (fail)
          have hbU := (Below.refl U1.heap.size U1).drewN nq
          generalize U1.drewN nq = U at *
          have hMU := hMU1.on hbU
          clear t0 t1 t2 t3
          obtain ⟨bt9, ot9, et9, ht9, gt9, t0, t1, t2, t3⟩ := (hT8.on hMU.below).head
          obtain ⟨rfl, rfl⟩ : bt = bt9 ∧ ot = ot9 := by simpa using et9
          clear et9 gt ht
          have gt := gt9
          have ht := ht9
          clear gt9 ht9
          clear u0 u1 u2 u3
          obtain ⟨bu9, ou9, eu9, hu9, gu9, u0, u1, u2, u3⟩ := (hT9.on hMU.below).head
          obtain ⟨rfl, rfl⟩ : bu = bu9 ∧ ou = ou9 := by simpa using eu9
          clear eu9 gu hu
          have gu := gu9
          have hu := hu9
          clear gu9 hu9
          go_upto_region 4 with (fail)
          have b0 := hMU.box.cell 0
          have b1 := hMU.box.cell 1
          have b2 := hMU.box.cell 2
          have b3 := hMU.box.cell 3
          have bz := hMU.box.lt
          simp at b0 b1 b2 b3
          have m0 := hMU.cbox.cell 0
          have m1 := hMU.cbox.cell 1
          have m2 := hMU.cbox.cell 2
          have mz := hMU.cbox.lt
          simp at m0 m1 m2
          have hU0 : Below U.heap.size U U.drew := Below.drew (Below.refl _ _)
          have nBc : B ≠ w.heap.size + 1 + 1 := by have := hM.B_ge; omega
          have nBc' : w.heap.size + 1 + 1 < wx.heap.size := by have := hM.B_ge; have := hM.B_lt; omega
          have nBt : B ≠ bt := by
            obtain ⟨b9, o9, e9, h9, _⟩ := hT8.head
            obtain ⟨rfl, rfl⟩ : bt = b9 ∧ ot = o9 := by simpa using e9
            have := hM.B_ge; omega
          have nBt' : bt < wx.heap.size := by
            obtain ⟨b9, o9, e9, h9, _⟩ := hT8.head
            obtain ⟨rfl, rfl⟩ : bt = b9 ∧ ot = o9 := by simpa using e9
            have := hM.B_ge; have := hM.B_lt; omega
          have nBu : B ≠ bu := by
            obtain ⟨b9, o9, e9, h9, _⟩ := hT9.head
            obtain ⟨rfl, rfl⟩ : bu = b9 ∧ ou = o9 := by simpa using e9
            have := hM.B_ge; omega
          have nBu' : bu < wx.heap.size := by
            obtain ⟨b9, o9, e9, h9, _⟩ := hT9.head
            obtain ⟨rfl, rfl⟩ : bu = b9 ∧ ou = o9 := by simpa using e9
            have := hM.B_ge; have := hM.B_lt; omega
          refine wp_region_T 17 (fun w' => w'.cell? ⟨bt, ot, none⟩ = some (.int .i64 t.v) ∧ w'.cell? ⟨bt, ot + 1, none⟩ = some (.bool t.c.neg) ∧ w'.cell? ⟨bt, ot + 1 + 1, none⟩ = some (.slice t.c.a1 t.c.n1 t.c.c1) ∧ w'.cell? ⟨bt, ot + 1 + 2, none⟩ = some (.slice t.c.a2 t.c.n2 t.c.c2) ∧ w'.cell? ⟨bu, ou, none⟩ = some (.int .i64 u.v) ∧ w'.cell? ⟨bu, ou + 1, none⟩ = some (.bool u.c.neg) ∧ w'.cell? ⟨bu, ou + 1 + 1, none⟩ = some (.slice u.c.a1 u.c.n1 u.c.c1) ∧ w'.cell? ⟨bu, ou + 1 + 2, none⟩ = some (.slice u.c.a2 u.c.n2 u.c.c2) ∧ w'.cell? ⟨w.heap.size + 1 + 1, 0, none⟩ = some (.bool s1) ∧ w'.cell? ⟨w.heap.size + 1 + 1, 1, none⟩ = some (.slice a1 n1 c1) ∧ w'.cell? ⟨w.heap.size + 1 + 1, 2, none⟩ = some (.slice a2 n2 c2) ∧ w'.cell? ⟨B, 0, none⟩ = some (.slice xo po do_) ∧ w'.cell? ⟨B, 1, none⟩ = some (.bool ko.neg) ∧ w'.cell? ⟨B, 2, none⟩ = some (.slice ko.a1 ko.n1 ko.c1) ∧ w'.cell? ⟨B, 3, none⟩ = some (.slice ko.a2 ko.n2 ko.c2)) (by kernel_rfl) (by (try dsimp only); go_keep) (fun hHeld => ?_)
          refine wpT_take 0 (v := ?_) rfl (by kernel_rfl) (fun _ _ _ h => h) (by rfl) (by assumption) ?_ ?_
          rotate_left
          · (intro w9 hS9; (try dsimp only at hS9); go_simp; try with_reducible rfl)
          try simp only [Act.put, List.setIfInBounds_toArray, List.set_cons_zero, List.set_cons_succ]
          refine wpT_take 1 (v := ?_) rfl (by kernel_rfl) (fun _ _ _ h => h) (by rfl) (by assumption) ?_ ?_
          rotate_left
          · (intro w9 hS9; (try dsimp only at hS9); go_simp; try with_reducible rfl)
          try simp only [Act.put, List.setIfInBounds_toArray, List.set_cons_zero, List.set_cons_succ]
          refine wpT_take 2 (v := ?_) rfl (by kernel_rfl) (fun _ _ _ h => h) (by rfl) (by assumption) ?_ ?_
          rotate_left
          · (intro w9 hS9; (try dsimp only at hS9); go_simp; try with_reducible rfl)
          try simp only [Act.put, List.setIfInBounds_toArray, List.set_cons_zero, List.set_cons_succ]
          refine wpT_take 3 (v := ?_) rfl (by kernel_rfl) (fun _ _ _ h => h) (by rfl) (by assumption) ?_ ?_
          rotate_left
          · (intro w9 hS9; (try dsimp only at hS9); go_simp; try with_reducible rfl)
          try simp only [Act.put, List.setIfInBounds_toArray, List.set_cons_zero, List.set_cons_succ]
          refine wpT_take 4 (v := ?_) rfl (by kernel_rfl) (fun _ _ _ h => h) (by rfl) (by assumption) ?_ ?_
          rotate_left
          · (intro w9 hS9; (try dsimp only at hS9); go_simp; try with_reducible rfl)
          try simp only [Act.put, List.setIfInBounds_toArray, List.set_cons_zero, List.set_cons_succ]
          refine wpT_take 5 (v := ?_) rfl (by kernel_rfl) (fun _ _ _ h => h) (by rfl) (by assumption) ?_ ?_
          rotate_left
          · (intro w9 hS9; (try dsimp only at hS9); go_simp; try with_reducible rfl)
          try simp only [Act.put, List.setIfInBounds_toArray, List.set_cons_zero, List.set_cons_succ]
          refine wpT_take 6 (v := ?_) rfl (by kernel_rfl) (fun _ _ _ h => h) (by rfl) (by assumption) ?_ ?_
          rotate_left
          · (intro w9 hS9; (try dsimp only at hS9); go_simp; try with_reducible rfl)
          try simp only [Act.put, List.setIfInBounds_toArray, List.set_cons_zero, List.set_cons_succ]
          refine wpT_take 7 (v := ?_) rfl (by kernel_rfl) (fun _ _ _ h => h) (by rfl) (by assumption) ?_ ?_
          rotate_left
          · (intro w9 hS9; (try dsimp only at hS9); go_simp; try with_reducible rfl)
          try simp only [Act.put, List.setIfInBounds_toArray, List.set_cons_zero, List.set_cons_succ]
          refine wpT_take 8 (v := ?_) rfl (by kernel_rfl) (fun _ _ _ h => h) (by rfl) (by assumption) ?_ ?_
          rotate_left
          · (intro w9 hS9; (try dsimp only at hS9); go_simp; try with_reducible rfl)
          try simp only [Act.put, List.setIfInBounds_toArray, List.set_cons_zero, List.set_cons_succ]
          refine wpT_take 9 (v := ?_) rfl (by kernel_rfl) (fun _ _ _ h => h) (by rfl) (by assumption) ?_ ?_
          rotate_left
          · (intro w9 hS9; (try dsimp only at hS9); go_simp; try with_reducible rfl)
          try simp only [Act.put, List.setIfInBounds_toArray, List.set_cons_zero, List.set_cons_succ]
          refine wpT_take 10 (v := ?_) rfl (by kernel_rfl) (fun _ _ _ h => h) (by rfl) (by assumption) ?_ ?_
          rotate_left
          · (intro w9 hS9; (try dsimp only at hS9); go_simp; try with_reducible rfl)
          try simp only [Act.put, List.setIfInBounds_toArray, List.set_cons_zero, List.set_cons_succ]
          refine wpT_take 11 (v := ?_) rfl (by kernel_rfl) (fun _ _ _ h => h) (by rfl) (by assumption) ?_ ?_
          rotate_left
          · (intro w9 hS9; (try dsimp only at hS9); go_simp; try with_reducible rfl)
          try simp only [Act.put, List.setIfInBounds_toArray, List.set_cons_zero, List.set_cons_succ]
          refine wpT_take 12 (v := ?_) rfl (by kernel_rfl) (fun _ _ _ h => h) (by rfl) (by assumption) ?_ ?_
          rotate_left
          · (intro w9 hS9; (try dsimp only at hS9); go_simp; try with_reducible rfl)
          try simp only [Act.put, List.setIfInBounds_toArray, List.set_cons_zero, List.set_cons_succ]
          refine wpT_take 13 (v := ?_) rfl (by kernel_rfl) (fun _ _ _ h => h) (by rfl) (by assumption) ?_ ?_
          rotate_left
          · (intro w9 hS9; (try dsimp only at hS9); go_simp; try with_reducible rfl)
          try simp only [Act.put, List.setIfInBounds_toArray, List.set_cons_zero, List.set_cons_succ]
          refine wpT_only 14 rfl (by kernel_rfl) (fun K hK => ?_)
          go_simp
          (go_at_call 82; refine (rmul_c _ (RatC.on (RD.ok_c gu (hO9 0 u rfl).1) hU0) ((hq.on hMU.below).on hU0) (by have := (hO9 0 u rfl).2; omega) (by omega)).mono ?_; rintro e w5 ⟨s5, a5, n5, c5, a6, n6, c6, rfl, g5, hb5'⟩; have hb5 : Below U.heap.size U w5 := hU0.trans hb5'; obtain ⟨hc5, hf5⟩ := bcell hb5)
          go_wp2_with fail
          clear hHeld
          refine hK.out _ _ ?_ (fun hHeld => ?_)
          · (try dsimp only); go_keep
          clear hK K
          try simp only [Act.put, List.setIfInBounds_toArray, List.set_cons_zero, List.set_cons_succ]
          refine wpT_only 15 rfl (by kernel_rfl) (fun K hK => ?_)
          go_simp
          (go_at_call 81; refine (radd_c _ (RatC.on (RD.ok_c gt (hO8 0 t rfl).1) hb5) g5 (by have := (hO8 0 t rfl).2; omega) (by have := H_mul u.c.q q; have := (hO9 0 u rfl).2; omega)).mono ?_; rintro e w7 ⟨s7, a7, n7, c7, a8, n10, c10, rfl, g7, hb7'⟩; have hb7 : Below U.heap.size U w7 := hb5.trans (hb7'.mono hb5.size); obtain ⟨hc7, hf7⟩ := bcell hb7)
          go_wp2_with fail
          clear hHeld
          refine hK.out _ _ ?_ (fun hHeld => ?_)
          · (try dsimp only); go_keep
          clear hK K
          try simp only [Act.put, List.setIfInBounds_toArray, List.set_cons_zero, List.set_cons_succ]
          refine wpT_only 16 rfl (by kernel_rfl) (fun K hK => ?_)
          go_simp
          (go_at_call 92; refine (put_c _ wx.heap.size t.v (hMU.row.on hb7) (fun i y hy => (hMU.all i y hy).on hb7) g7 (by have := H_mul u.c.q q; have := H_add t.c.q (u.c.q * q); have := (hO9 0 u rfl).2; have := (hO8 0 t rfl).2; omega) (by omega) (Nat.le_trans hMU.base_le (hb7).size)).mono ?_; rintro e w6 hp; obtain ⟨xo', po', do', us', rfl, HA, hpo, hB6, hc6, hM6⟩ := hMU.put hb7 hp (by have := H_mul u.c.q q; have := H_add t.c.q (u.c.q * q); have := (hO9 0 u rfl).2; have := (hO8 0 t rfl).2; omega); have y0 := hB6.cell 0; have y1 := hB6.cell 1; have y2 := hB6.cell 2; have y3 := hB6.cell 3; have y4 := hB6.frozen 0; have y5 := hB6.frozen 1; have y6 := hB6.frozen 2; have y7 := hB6.frozen 3; have y8 := hB6.lt; have yz := hM6.base_le; simp at y0 y1 y2 y3)
          go_wp2_with fail
          clear hHeld
          refine hK.out _ _ ?_ (fun hHeld => ?_)
          · (try dsimp only); go_keep
          clear hK K
          try simp only [Act.put, List.setIfInBounds_toArray, List.set_cons_zero, List.set_cons_succ]
          refine wpT_last 17 rfl rfl (by kernel_rfl) (fun K hK => ?_)
          go_simp
          refine hK.out _ _ ?_
          clear hK K
          try simp only [Act.put, List.setIfInBounds_toArray, List.set_cons_zero, List.set_cons_succ]
          refine wpT_done (by kernel_rfl) ?_ _
          all_goals
            go_wp2_with fail
            go_quiet (fail)
            go_wp2_with fail
            have hM6 := hM6.on ((Below.refl _ _).drewN nq)
            go_roundw
            case rel => exact ⟨_, p8 - 1, _, _, p9 - 1, _, uf, ug, xo', po', do', us', ko, rfl, rfl, hTt, hTu, hO8.tail, hO9.tail, hM6, hid_ab HA HE HV.out, by omega⟩
            case measure => simp [lenOf]; omega
        · obtain ⟨bt, ot, rfl, ht, gt, t0, t1, t2, t3⟩ := (hT8.on hM.below).head
          obtain ⟨bu, ou, rfl, hu, gu, u0, u1, u2, u3⟩ := (hT9.on hM.below).head
          have hTu := hT9.tail
          have pp8 : 0 < p8 := by have := hT8.len; simp at this; omega
          have i8 : decide ((0 : Int) < (p8 : Int)) = true := decide_eq_true (by omega)
          have j8 : decide (0 < p8) = true := decide_eq_true pp8
          have q8 : ((p8 : Int) == 0) = false := by simp; omega
          have pp9 : 0 < p9 := by have := hT9.len; simp at this; omega
          have i9 : decide ((0 : Int) < (p9 : Int)) = true := decide_eq_true (by omega)
          have j9 : decide (0 < p9) = true := decide_eq_true pp9
          have q9 : ((p9 : Int) == 0) = false := by simp; omega
          have d1 : decide (t.v < u.v) = false := decide_eq_false (by omega)
          have d2 : decide (u.v < t.v) = true := decide_eq_true hv
          go_upto_region 6 with (fail)
          go_quiet (fail)
          have hbU1 := (Below.refl wr.heap.size wr).drewN nq
          generalize wr.drewN nq = U1 at *
          have hMU1 := hM.on hbU1
          clear t0 t1 t2 t3
          obtain ⟨bt9, ot9, et9, ht9, gt9, t0, t1, t2, t3⟩ := (hT8.on hMU1.below).head
          obtain ⟨rfl, rfl⟩ : bt = bt9 ∧ ot = ot9 := by simpa using et9
          clear et9 gt ht
          have gt := gt9
          have ht := ht9
          clear gt9 ht9
          clear u0 u1 u2 u3
          obtain ⟨bu9, ou9, eu9, hu9, gu9, u0, u1, u2, u3⟩ := (hT9.on hMU1.below).head
          obtain ⟨rfl, rfl⟩ : bu = bu9 ∧ ou = ou9 := by simpa using eu9
          clear eu9 gu hu
          have gu := gu9
          have hu := hu9
          clear gu9 hu9
          go_upto_region 9 with (fail)
          go_quiet (fail)
          have hbU := (Below.refl U1.heap.size U1).drewN nq
          generalize U1.drewN nq = U at *
          have hMU := hMU1.on hbU
          clear t0 t1 t2 t3
          obtain ⟨bt9, ot9, et9, ht9, gt9, t0, t1, t2, t3⟩ := (hT8.on hMU.below).head
          obtain ⟨rfl, rfl⟩ : bt = bt9 ∧ ot = ot9 := by simpa using et9
          clear et9 gt ht
          have gt := gt9
          have ht := ht9
          clear gt9 ht9
          clear u0 u1 u2 u3
          obtain ⟨bu9, ou9, eu9, hu9, gu9, u0, u1, u2, u3⟩ := (hT9.on hMU.below).head
          obtain ⟨rfl, rfl⟩ : bu = bu9 ∧ ou = ou9 := by simpa using eu9
          clear eu9 gu hu
          have gu := gu9
          have hu := hu9
          clear gu9 hu9
          go_upto_region 10 with (fail)
          have b0 := hMU.box.cell 0
          have b1 := hMU.box.cell 1
          have b2 := hMU.box.cell 2
          have b3 := hMU.box.cell 3
          have bz := hMU.box.lt
          simp at b0 b1 b2 b3
          have m0 := hMU.cbox.cell 0
          have m1 := hMU.cbox.cell 1
          have m2 := hMU.cbox.cell 2
          have mz := hMU.cbox.lt
          simp at m0 m1 m2
          have hU0 : Below U.heap.size U U.drew := Below.drew (Below.refl _ _)
          have nBc : B ≠ w.heap.size + 1 + 1 := by have := hM.B_ge; omega
          have nBc' : w.heap.size + 1 + 1 < wx.heap.size := by have := hM.B_ge; have := hM.B_lt; omega
          have nBt : B ≠ bt := by
            obtain ⟨b9, o9, e9, h9, _⟩ := hT8.head
            obtain ⟨rfl, rfl⟩ : bt = b9 ∧ ot = o9 := by simpa using e9
            have := hM.B_ge; omega
          have nBt' : bt < wx.heap.size := by
            obtain ⟨b9, o9, e9, h9, _⟩ := hT8.head
            obtain ⟨rfl, rfl⟩ : bt = b9 ∧ ot = o9 := by simpa using e9
            have := hM.B_ge; have := hM.B_lt; omega
          have nBu : B ≠ bu := by
            obtain ⟨b9, o9, e9, h9, _⟩ := hT9.head
            obtain ⟨rfl, rfl⟩ : bu = b9 ∧ ou = o9 := by simpa using e9
            have := hM.B_ge; omega
          have nBu' : bu < wx.heap.size := by
            obtain ⟨b9, o9, e9, h9, _⟩ := hT9.head
            obtain ⟨rfl, rfl⟩ : bu = b9 ∧ ou = o9 := by simpa using e9
            have := hM.B_ge; have := hM.B_lt; omega
          refine wp_region_T 12 (fun w' => w'.cell? ⟨bu, ou, none⟩ = some (.int .i64 u.v) ∧ w'.cell? ⟨bu, ou + 1, none⟩ = some (.bool u.c.neg) ∧ w'.cell? ⟨bu, ou + 1 + 1, none⟩ = some (.slice u.c.a1 u.c.n1 u.c.c1) ∧ w'.cell? ⟨bu, ou + 1 + 2, none⟩ = some (.slice u.c.a2 u.c.n2 u.c.c2) ∧ w'.cell? ⟨w.heap.size + 1 + 1, 0, none⟩ = some (.bool s1) ∧ w'.cell? ⟨w.heap.size + 1 + 1, 1, none⟩ = some (.slice a1 n1 c1) ∧ w'.cell? ⟨w.heap.size + 1 + 1, 2, none⟩ = some (.slice a2 n2 c2) ∧ w'.cell? ⟨B, 0, none⟩ = some (.slice xo po do_) ∧ w'.cell? ⟨B, 1, none⟩ = some (.bool ko.neg) ∧ w'.cell? ⟨B, 2, none⟩ = some (.slice ko.a1 ko.n1 ko.c1) ∧ w'.cell? ⟨B, 3, none⟩ = some (.slice ko.a2 ko.n2 ko.c2)) (by kernel_rfl) (by (try dsimp only); go_keep) (fun hHeld => ?_)
          refine wpT_take 0 (v := ?_) rfl (by kernel_rfl) (fun _ _ _ h => h) (by rfl) (by assumption) ?_ ?_
          rotate_left
          · (intro w9 hS9; (try dsimp only at hS9); go_simp; try with_reducible rfl)
          try simp only [Act.put, List.setIfInBounds_toArray, List.set_cons_zero, List.set_cons_succ]
          refine wpT_take 1 (v := ?_) rfl (by kernel_rfl) (fun _ _ _ h => h) (by rfl) (by assumption) ?_ ?_
          rotate_left
          · (intro w9 hS9; (try dsimp only at hS9); go_simp; try with_reducible rfl)
          try simp only [Act.put, List.setIfInBounds_toArray, List.set_cons_zero, List.set_cons_succ]
          refine wpT_take 2 (v := ?_) rfl (by kernel_rfl) (fun _ _ _ h => h) (by rfl) (by assumption) ?_ ?_
          rotate_left
          · (intro w9 hS9; (try dsimp only at hS9); go_simp; try with_reducible rfl)
          try simp only [Act.put, List.setIfInBounds_toArray, List.set_cons_zero, List.set_cons_succ]
          refine wpT_take 3 (v := ?_) rfl (by kernel_rfl) (fun _ _ _ h => h) (by rfl) (by assumption) ?_ ?_
          rotate_left
          · (intro w9 hS9; (try dsimp only at hS9); go_simp; try with_reducible rfl)
          try simp only [Act.put, List.setIfInBounds_toArray, List.set_cons_zero, List.set_cons_succ]
          refine wpT_take 4 (v := ?_) rfl (by kernel_rfl) (fun _ _ _ h => h) (by rfl) (by assumption) ?_ ?_
          rotate_left
          · (intro w9 hS9; (try dsimp only at hS9); go_simp; try with_reducible rfl)
          try simp only [Act.put, List.setIfInBounds_toArray, List.set_cons_zero, List.set_cons_succ]
          refine wpT_take 5 (v := ?_) rfl (by kernel_rfl) (fun _ _ _ h => h) (by rfl) (by assumption) ?_ ?_
          rotate_left
          · (intro w9 hS9; (try dsimp only at hS9); go_simp; try with_reducible rfl)
          try simp only [Act.put, List.setIfInBounds_toArray, List.set_cons_zero, List.set_cons_succ]
          refine wpT_take 6 (v := ?_) rfl (by kernel_rfl) (fun _ _ _ h => h) (by rfl) (by assumption) ?_ ?_
          rotate_left
          · (intro w9 hS9; (try dsimp only at hS9); go_simp; try with_reducible rfl)
          try simp only [Act.put, List.setIfInBounds_toArray, List.set_cons_zero, List.set_cons_succ]
          refine wpT_take 7 (v := ?_) rfl (by kernel_rfl) (fun _ _ _ h => h) (by rfl) (by assumption) ?_ ?_
          rotate_left
          · (intro w9 hS9; (try dsimp only at hS9); go_simp; try with_reducible rfl)
          try simp only [Act.put, List.setIfInBounds_toArray, List.set_cons_zero, List.set_cons_succ]
          refine wpT_take 8 (v := ?_) rfl (by kernel_rfl) (fun _ _ _ h => h) (by rfl) (by assumption) ?_ ?_
          rotate_left
          · (intro w9 hS9; (try dsimp only at hS9); go_simp; try with_reducible rfl)
          try simp only [Act.put, List.setIfInBounds_toArray, List.set_cons_zero, List.set_cons_succ]
          refine wpT_take 9 (v := ?_) rfl (by kernel_rfl) (fun _ _ _ h => h) (by rfl) (by assumption) ?_ ?_
          rotate_left
          · (intro w9 hS9; (try dsimp only at hS9); go_simp; try with_reducible rfl)
          try simp only [Act.put, List.setIfInBounds_toArray, List.set_cons_zero, List.set_cons_succ]
          refine wpT_only 10 rfl (by kernel_rfl) (fun K hK => ?_)
          go_simp
          (go_at_call 82; refine (rmul_c _ (RatC.on (RD.ok_c gu (hO9 0 u rfl).1) hU0) ((hq.on hMU.below).on hU0) (by have := (hO9 0 u rfl).2; omega) (by omega)).mono ?_; rintro e w5 ⟨s5, a5, n5, c5, a6, n6, c6, rfl, g5, hb5'⟩; have hb5 : Below U.heap.size U w5 := hU0.trans hb5'; obtain ⟨hc5, hf5⟩ := bcell hb5)
          go_wp2_with fail
          clear hHeld
          refine hK.out _ _ ?_ (fun hHeld => ?_)
          · (try dsimp only); go_keep
          clear hK K
          try simp only [Act.put, List.setIfInBounds_toArray, List.set_cons_zero, List.set_cons_succ]
          refine wpT_only 11 rfl (by kernel_rfl) (fun K hK => ?_)
          go_simp
          (go_at_call 92; refine (put_c _ wx.heap.size u.v (hMU.row.on hb5) (fun i y hy => (hMU.all i y hy).on hb5) g5 (by have := H_mul u.c.q q; have := (hO9 0 u rfl).2; omega) (by omega) (Nat.le_trans hMU.base_le (hb5).size)).mono ?_; rintro e w6 hp; obtain ⟨xo', po', do', us', rfl, HA, hpo, hB6, hc6, hM6⟩ := hMU.put hb5 hp (by have := H_mul u.c.q q; have := (hO9 0 u rfl).2; omega); have y0 := hB6.cell 0; have y1 := hB6.cell 1; have y2 := hB6.cell 2; have y3 := hB6.cell 3; have y4 := hB6.frozen 0; have y5 := hB6.frozen 1; have y6 := hB6.frozen 2; have y7 := hB6.frozen 3; have y8 := hB6.lt; have yz := hM6.base_le; simp at y0 y1 y2 y3)
          go_wp2_with fail
          clear hHeld
          refine hK.out _ _ ?_ (fun hHeld => ?_)
          · (try dsimp only); go_keep
          clear hK K
          try simp only [Act.put, List.setIfInBounds_toArray, List.set_cons_zero, List.set_cons_succ]
          refine wpT_last 12 rfl rfl (by kernel_rfl) (fun K hK => ?_)
          go_simp
          refine hK.out _ _ ?_
          clear hK K
          try simp only [Act.put, List.setIfInBounds_toArray, List.set_cons_zero, List.set_cons_succ]
          refine wpT_done (by kernel_rfl) ?_ _
          all_goals
            go_wp2_with fail
            go_roundw
            case rel => exact ⟨_, p8, d8, _, p9 - 1, _, (t :: uf), ug, xo', po', do', us', ko, rfl, rfl, hT8, hTu, hO8, hO9.tail, hM6, hid_b HA HE (.inr ⟨t, uf, rfl, hv⟩), by omega⟩
            case measure => simp [lenOf]; omega
end Go.Proofs.YtledagemcknlcaaGreat
