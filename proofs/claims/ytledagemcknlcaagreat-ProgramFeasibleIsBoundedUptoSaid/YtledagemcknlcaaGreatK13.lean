/- relucertref07.nonzero: what the call returns. relucertref07.plus: what the call returns. relucertref07.Scale: what the call returns. A region that draws its order: one goal for each operation, whatever the order. What an operation yields is told by a condition that all later worlds keep. what the operations of a drawn region yield: numbers, forms, boxes. append of a whole slice, empty or not. -/
import Derived.Test.YtledagemcknlcaaGreatK0
import Derived.Test.YtledagemcknlcaaGreatK9
import Derived.Test.YtledagemcknlcaaGreatK6
set_option linter.all false
namespace Go.Proofs.YtledagemcknlcaaGreat
open Go.RowKit

/-- The call returns the terms with one more, unless that is 0. -/
def NzPost (base : Nat) (ad : Option Addr) (n c : Nat) (ts : List TD) (v : Int) (q : Rat) (w : World) (e : Ending) (w' : World) : Prop :=
  ∃ ad' n' c' ts', e = .returned (.slice ad' n' c') ∧ Row NotU w' base 52 4 (.slice ad' n' c') n' (tcells ts') ∧ AllIn w' ts' ∧ Added ts ts' v q ∧ w.grownBy w' (Value.slice ad n c).ownBlock ∧ n' ≤ n + 1
set_option maxRecDepth 100000 in
set_option maxHeartbeats 3200000 in
theorem nonzero_c (w : World) (base : Nat) {ad : Option Addr} {n c : Nat} {ts : List TD} (v : Int) {s1 : Bool} {a1 a2 : Option Addr} {n1 n2 c1 c2 : Nat} {q : Rat} (hr : Row NotU w base 52 4 (.slice ad n c) n (tcells ts)) (ha : AllIn w ts) (hq : RatC w s1 a1 n1 c1 a2 n2 c2 q) (hH : H q ≤ 274877906944) (hn : n ≤ 1073741824) (hbase : base ≤ w.heap.size) :
    Calls Tryz.prog 67 #[.slice ad n c, .agg #[.int .i64 v, .bool s1, .slice a1 n1 c1, .slice a2 n2 c2]] w (NzPost base ad n c ts v q w) := by
  have hP := Pro1.mk' w #[.int .i64 v, .bool s1, .slice a1 n1 c1, .slice a2 n2 c2] 52
  go_enter Tryz.func67, Tryz.ntmps67
  go_upto_region 1 with (fail)
  generalize w.alloc (.cells #[.int .i64 v, .bool s1, .slice a1 n1 c1, .slice a2 n2 c2] 52) = W at *
  have hA := hP.b0
  have hPb := hP.below
  have qW := hq.on hPb
  have HPS := Lib.hid hP.size
  have y0 := hA.cell 0
  have y1 := hA.cell 1
  have y2 := hA.cell 2
  have y3 := hA.cell 3
  simp at y0 y1 y2 y3
  clear hP
  go_wp2_with fail
  refine (fsign_c W qW hH).mono ?_
  rintro e w5 ⟨rfl, hb5⟩
  have hA5 := hA.on hb5
  have y0 := hA5.cell 0
  have y1 := hA5.cell 1
  have y2 := hA5.cell 2
  have y3 := hA5.cell 3
  have yz := hA5.lt
  simp at y0 y1 y2 y3
  have hw5 : Below w.heap.size w w5 := hPb.trans (hb5.mono (by have := HPS.out; omega))
  by_cases h0 : q = 0
  · have es : (sgR q == 0) = true := by rw [h0]; rfl
    have HE : Hid (NzPost base ad n c ts v q w (.returned (.slice ad n c)) w5) := ⟨_, _, _, ts, rfl, hr.on hw5, fun i t ht => (ha i t ht).on hw5, .inl ⟨h0, rfl⟩, below_grown hw5 _, by omega⟩
    clear h0
    generalize sgR q = sg at *
    go_wp2_with fail
    go_ret
    exact HE.out
  · have es : (sgR q == 0) = false := by simp; exact fun h9 => h0 (sgR_eq_zero.1 h9)
    have H0 := Lib.hid h0
    clear h0
    generalize sgR q = sg at *
    obtain ⟨i0, hi0, hz0, hz1, hz2⟩ := info_parts Tryz.infoTerm
    have HI := Lib.hid (And.intro hi0 (And.intro hz0 (And.intro hz1 hz2)))
    clear hi0 hz0 hz1 hz2
    have hal : Below w5.heap.size w5 (w5.alloc (.cells #[.int .i64 v, .bool s1, .slice a1 n1 c1, .slice a2 n2 c2] 52)) := (Below.refl _ _).alloc (Nat.le_refl _) _
    have hr5 := (hr.on hw5).on hal
    have hb0 : base ≤ (w5.alloc (.cells #[.int .i64 v, .bool s1, .slice a1 n1 c1, .slice a2 n2 c2] 52)).heap.size := by have := hw5.size; simp; omega
    go_wp2_with (at_builtin; refine wpList_row _ rfl (.tmp 10) (.tmp 12) _ rfl base 52 i0 (.agg #[.int .i64 0, .bool false, .slice none 0 0, .slice none 0 0]) 4 64 Tryz.underlying23 HI.out.1 HI.out.2.1 HI.out.2.2.1 HI.out.2.2.2 rfl (by omega) (.slice ad n c) n (tcells ts) rfl hr5 ⟨w5.heap.size, 0, none⟩ 1 1 [.int .i64 v, .bool s1, .slice a1 n1 c1, .slice a2 n2 c2] rfl rfl (term_news _ _ _ _ _ _) (term_one _ _ _ _ _ _ _ _) (by simp only [maxLen]; omega) (by omega) hb0 (by omega) term_zero (term_notU _ _ _ _ _ _ _ _) ?_; intro v7 w9 hr7 hg7 ho7; obtain ⟨ad7, c7, rfl⟩ := hr7.shape)
    go_ret
    have g7 := (((qW.on hb5).on hal).row hr5 hg7).rd
    have hgg := grown_trans (grown_trans (below_grown hw5 (Value.slice ad n c).ownBlock) (below_grown hal _)) hg7
    exact ⟨_, _, _, ts ++ [⟨v, rdOf s1 a1 n1 c1 a2 n2 c2 q⟩], rfl, by rw [tcells_append]; exact hr7,
      AllIn.snoc (fun i t ht => (((ha i t ht).on hw5).on hal).row hr5 hg7) g7.1, .inr ⟨H0.out, _, rfl, g7.2.1, g7.2.2⟩, hgg, by omega⟩
end Go.Proofs.YtledagemcknlcaaGreat
namespace Go.Proofs.YtledagemcknlcaaGreat
open Go.RowKit

/-- a term more in a list of terms, in its place -/
def plusV : Bool → List (Int × Rat) → Int → Rat → List (Int × Rat)
  | d, [], v, c => if d then [] else put1 v c
  | d, t :: F, v, c => if t.1 = v then put1 t.1 (t.2 + c) ++ plusV true F v c else if d = false ∧ v < t.1 then put1 v c ++ (put1 t.1 t.2 ++ plusV true F v c) else put1 t.1 t.2 ++ plusV d F v c
theorem plusV_eq {d : Bool} {t : Int × Rat} {F : List (Int × Rat)} {v : Int} {c : Rat} (h : t.1 = v) : plusV d (t :: F) v c = put1 t.1 (t.2 + c) ++ plusV true F v c := by rw [plusV, if_pos h]
theorem plusV_gt {t : Int × Rat} {F : List (Int × Rat)} {v : Int} {c : Rat} (h : v < t.1) : plusV false (t :: F) v c = put1 v c ++ (put1 t.1 t.2 ++ plusV true F v c) := by rw [plusV, if_neg (by omega), if_pos ⟨rfl, h⟩]
theorem plusV_lt {d : Bool} {t : Int × Rat} {F : List (Int × Rat)} {v : Int} {c : Rat} (h : t.1 ≠ v) (h2 : d = true ∨ t.1 < v) : plusV d (t :: F) v c = put1 t.1 t.2 ++ plusV d F v c := by
  rw [plusV, if_neg h, if_neg (fun h9 => by rcases h2 with h2 | h2; rw [h2] at h9; exact absurd h9.1 (by simp); omega)]
/-- terms under way -/
structure TOut (W wr : World) (m : Nat) (ado : Option Addr) (no co : Nat) (ts : List TD) : Prop where
  row : Row NotU wr W.heap.size 52 4 (.slice ado no co) no (tcells ts)
  all : AllIn wr ts
  ok : OkT m ts
  below : Below W.heap.size W wr
theorem TOut.on {W wr w' : World} {m : Nat} {ado : Option Addr} {no co : Nat} {ts : List TD} (h : TOut W wr m ado no co ts) (hb : Below wr.heap.size wr w') : TOut W w' m ado no co ts :=
  ⟨h.row.on hb, fun i t ht => (h.all i t ht).on hb, h.ok, h.below.trans (hb.mono h.below.size)⟩
theorem TOut.nz {W wr w5 w6 : World} {m : Nat} {ado : Option Addr} {no co : Nat} {ts : List TD} {v : Int} {qv : Rat} {e : Ending} (h : TOut W wr m ado no co ts) (hb : Below wr.heap.size wr w5) (hp : NzPost W.heap.size ado no co ts v qv w5 e w6) (hH : H qv ≤ m) :
    ∃ ado' no' co' ts', e = .returned (.slice ado' no' co') ∧ Hid (Added ts ts' v qv) ∧ no' ≤ no + 1 ∧ TOut W w6 m ado' no' co' ts' ∧ w5.grownBy w6 (Value.slice ado no co).ownBlock := by
  obtain ⟨ado', no', co', ts', rfl, hrow, hall, hadd, hg, hno⟩ := hp
  have h5 := h.on hb
  exact ⟨ado', no', co', ts', rfl, hadd, hno, ⟨hrow, hall, h.ok.added hadd hH, h5.below.trans ((h5.row.below hg h5.below.size))⟩, hg⟩
theorem TOut.box {W w5 w6 : World} {m B : Nat} {ado : Option Addr} {no co : Nat} {ts : List TD} {t : TypeId} {cs : Array Value} (h : TOut W w5 m ado no co ts) (hg : w5.grownBy w6 (Value.slice ado no co).ownBlock) (hB : Blk w5 B t cs) (hne : (Value.slice ado no co).ownBlock ≠ some B) : Blk w6 B t cs :=
  hB.grown hg (fun h9 => hne h9.symm)
/-- a number stored into a term's box -/
theorem TOut.set3 {W w5 : World} {m B : Nat} {ado : Option Addr} {no co : Nat} {ts : List TD} {v : Int} {x : Bool} {a' a'' : Option Addr} {m' k' m'' k'' : Nat} (h : TOut W w5 m ado no co ts) (hB : Blk w5 B 52 #[.int .i64 v, .bool x, .slice a' m' k', .slice a'' m'' k'']) (hne : (Value.slice ado no co).ownBlock ≠ some B) (hge : W.heap.size ≤ B)
    {s5 : Bool} {a5 a6 : Option Addr} {n5 c5 n6 c6 : Nat} {q : Rat} (g : RatC w5 s5 a5 n5 c5 a6 n6 c6 q) :
    TOut W (((w5.setCell ⟨B, 1, none⟩ (.bool s5)).setCell ⟨B, 2, none⟩ (.slice a5 n5 c5)).setCell ⟨B, 3, none⟩ (.slice a6 n6 c6)) m ado no co ts ∧
    RatC (((w5.setCell ⟨B, 1, none⟩ (.bool s5)).setCell ⟨B, 2, none⟩ (.slice a5 n5 c5)).setCell ⟨B, 3, none⟩ (.slice a6 n6 c6)) s5 a5 n5 c5 a6 n6 c6 q ∧
    Blk (((w5.setCell ⟨B, 1, none⟩ (.bool s5)).setCell ⟨B, 2, none⟩ (.slice a5 n5 c5)).setCell ⟨B, 3, none⟩ (.slice a6 n6 c6)) B 52 #[.int .i64 v, .bool s5, .slice a5 n5 c5, .slice a6 n6 c6] := by
  have e1 : Blk (w5.setCell ⟨B, 1, none⟩ (.bool s5)) B 52 #[.int .i64 v, .bool s5, .slice a' m' k', .slice a'' m'' k''] := by simpa using hB.set_ 1 (.bool s5)
  have e2 : Blk ((w5.setCell ⟨B, 1, none⟩ (.bool s5)).setCell ⟨B, 2, none⟩ (.slice a5 n5 c5)) B 52 #[.int .i64 v, .bool s5, .slice a5 n5 c5, .slice a'' m'' k''] := by simpa using e1.set_ 2 (.slice a5 n5 c5)
  have e3 : Blk (((w5.setCell ⟨B, 1, none⟩ (.bool s5)).setCell ⟨B, 2, none⟩ (.slice a5 n5 c5)).setCell ⟨B, 3, none⟩ (.slice a6 n6 c6)) B 52 #[.int .i64 v, .bool s5, .slice a5 n5 c5, .slice a6 n6 c6] := by simpa using e2.set_ 3 (.slice a6 n6 c6)
  exact ⟨⟨((h.row.setc hne 1 _).setc hne 2 _).setc hne 3 _, fun i t ht => (((h.all i t ht).setB hB notUT 1 _).setB e1 notUT 2 _).setB e2 notUT 3 _, h.ok,
    ((h.below.setCell (p := ⟨B, 1, none⟩) hge _).setCell (p := ⟨B, 2, none⟩) hge _).setCell (p := ⟨B, 3, none⟩) hge _⟩, ((RatC.setB g hB notUT 1 _).setB e1 notUT 2 _).setB e2 notUT 3 _, e3⟩
theorem OkT.mono {m M : Nat} {ts : List TD} (h : OkT m ts) (hm : m ≤ M) : OkT M ts := fun i t ht => ⟨(h i t ht).1, Nat.le_trans (h i t ht).2 hm⟩
theorem drop_fm {ts : List TD} {i : Nat} {t : TD} (h : ts[i]? = some t) : fm (ts.drop i) = (t.v, t.c.q) :: fm (ts.drop (i + 1)) := by
  obtain ⟨hi, rfl⟩ := List.getElem?_eq_some_iff.1 h
  rw [List.drop_eq_getElem_cons hi]
  rfl
theorem plus_a {us us' ts : List TD} {i : Nat} {t : TD} {d : Bool} {v : Int} {q : Rat} {R : List (Int × Rat)} (ht : ts[i]? = some t) (h : Hid (Added us us' t.v (t.c.q + q))) (he : Hid (fm us ++ plusV d (fm (ts.drop i)) v q = R)) (hc : t.v = v) : fm us' ++ plusV true (fm (ts.drop (i + 1))) v q = R := by
  rw [fm_added h.out, List.append_assoc, ← he.out, drop_fm ht, plusV_eq (by exact hc)]
theorem plus_b {us us' ts : List TD} {i : Nat} {t : TD} {d : Bool} {v : Int} {q : Rat} {R : List (Int × Rat)} (ht : ts[i]? = some t) (h : Hid (Added us us' t.v t.c.q)) (he : Hid (fm us ++ plusV d (fm (ts.drop i)) v q = R)) (hc : t.v ≠ v) (h2 : d = true ∨ t.v < v) : fm us' ++ plusV d (fm (ts.drop (i + 1))) v q = R := by
  rw [fm_added h.out, List.append_assoc, ← he.out, drop_fm ht, plusV_lt (by exact hc) (by exact h2)]
theorem plus_c2 {us us' us2 ts : List TD} {i : Nat} {t : TD} {v : Int} {q : Rat} {R : List (Int × Rat)} (ht : ts[i]? = some t) (h1 : Hid (Added us us2 v q)) (h : Hid (Added us2 us' t.v t.c.q)) (he : Hid (fm us ++ plusV false (fm (ts.drop i)) v q = R)) (hc : v < t.v) : fm us' ++ plusV true (fm (ts.drop (i + 1))) v q = R := by
  rw [fm_added h.out, fm_added h1.out, ← he.out, drop_fm ht, plusV_gt (by exact hc)]
  simp only [List.append_assoc]
set_option maxRecDepth 100000 in
set_option maxHeartbeats 12800000 in
theorem plus_aux (w : World) {f : FD} {fa : Option Addr} (hfa : f.ad = fa) {m mq : Nat} (v : Int) {s1 : Bool} {a1 a2 : Option Addr} {n1 n2 c1 c2 : Nat} {q : Rat} (h : f.In w) (ho : OkFD m f) (hn : f.n ≤ 65535) (hq : RatC w s1 a1 n1 c1 a2 n2 c2 q) (hHq : H q ≤ mq) (hm : m + mq ≤ 68719476736) :
    Calls Tryz.prog 65 #[.agg #[.slice fa f.n f.c, .bool f.k.neg, .slice f.k.a1 f.k.n1 f.k.c1, .slice f.k.a2 f.k.n2 f.k.c2], .int .i64 v, .agg #[.bool s1, .slice a1 n1 c1, .slice a2 n2 c2]] w (RetFD (m + mq + 1) (plusV false (fm f.ts) v q, f.k.q) w) := by
  have hTR : TermsR w fa f.n f.c f.ts := by rw [← hfa]; exact h.terms
  clear hfa
  have hP := Pro3.mk' w #[.slice fa f.n f.c, .bool f.k.neg, .slice f.k.a1 f.k.n1 f.k.c1, .slice f.k.a2 f.k.n2 f.k.c2] #[.bool s1, .slice a1 n1 c1, .slice a2 n2 c2] #[.slice none 0 0, .bool false, .slice none 0 0, .slice none 0 0] 29 27 29
  go_enter Tryz.func65, Tryz.ntmps65
  go_upto_region 1 with (fail)
  generalize ((w.alloc (.cells #[.slice fa f.n f.c, .bool f.k.neg, .slice f.k.a1 f.k.n1 f.k.c1, .slice f.k.a2 f.k.n2 f.k.c2] 29)).alloc (.cells #[.bool s1, .slice a1 n1 c1, .slice a2 n2 c2] 27)).alloc (.cells #[.slice none 0 0, .bool false, .slice none 0 0, .slice none 0 0] 29) = W at *
  have HO := Lib.hid ho
  have HN := Lib.hid ho.n
  have HL := Lib.hid h.terms.len
  have hPb := hP.below
  have HPS := Lib.hid hP.size
  have fW := h.const.on hPb
  have tW := hTR.on hPb
  have qW := hq.on hPb
  have hA := hP.b0
  have hC := hP.b1
  have hR := hP.b2
  have hz := hP.b2.lt
  have hT0 : TOut W W (m + mq + 1) none 0 0 [] := ⟨Row.nil _ _ _ _ _, (fun i t ht => by cases ht), (fun i t ht => by cases ht), Below.refl _ _⟩
  have HR0 : Hid (fm [] ++ plusV false (fm (f.ts.drop 0)) v q = plusV false (fm f.ts) v q) := rfl
  clear hP ho h hq hTR
  go_wp2_with fail
  go_loopw [7, 8, 9] (fun s7 s8 s9 wr => ∃ i d ado no co ts, i ≤ f.n ∧ s9 = .int .i64 (i : Nat) ∧ s8 = .bool d ∧ s7 = .slice ado no co ∧ TOut W wr (m + mq + 1) ado no co ts ∧ Hid (fm ts ++ plusV d (fm (f.ts.drop i)) v q = plusV false (fm f.ts) v q) ∧ no ≤ i + d.toNat) (fun _ _ i _ => f.n - (intOf i).toNat)
  case atStart => exact ⟨0, false, _, _, _, [], by omega, rfl, rfl, rfl, hT0, HR0, by simp⟩
  case round =>
    obtain ⟨i, d, ado, no, co, ts, hi, rfl, rfl, rfl, hT, HR, hno⟩ := hrel
    clear hT0 HR0
    have hb := hT.below
    have hAr := hA.on hb
    have hCr := hC.on hb
    have hRr := hR.on hb
    have fr := fW.on hb
    have tr := tW.on hb
    have qr := qW.on hb
    have hd1 : d.toNat ≤ 1 := by cases d <;> simp
    have k0 := hAr.cell 0
    have k1 := hAr.cell 1
    have k2 := hAr.cell 2
    have k3 := hAr.cell 3
    simp at k0 k1 k2 k3
    have c0 := hCr.cell 0
    have c1 := hCr.cell 1
    have c2 := hCr.cell 2
    simp at c0 c1 c2
    by_cases hlt : i < f.n
    · obtain ⟨b, o, t, rfl, hbl, HT, gt, t0, t1, t2, t3⟩ := tr.at_ hlt
      have HOT := Lib.hid (HO.out.ts i t HT.out)
      go_upto_region 7 with (fail)
      have hQ := Pro1.mk' wr #[.int .i64 t.v, .bool t.c.neg, .slice t.c.a1 t.c.n1 t.c.c1, .slice t.c.a2 t.c.n2 t.c.c2] 52
      generalize wr.alloc (.cells #[.int .i64 t.v, .bool t.c.neg, .slice t.c.a1 t.c.n1 t.c.c1, .slice t.c.a2 t.c.n2 t.c.c2] 52) = U at *
      have hTU := hT.on hQ.below
      have hCU := hCr.on hQ.below
      have hAU := hAr.on hQ.below
      have qU := qr.on hQ.below
      have hbx := hQ.b0
      have gU := (RD.ok_c gt HOT.out.1).on hQ.below
      have HNE : Hid ((Value.slice ado no co).ownBlock ≠ some wr.heap.size) := fun h9 => by have := (hT.row.own.lt _ h9).2; omega
      have hge := hb.size
      have hzU := hbx.lt
      clear hT hCr hAr qr hQ t0 t1 t2 t3 hbl
      have hT := hTU
      have y0 := hbx.cell 0
      have y1 := hbx.cell 1
      have y2 := hbx.cell 2
      have y3 := hbx.cell 3
      simp at y0 y1 y2 y3
      have c0 := hCU.cell 0
      have c1 := hCU.cell 1
      have c2 := hCU.cell 2
      simp at c0 c1 c2
      by_cases e1 : t.v = v
      · have d1 : decide (t.v = v) = true := decide_eq_true e1
        have d2 : (t.v == v) = true := by simpa using e1
        have HE := Lib.hid e1
        clear e1
        go_wp2_with fail
        refine (fradd_c U gU qU (by have := HOT.out.2; omega) (by omega)).mono ?_
        rintro e w5 ⟨s5, a5, n5, c5, a6, n6, c6, rfl, g5, hb5⟩
        have hb5x := hbx.on hb5
        have hT5 := hT.on hb5
        obtain ⟨hT8, g8, hB8⟩ := hT5.set3 hb5x HNE.out (by omega) g5
        have f1 := hb5x.frozen 1
        have f2 := hb5x.frozen 2
        have f3 := hb5x.frozen 3
        have fz := hb5x.lt
        have y0 := hb5x.cell 0
        have y1 := hb5x.cell 1
        have y2 := hb5x.cell 2
        have y3 := hb5x.cell 3
        simp at y0 y1 y2 y3
        have HAD := H_add t.c.q q
        have HH1 := Lib.hid (show H (t.c.q + q) ≤ m + mq + 1 by have := HOT.out.2; omega)
        clear HAD
        go_upto_region 9 with (fail)
        generalize ((w5.setCell ⟨wr.heap.size, 1, none⟩ (.bool s5)).setCell ⟨wr.heap.size, 2, none⟩ (.slice a5 n5 c5)).setCell ⟨wr.heap.size, 3, none⟩ (.slice a6 n6 c6) = w8 at *
        clear hT hT5 hTU hb5x gU g5 y0 y1 y2 y3
        have hT := hT8
        have y0 := hB8.cell 0
        have y1 := hB8.cell 1
        have y2 := hB8.cell 2
        have y3 := hB8.cell 3
        simp at y0 y1 y2 y3
        go_wp2_with fail
        refine (nonzero_c w8 W.heap.size t.v hT.row hT.all g8 (by have := HH1.out; omega) (by omega) hT.below.size).mono ?_
        rintro e w9 hp9
        obtain ⟨ad9, no9, co9, ts9, rfl, HA9, hno9, hT9, _⟩ := hT.nz (Below.refl _ _) hp9 (by have := HH1.out; omega)
        have HS := Lib.hid (plus_a HT.out HA9 HR HE.out)
        go_wp2_with fail
        go_roundw
        case rel => exact ⟨i + 1, true, ad9, no9, co9, ts9, by omega, by go_num, rfl, rfl, hT9, HS, by simp; omega⟩
        case measure => simp [intOf]; omega
      · have d1 : decide (t.v = v) = false := decide_eq_false e1
        have d2 : (t.v == v) = false := by simpa using e1
        have HE := Lib.hid e1
        have HH1 := Lib.hid (show H t.c.q ≤ m + mq + 1 by have := HOT.out.2; omega)
        clear e1
        by_cases e2 : d = false ∧ v < t.v
        · obtain ⟨rfl, e3⟩ := e2
          have d3 : decide (v < t.v) = true := decide_eq_true e3
          have HE3 := Lib.hid e3
          clear e3
          go_wp2_with fail
          refine (fcanon_c U qU (by omega)).mono ?_
          rintro e w5 ⟨s5, a5, n5, c5, a6, n6, c6, rfl, g5, hb5⟩
          have hT5 := hT.on hb5
          have hb5x := hbx.on hb5
          go_wp2_with fail
          refine (nonzero_c w5 W.heap.size v hT5.row hT5.all g5 (by omega) (by omega) hT5.below.size).mono ?_
          rintro e w7 hp7
          obtain ⟨ad7, no7, co7, ts7, rfl, HA7, hno7, hT7, hg7⟩ := hT5.nz (Below.refl _ _) hp7 (by omega)
          have hB7 := hT5.box hg7 hb5x HNE.out
          have g7 := (RatC.on gU hb5).row hT5.row hg7
          clear hT hT5 hTU hb5x gU g5 y0 y1 y2 y3 hp7
          have hT := hT7
          have y0 := hB7.cell 0
          have y1 := hB7.cell 1
          have y2 := hB7.cell 2
          have y3 := hB7.cell 3
          simp at y0 y1 y2 y3
          go_wp2_with fail
          refine (nonzero_c w7 W.heap.size t.v hT.row hT.all g7 (by have := HH1.out; omega) (by omega) hT.below.size).mono ?_
          rintro e w9 hp9
          obtain ⟨ad9, no9, co9, ts9, rfl, HA9, hno9, hT9, _⟩ := hT.nz (Below.refl _ _) hp9 (by have := HH1.out; omega)
          have HS := Lib.hid (plus_c2 HT.out HA7 HA9 HR HE3.out)
          go_wp2_with fail
          go_roundw
          case rel => exact ⟨i + 1, true, ad9, no9, co9, ts9, by omega, by go_num, rfl, rfl, hT9, HS, by simp at hno ⊢; omega⟩
          case measure => simp [intOf]; omega
        · have HE2 : d = false → t.v < v := fun h9 => by have := HE.out; have : ¬ v < t.v := fun h8 => e2 ⟨h9, h8⟩; omega
          have d4 : d = false → decide (v < t.v) = false := fun h9 => decide_eq_false (fun h8 => e2 ⟨h9, h8⟩)
          clear e2
          rcases hd : d with _ | _
          · have d5 := d4 hd
            have HE3 := Lib.hid (HE2 hd)
            clear d4 HE2
            subst hd
            go_wp2_with fail
            refine (nonzero_c U W.heap.size t.v hT.row hT.all gU (by have := HH1.out; omega) (by omega) hT.below.size).mono ?_
            rintro e w9 hp9
            obtain ⟨ad9, no9, co9, ts9, rfl, HA9, hno9, hT9, _⟩ := hT.nz (Below.refl _ _) hp9 (by have := HH1.out; omega)
            have HS := Lib.hid (plus_b HT.out HA9 HR HE.out (.inr HE3.out))
            go_wp2_with fail
            go_roundw
            case rel => exact ⟨i + 1, false, ad9, no9, co9, ts9, by omega, by go_num, rfl, rfl, hT9, HS, by simp at hno ⊢; omega⟩
            case measure => simp [intOf]; omega
          · clear d4 HE2
            subst hd
            go_wp2_with fail
            refine (nonzero_c U W.heap.size t.v hT.row hT.all gU (by have := HH1.out; omega) (by omega) hT.below.size).mono ?_
            rintro e w9 hp9
            obtain ⟨ad9, no9, co9, ts9, rfl, HA9, hno9, hT9, _⟩ := hT.nz (Below.refl _ _) hp9 (by have := HH1.out; omega)
            have HS := Lib.hid (plus_b HT.out HA9 HR HE.out (.inl rfl))
            go_wp2_with fail
            go_roundw
            case rel => exact ⟨i + 1, true, ad9, no9, co9, ts9, by omega, by go_num, rfl, rfl, hT9, HS, by simp at hno ⊢; omega⟩
            case measure => simp [intOf]; omega
    · have e : i = f.n := by omega
      subst e
      have HDR : Hid (fm (f.ts.drop f.n) = []) := by
        have h9 : f.ts.drop f.n = [] := List.drop_eq_nil_of_le (by have := HL.out; omega)
        rw [h9]; rfl
      rcases hd : d with _ | _
      · subst hd
        go_wp2_with fail
        refine (fcanon_c wr qr (by omega)).mono ?_
        rintro e w5 ⟨s5, a5, n5, c5, a6, n6, c6, rfl, g5, hb5⟩
        have hT5 := hT.on hb5
        go_wp2_with fail
        refine (nonzero_c w5 W.heap.size v hT5.row hT5.all g5 (by omega) (by omega) hT5.below.size).mono ?_
        rintro e w7 hp7
        obtain ⟨ad7, no7, co7, ts7, rfl, HA7, hno7, hT7, hg7⟩ := hT5.nz (Below.refl _ _) hp7 (by omega)
        have HS : Hid (fm ts7 = plusV false (fm f.ts) v q) := by
          have h8 := HR.out
          rw [HDR.out] at h8
          rw [fm_added HA7.out, ← h8]
          rfl
        have hA7 := hA.on hT7.below
        have hR7 := hR.on hT7.below
        have f7 := fW.on hT7.below
        have k0 := hA7.cell 0
        have k1 := hA7.cell 1
        have k2 := hA7.cell 2
        have k3 := hA7.cell 3
        simp at k0 k1 k2 k3
        have r0 := hR7.cell 0
        have r1 := hR7.cell 1
        have r2 := hR7.cell 2
        have r3 := hR7.cell 3
        simp at r0 r1 r2 r3
        have p0 := hR7.frozen 0
        have p1 := hR7.frozen 1
        have p2 := hR7.frozen 2
        have p3 := hR7.frozen 3
        have pz := hR7.lt
        have kz := hA7.lt
        have HF : Hid (RetFD (m + mq + 1) (plusV false (fm f.ts) v q, f.k.q) w (.returned (.agg #[.slice ad7 no7 co7, .bool f.k.neg, .slice f.k.a1 f.k.n1 f.k.c1, .slice f.k.a2 f.k.n2 f.k.c2])) ((((w7.setCell ⟨w.heap.size + 1 + 1, 0, none⟩ (.slice ad7 no7 co7)).setCell ⟨w.heap.size + 1 + 1, 1, none⟩ (.bool f.k.neg)).setCell ⟨w.heap.size + 1 + 1, 2, none⟩ (.slice f.k.a1 f.k.n1 f.k.c1)).setCell ⟨w.heap.size + 1 + 1, 3, none⟩ (.slice f.k.a2 f.k.n2 f.k.c2))) := by
          have hne : (Value.slice ad7 no7 co7).ownBlock ≠ some (w.heap.size + 1 + 1) := fun h9 => by have := (hT7.row.own.lt _ h9).1; omega
          exact ⟨⟨ad7, no7, co7, ts7, f.k⟩, rfl, ⟨(hT7.row.set4 hne _ _ _ _).terms (fun i t ht => (hT7.all i t ht).set4 hR7 _ _ _ _ _ _ _ _ _ _), f7.set4 hR7 _ _ _ _ _ _ _ _ _ _⟩, ⟨hT7.ok, HO.out.k, by show H f.k.q ≤ m + mq + 1; have := HO.out.kH; omega, by show no7 ≤ 65536; simp at hno; omega⟩, by rw [← HS.out]; rfl, below_set4 (hPb.trans (hT7.below.mono (by have := HPS.out; omega))) (by omega) _ _ _ _⟩
        go_wp2_with fail
        exact bodyPost_ret (v := .agg #[.slice ad7 no7 co7, .bool f.k.neg, .slice f.k.a1 f.k.n1 f.k.c1, .slice f.k.a2 f.k.n2 f.k.c2]) (by simp [results, Tryz.results65, go_sem, *]) rfl HF.out
      · subst hd
        have HS : Hid (fm ts = plusV false (fm f.ts) v q) := by
          have h8 := HR.out
          rw [HDR.out] at h8
          show fm ts = plusV false (fm f.ts) v q
          rw [← h8]
          simp [plusV]
        have r0 := hRr.cell 0
        have r1 := hRr.cell 1
        have r2 := hRr.cell 2
        have r3 := hRr.cell 3
        simp at r0 r1 r2 r3
        have p0 := hRr.frozen 0
        have p1 := hRr.frozen 1
        have p2 := hRr.frozen 2
        have p3 := hRr.frozen 3
        have pz := hRr.lt
        have kz := hAr.lt
        have HF : Hid (RetFD (m + mq + 1) (plusV false (fm f.ts) v q, f.k.q) w (.returned (.agg #[.slice ado no co, .bool f.k.neg, .slice f.k.a1 f.k.n1 f.k.c1, .slice f.k.a2 f.k.n2 f.k.c2])) ((((wr.setCell ⟨w.heap.size + 1 + 1, 0, none⟩ (.slice ado no co)).setCell ⟨w.heap.size + 1 + 1, 1, none⟩ (.bool f.k.neg)).setCell ⟨w.heap.size + 1 + 1, 2, none⟩ (.slice f.k.a1 f.k.n1 f.k.c1)).setCell ⟨w.heap.size + 1 + 1, 3, none⟩ (.slice f.k.a2 f.k.n2 f.k.c2))) := by
          have hne : (Value.slice ado no co).ownBlock ≠ some (w.heap.size + 1 + 1) := fun h9 => by have := (hT.row.own.lt _ h9).1; omega
          exact ⟨⟨ado, no, co, ts, f.k⟩, rfl, ⟨(hT.row.set4 hne _ _ _ _).terms (fun i t ht => (hT.all i t ht).set4 hRr _ _ _ _ _ _ _ _ _ _), fr.set4 hRr _ _ _ _ _ _ _ _ _ _⟩, ⟨hT.ok, HO.out.k, by show H f.k.q ≤ m + mq + 1; have := HO.out.kH; omega, by show no ≤ 65536; simp at hno; omega⟩, by rw [← HS.out]; rfl, below_set4 (hPb.trans (hT.below.mono (by have := HPS.out; omega))) (by omega) _ _ _ _⟩
        go_wp2_with fail
        exact bodyPost_ret (v := .agg #[.slice ado no co, .bool f.k.neg, .slice f.k.a1 f.k.n1 f.k.c1, .slice f.k.a2 f.k.n2 f.k.c2]) (by simp [results, Tryz.results65, go_sem, *]) rfl HF.out
theorem plus_c (w : World) {f : FD} {m mq : Nat} (v : Int) {s1 : Bool} {a1 a2 : Option Addr} {n1 n2 c1 c2 : Nat} {q : Rat} (h : f.In w) (ho : OkFD m f) (hn : f.n ≤ 65535) (hq : RatC w s1 a1 n1 c1 a2 n2 c2 q) (hHq : H q ≤ mq) (hm : m + mq ≤ 68719476736) :
    Calls Tryz.prog 65 #[.agg #[.slice f.ad f.n f.c, .bool f.k.neg, .slice f.k.a1 f.k.n1 f.k.c1, .slice f.k.a2 f.k.n2 f.k.c2], .int .i64 v, .agg #[.bool s1, .slice a1 n1 c1, .slice a2 n2 c2]] w (RetFD (m + mq + 1) (plusV false (fm f.ts) v q, f.k.q) w) := plus_aux w rfl v h ho hn hq hHq hm
end Go.Proofs.YtledagemcknlcaaGreat
namespace Go.Proofs.YtledagemcknlcaaGreat
open Go.RowKit

/-- a form under way in a box of its own, the newest one -/
structure FOut (U wr : World) (m : Nat) (ado : Option Addr) (no co : Nat) (ts : List TD) (k : RD) : Prop where
  row : Row NotU wr (U.heap.size + 1) 52 4 (.slice ado no co) no (tcells ts)
  all : AllIn wr ts
  ok : OkT m ts
  box : Blk wr U.heap.size 29 #[.slice ado no co, .bool k.neg, .slice k.a1 k.n1 k.c1, .slice k.a2 k.n2 k.c2]
  below : Below U.heap.size U wr
theorem FOut.base_le {U wr : World} {m : Nat} {ado : Option Addr} {no co : Nat} {ts : List TD} {k : RD} (h : FOut U wr m ado no co ts k) : U.heap.size + 1 ≤ wr.heap.size := h.box.lt
theorem FOut.on {U wr w' : World} {m : Nat} {ado : Option Addr} {no co : Nat} {ts : List TD} {k : RD} (h : FOut U wr m ado no co ts k) (hb : Below wr.heap.size wr w') : FOut U w' m ado no co ts k :=
  ⟨h.row.on hb, fun i t ht => (h.all i t ht).on hb, h.ok, h.box.on hb, h.below.trans (hb.mono h.below.size)⟩
theorem FOut.nz {U wr w5 w6 : World} {m : Nat} {ado : Option Addr} {no co : Nat} {ts : List TD} {k : RD} {v : Int} {qv : Rat} {e : Ending} (h : FOut U wr m ado no co ts k) (hb : Below wr.heap.size wr w5) (hp : NzPost (U.heap.size + 1) ado no co ts v qv w5 e w6) (hH : H qv ≤ m) :
    ∃ ado' no' co' ts', e = .returned (.slice ado' no' co') ∧ Hid (Added ts ts' v qv) ∧ no' ≤ no + 1 ∧ Blk w6 U.heap.size 29 #[.slice ado no co, .bool k.neg, .slice k.a1 k.n1 k.c1, .slice k.a2 k.n2 k.c2] ∧ (∀ b o, b < U.heap.size + 1 → w6.cell? ⟨b, o, none⟩ = w5.cell? ⟨b, o, none⟩) ∧
      FOut U (w6.setCell ⟨U.heap.size, 0, none⟩ (.slice ado' no' co')) m ado' no' co' ts' k := by
  obtain ⟨ado', no', co', ts', rfl, hrow, hall, hadd, hg, hno⟩ := hp
  have h5 := h.on hb
  have hne : (Value.slice ado no co).ownBlock ≠ some U.heap.size := fun h9 => by have := (h.row.own.lt _ h9).1; omega
  have hne' : (Value.slice ado' no' co').ownBlock ≠ some U.heap.size := fun h9 => by have := (hrow.own.lt _ h9).1; omega
  have hB6 := h5.box.grown hg (fun h9 => hne h9.symm)
  have hbel : Below (U.heap.size + 1) w5 w6 := h5.row.below hg h5.base_le
  refine ⟨ado', no', co', ts', rfl, hadd, hno, hB6, fun b o hb' => hbel.cell (p := ⟨b, o, none⟩) hb', ?_⟩
  exact {
    row := hrow.setc hne' _ _
    all := fun i t ht => (hall i t ht).setB hB6 notU_box 0 _
    ok := h.ok.added hadd hH
    box := by simpa using hB6.set_ 0 (.slice ado' no' co')
    below := (h5.below.trans (hbel.mono (by omega))).setCell (p := ⟨U.heap.size, 0, none⟩) (Nat.le_refl _) _ }
theorem drop_merge {us us' ts : List TD} {i : Nat} {t : TD} {q : Rat} {R : List (Int × Rat)} (ht : ts[i]? = some t) (h : Hid (Added us us' t.v (t.c.q * q))) (he : Hid (fm us ++ mergeV [] (fm (ts.drop i)) q = R)) : fm us' ++ mergeV [] (fm (ts.drop (i + 1))) q = R := by
  rw [fm_added h.out, List.append_assoc, ← he.out, drop_fm ht, mergeV_b]
set_option maxRecDepth 100000 in
set_option maxHeartbeats 12800000 in
theorem fscale_aux (w : World) {f : FD} {fa : Option Addr} (hfa : f.ad = fa) {m mq : Nat} {s1 : Bool} {a1 a2 : Option Addr} {n1 n2 c1 c2 : Nat} {q : Rat} (h : f.In w) (ho : OkFD m f) (hq : RatC w s1 a1 n1 c1 a2 n2 c2 q) (hHq : H q ≤ mq) (hm : m + mq ≤ 68719476736) :
    Calls Tryz.prog 37 #[.agg #[.slice fa f.n f.c, .bool f.k.neg, .slice f.k.a1 f.k.n1 f.k.c1, .slice f.k.a2 f.k.n2 f.k.c2], .agg #[.bool s1, .slice a1 n1 c1, .slice a2 n2 c2]] w (RetFD (m + mq + 1) (mergeV [] (fm f.ts) q, f.k.q * q) w) := by
  have hTR : TermsR w fa f.n f.c f.ts := by rw [← hfa]; exact h.terms
  clear hfa
  have hP := Pro3.mk' w #[.slice fa f.n f.c, .bool f.k.neg, .slice f.k.a1 f.k.n1 f.k.c1, .slice f.k.a2 f.k.n2 f.k.c2] #[.bool s1, .slice a1 n1 c1, .slice a2 n2 c2] #[.slice none 0 0, .bool false, .slice none 0 0, .slice none 0 0] 29 27 29
  go_enter Tryz.func37, Tryz.ntmps37
  go_upto_region 1 with (fail)
  generalize ((w.alloc (.cells #[.slice fa f.n f.c, .bool f.k.neg, .slice f.k.a1 f.k.n1 f.k.c1, .slice f.k.a2 f.k.n2 f.k.c2] 29)).alloc (.cells #[.bool s1, .slice a1 n1 c1, .slice a2 n2 c2] 27)).alloc (.cells #[.slice none 0 0, .bool false, .slice none 0 0, .slice none 0 0] 29) = W at *
  have HO := Lib.hid ho
  have HN := Lib.hid ho.n
  have HL := Lib.hid h.terms.len
  have hPb := hP.below
  have HPS := Lib.hid hP.size
  have fW := h.const.on hPb
  have tW := hTR.on hPb
  have qW := hq.on hPb
  have hA := hP.b0
  have hC := hP.b1
  have hR := hP.b2
  have k0 := hA.cell 0
  have k1 := hA.cell 1
  have k2 := hA.cell 2
  have k3 := hA.cell 3
  simp at k0 k1 k2 k3
  have y0 := hC.cell 0
  have y1 := hC.cell 1
  have y2 := hC.cell 2
  simp at y0 y1 y2
  clear hP ho h hq hTR
  go_wp2_with fail
  refine (frmul_c W (RD.ok_c fW HO.out.k) qW (by have := HO.out.kH; omega) (by omega)).mono ?_
  rintro e U ⟨s4, a4, n4, c4, b4, m4, d4, rfl, g4, hbU⟩
  go_upto_region 2 with (fail)
  have HK := RatC.rd g4
  have hQ := Pro1.mk' U #[.slice none 0 0, .bool s4, .slice a4 n4 c4, .slice b4 m4 d4] 29
  generalize U.alloc (.cells #[.slice none 0 0, .bool s4, .slice a4 n4 c4, .slice b4 m4 d4] 29) = V at *
  obtain ⟨k, hk1, hk2, hk3, hk4⟩ : ∃ k : RD, k = rdOf s4 a4 n4 c4 b4 m4 d4 (f.k.q * q) ∧ k.In U ∧ k.Ok ∧ k.q = f.k.q * q := ⟨_, rfl, HK.1, HK.2.1, HK.2.2⟩
  have hF0 : FOut U V (m + mq + 1) none 0 0 [] k := ⟨Row.nil _ _ _ _ _, (fun i t ht => by cases ht), (fun i t ht => by cases ht), by rw [hk1]; exact hQ.b0, hQ.below⟩
  have HK3 := Lib.hid hk3
  have HK4 := Lib.hid hk4
  have HR0 : Hid (fm [] ++ mergeV [] (fm (f.ts.drop 0)) q = mergeV [] (fm f.ts) q) := rfl
  have hA := hA.on hbU
  have hC := hC.on hbU
  have hR := hR.on hbU
  have tW := tW.on hbU
  have qW := qW.on hbU
  have hwU : Below w.heap.size w U := hPb.trans (hbU.mono (by have := HPS.out; omega))
  have hzU := hR.lt
  clear hk1 hk3 hk4 HK g4 hQ hbU fW k0 k1 k2 k3
  go_wp2_with fail
  go_loopw [6] (fun s6 wr => ∃ i ado no co ts, i ≤ f.n ∧ s6 = .int .i64 (i : Nat) ∧ FOut U wr (m + mq + 1) ado no co ts k ∧ Hid (fm ts ++ mergeV [] (fm (f.ts.drop i)) q = mergeV [] (fm f.ts) q) ∧ no ≤ i) (fun i _ => f.n - (intOf i).toNat)
  case atStart => exact ⟨0, _, _, _, [], by omega, rfl, hF0, HR0, by omega⟩
  case round =>
    obtain ⟨i, ado, no, co, ts, hi, rfl, hF, HR, hno⟩ := hrel
    clear hF0 HR0
    have hn6 := HN.out
    have hb := hF.below
    have hAr := hA.on hb
    have hCr := hC.on hb
    have hRr := hR.on hb
    have tr := tW.on hb
    have qr := qW.on hb
    have hx0 := hF.box.cell 0
    have hxz := hF.box.lt
    simp at hx0
    have k0 := hAr.cell 0
    have k1 := hAr.cell 1
    have k2 := hAr.cell 2
    have k3 := hAr.cell 3
    simp at k0 k1 k2 k3
    have y0 := hCr.cell 0
    have y1 := hCr.cell 1
    have y2 := hCr.cell 2
    simp at y0 y1 y2
    by_cases hlt : i < f.n
    · obtain ⟨b, o, t, rfl, hbl, HT, gt, t0, t1, t2, t3⟩ := tr.at_ hlt
      have t1' : wr.cell? ⟨b, o + i * 4 + 1, none⟩ = some (.bool t.c.neg) := t1
      have t2' : wr.cell? ⟨b, o + i * 4 + 1 + 1, none⟩ = some (.slice t.c.a1 t.c.n1 t.c.c1) := t2
      have t3' : wr.cell? ⟨b, o + i * 4 + 1 + 2, none⟩ = some (.slice t.c.a2 t.c.n2 t.c.c2) := t3
      have HBU : Hid (b < U.heap.size) := by
        obtain ⟨b', o', h1, h2, _⟩ := tW.cells (by omega)
        cases h1
        exact h2
      have hbu := HBU.out
      have HOT := Lib.hid (HO.out.ts i t HT.out)
      have gU := RD.ok_c gt HOT.out.1
      have lo : decide ((i : Int) < 0) = false := decide_eq_false (by omega)
      have hi' : decide ((f.n : Int) ≤ (i : Int)) = false := decide_eq_false (by omega)
      have ne1 : w.heap.size ≠ U.heap.size := by omega
      have ne2 : w.heap.size + 1 ≠ U.heap.size := by omega
      have ne3 : b ≠ U.heap.size := by omega
      have l1 : w.heap.size < wr.heap.size := by omega
      have l2 : w.heap.size + 1 < wr.heap.size := by omega
      have l3 : w.heap.size < U.heap.size + 1 := by omega
      have l4 : w.heap.size + 1 < U.heap.size + 1 := by omega
      have l5 : b < U.heap.size + 1 := by omega
      have hU0 : Below wr.heap.size wr wr.drew := Below.drew (Below.refl _ _)
      go_upto_region 5 with (fail)
      refine wp_region_T 19 (fun w' => w'.cell? ⟨U.heap.size, 0, none⟩ = some (.slice ado no co) ∧ w'.cell? ⟨w.heap.size, 0, none⟩ = some (.slice (some ⟨b, o, none⟩) f.n f.c) ∧ w'.cell? ⟨b, o + i * 4, none⟩ = some (.int .i64 t.v) ∧ w'.cell? ⟨b, o + i * 4 + 1, none⟩ = some (.bool t.c.neg) ∧ w'.cell? ⟨b, o + i * 4 + 1 + 1, none⟩ = some (.slice t.c.a1 t.c.n1 t.c.c1) ∧ w'.cell? ⟨b, o + i * 4 + 1 + 2, none⟩ = some (.slice t.c.a2 t.c.n2 t.c.c2) ∧ w'.cell? ⟨w.heap.size + 1, 0, none⟩ = some (.bool s1) ∧ w'.cell? ⟨w.heap.size + 1, 1, none⟩ = some (.slice a1 n1 c1) ∧ w'.cell? ⟨w.heap.size + 1, 2, none⟩ = some (.slice a2 n2 c2)) (by kernel_rfl) (by (try dsimp only); go_keep) (fun hHeld => ?_)
      refine wpT_take 0 (v := ?_) rfl (by kernel_rfl) (fun _ _ _ h => h) (by rfl) (by assumption) ?_ ?_
      rotate_left
      · (intro w9 hS9; (try dsimp only at hS9); go_simp; try with_reducible rfl)
      try simp only [Act.put, List.setIfInBounds_toArray, List.set_cons_zero, List.set_cons_succ]
      refine wpT_take 1 (v := ?_) rfl (by kernel_rfl) (fun _ _ _ h => h) (by rfl) (by assumption) ?_ ?_
      rotate_left
      · (intro w9 hS9; (try dsimp only at hS9); go_simp; try with_reducible rfl)
      try simp only [Act.put, List.setIfInBounds_toArray, List.set_cons_zero, List.set_cons_succ]
      refine wpT_take 2 (v := ?_) rfl (by kernel_rfl) (fun _ _ _ h => h) (by rfl) (by assumption) ?_ ?_
      rotate_left
      · (intro w9 hS9; (try dsimp only at hS9); go_simp; try with_reducible rfl)
      try simp only [Act.put, List.setIfInBounds_toArray, List.set_cons_zero, List.set_cons_succ]
      refine wpT_take 3 (v := ?_) rfl (by kernel_rfl) (fun _ _ _ h => h) (by rfl) (by assumption) ?_ ?_
      rotate_left
      · (intro w9 hS9; (try dsimp only at hS9); go_simp; try with_reducible rfl)
      try simp only [Act.put, List.setIfInBounds_toArray, List.set_cons_zero, List.set_cons_succ]
      refine wpT_take 4 (v := ?_) rfl (by kernel_rfl) (fun _ _ _ h => h) (by rfl) (by assumption) ?_ ?_
      rotate_left
      · (intro w9 hS9; (try dsimp only at hS9); go_simp; try with_reducible rfl)
      try simp only [Act.put, List.setIfInBounds_toArray, List.set_cons_zero, List.set_cons_succ]
      refine wpT_take 5 (v := ?_) rfl (by kernel_rfl) (fun _ _ _ h => h) (by rfl) (by assumption) ?_ ?_
      rotate_left
      · (intro w9 hS9; (try dsimp only at hS9); go_simp; try with_reducible rfl)
      try simp only [Act.put, List.setIfInBounds_toArray, List.set_cons_zero, List.set_cons_succ]
      refine wpT_take 6 (v := ?_) rfl (by kernel_rfl) (fun _ _ _ h => h) (by rfl) (by assumption) ?_ ?_
      rotate_left
      · (intro w9 hS9; (try dsimp only at hS9); go_simp; try with_reducible rfl)
      try simp only [Act.put, List.setIfInBounds_toArray, List.set_cons_zero, List.set_cons_succ]
      refine wpT_take 7 (v := ?_) rfl (by kernel_rfl) (fun _ _ _ h => h) (by rfl) (by assumption) ?_ ?_
      rotate_left
      · (intro w9 hS9; (try dsimp only at hS9); go_simp; try with_reducible rfl)
      try simp only [Act.put, List.setIfInBounds_toArray, List.set_cons_zero, List.set_cons_succ]
      refine wpT_take 8 (v := ?_) rfl (by kernel_rfl) (fun _ _ _ h => h) (by rfl) (by assumption) ?_ ?_
      rotate_left
      · (intro w9 hS9; (try dsimp only at hS9); go_simp; try with_reducible rfl)
      try simp only [Act.put, List.setIfInBounds_toArray, List.set_cons_zero, List.set_cons_succ]
      refine wpT_take 9 (v := ?_) rfl (by kernel_rfl) (fun _ _ _ h => h) (by rfl) (by assumption) ?_ ?_
      rotate_left
      · (intro w9 hS9; (try dsimp only at hS9); go_simp; try with_reducible rfl)
      try simp only [Act.put, List.setIfInBounds_toArray, List.set_cons_zero, List.set_cons_succ]
      refine wpT_take 10 (v := ?_) rfl (by kernel_rfl) (fun _ _ _ h => h) (by rfl) (by assumption) ?_ ?_
      rotate_left
      · (intro w9 hS9; (try dsimp only at hS9); go_simp; try with_reducible rfl)
      try simp only [Act.put, List.setIfInBounds_toArray, List.set_cons_zero, List.set_cons_succ]
      refine wpT_take 11 (v := ?_) rfl (by kernel_rfl) (fun _ _ _ h => h) (by rfl) (by assumption) ?_ ?_
      rotate_left
      · (intro w9 hS9; (try dsimp only at hS9); go_simp; try with_reducible rfl)
      try simp only [Act.put, List.setIfInBounds_toArray, List.set_cons_zero, List.set_cons_succ]
      refine wpT_take 12 (v := ?_) rfl (by kernel_rfl) (fun _ _ _ h => h) (by rfl) (by assumption) ?_ ?_
      rotate_left
      · (intro w9 hS9; (try dsimp only at hS9); go_simp; try with_reducible rfl)
      try simp only [Act.put, List.setIfInBounds_toArray, List.set_cons_zero, List.set_cons_succ]
      refine wpT_take 13 (v := ?_) rfl (by kernel_rfl) (fun _ _ _ h => h) (by rfl) (by assumption) ?_ ?_
      rotate_left
      · (intro w9 hS9; (try dsimp only at hS9); go_simp; try with_reducible rfl)
      try simp only [Act.put, List.setIfInBounds_toArray, List.set_cons_zero, List.set_cons_succ]
      refine wpT_take 14 (v := ?_) rfl (by kernel_rfl) (fun _ _ _ h => h) (by rfl) (by assumption) ?_ ?_
      rotate_left
      · (intro w9 hS9; (try dsimp only at hS9); go_simp; try with_reducible rfl)
      try simp only [Act.put, List.setIfInBounds_toArray, List.set_cons_zero, List.set_cons_succ]
      refine wpT_only 15 rfl (by kernel_rfl) (fun K hK => ?_)
      go_simp
      go_at_call 66; refine (frmul_c _ (gU.on hU0) (qr.on hU0) (by have := HOT.out.2; omega) (by omega)).mono ?_; rintro e w5 ⟨s5, a5, n5, c5, a6, n6, c6, rfl, g5, hb5'⟩; have hb5 : Below wr.heap.size wr w5 := hU0.trans hb5'; obtain ⟨hc5, hf5⟩ := bcell hb5; have hF5 := hF.on hb5
      go_wp2_with fail
      have hOld := hHeld
      clear hHeld
      refine hK.out _ _ ?_ (fun hHeld => ?_)
      · (try dsimp only); go_keep
      clear hOld hK K
      try simp only [Act.put, List.setIfInBounds_toArray, List.set_cons_zero, List.set_cons_succ]
      refine wpT_take 16 (v := ?_) rfl (by kernel_rfl) (fun _ _ _ h => h) (by rfl) (by assumption) ?_ ?_
      rotate_left
      · (intro w9 hS9; (try dsimp only at hS9); go_simp; try with_reducible rfl)
      try simp only [Act.put, List.setIfInBounds_toArray, List.set_cons_zero, List.set_cons_succ]
      refine wpT_only 17 rfl (by kernel_rfl) (fun K hK => ?_)
      go_simp
      go_at_call 67; refine (nonzero_c _ (U.heap.size + 1) t.v hF5.row hF5.all g5 (by have := H_mul t.c.q q; have := HOT.out.2; omega) (by omega) hF5.base_le).mono ?_; rintro e w6 hp6; obtain ⟨ad6, no6, co6, ts6, rfl, HA6, hno6, hB6, hc6, hF6⟩ := hF.nz hb5 hp6 (by have := H_mul t.c.q q; have := HOT.out.2; omega); have x0 := hB6.cell 0; have x1 := hB6.frozen 0; have x2 := hB6.lt; have x3 := hF6.base_le; simp at x0
      go_wp2_with fail
      have hOld := hHeld
      clear hHeld
      refine hK.out _ _ ?_ (fun hHeld => ?_)
      · (try dsimp only); go_keep
      clear hOld hK K
      try simp only [Act.put, List.setIfInBounds_toArray, List.set_cons_zero, List.set_cons_succ]
      refine wpT_take 18 (v := ?_) rfl (by kernel_rfl) (fun _ _ _ h => h) (by rfl) (by assumption) ?_ ?_
      rotate_left
      · (intro w9 hS9; (try dsimp only at hS9); go_simp; try with_reducible rfl)
      try simp only [Act.put, List.setIfInBounds_toArray, List.set_cons_zero, List.set_cons_succ]
      refine wpT_last 19 rfl rfl (by kernel_rfl) (fun K hK => ?_)
      go_simp
      refine hK.out _ _ ?_
      clear hK K
      try simp only [Act.put, List.setIfInBounds_toArray, List.set_cons_zero, List.set_cons_succ]
      refine wpT_done (by kernel_rfl) ?_ _
      have HS := Lib.hid (drop_merge HT.out HA6 HR)
      go_wp2_with fail
      go_roundw
      case rel => exact ⟨i + 1, ad6, no6, co6, ts6, by omega, by go_num, hF6, HS, by omega⟩
      case measure => simp [intOf]; omega
    · have e : i = f.n := by omega
      subst e
      have HS : Hid (fm ts = mergeV [] (fm f.ts) q) := by
        have h9 : f.ts.drop f.n = [] := List.drop_eq_nil_of_le (by have := HL.out; omega)
        have h8 := HR.out
        rw [h9] at h8
        show fm ts = mergeV [] (fm f.ts) q
        rw [← h8]
        show fm ts = fm ts ++ mergeV [] [] q
        rw [mergeV_nil, List.append_nil]
      have kF := (hk2.on hb)
      have x0 := hF.box.cell 0
      have x1 := hF.box.cell 1
      have x2 := hF.box.cell 2
      have x3 := hF.box.cell 3
      simp at x0 x1 x2 x3
      have r0 := hRr.cell 0
      have r1 := hRr.cell 1
      have r2 := hRr.cell 2
      have r3 := hRr.cell 3
      simp at r0 r1 r2 r3
      have p0 := hRr.frozen 0
      have p1 := hRr.frozen 1
      have p2 := hRr.frozen 2
      have p3 := hRr.frozen 3
      have pz := hRr.lt
      have HF : Hid (RetFD (m + mq + 1) (mergeV [] (fm f.ts) q, f.k.q * q) w (.returned (.agg #[.slice ado no co, .bool k.neg, .slice k.a1 k.n1 k.c1, .slice k.a2 k.n2 k.c2])) ((((wr.setCell ⟨w.heap.size + 1 + 1, 0, none⟩ (.slice ado no co)).setCell ⟨w.heap.size + 1 + 1, 1, none⟩ (.bool k.neg)).setCell ⟨w.heap.size + 1 + 1, 2, none⟩ (.slice k.a1 k.n1 k.c1)).setCell ⟨w.heap.size + 1 + 1, 3, none⟩ (.slice k.a2 k.n2 k.c2))) := by
        have hne : (Value.slice ado no co).ownBlock ≠ some (w.heap.size + 1 + 1) := fun h9 => by have := (hF.row.own.lt _ h9).1; omega
        exact ⟨⟨ado, no, co, ts, k⟩, rfl, ⟨(hF.row.set4 hne _ _ _ _).terms (fun i t ht => (hF.all i t ht).set4 hRr _ _ _ _ _ _ _ _ _ _), kF.set4 hRr _ _ _ _ _ _ _ _ _ _⟩, ⟨hF.ok, HK3.out, by show H k.q ≤ m + mq + 1; rw [HK4.out]; have := H_mul f.k.q q; have := HO.out.kH; omega, by show no ≤ 65536; have := HN.out; omega⟩, by rw [← HS.out, ← HK4.out]; rfl, below_set4 (hwU.trans (hb.mono hwU.size)) (by omega) _ _ _ _⟩
      go_wp2_with fail
      exact bodyPost_ret (v := .agg #[.slice ado no co, .bool k.neg, .slice k.a1 k.n1 k.c1, .slice k.a2 k.n2 k.c2]) (by simp [results, Tryz.results37, go_sem, *]) rfl HF.out
theorem fscale_c (w : World) {f : FD} {m mq : Nat} {s1 : Bool} {a1 a2 : Option Addr} {n1 n2 c1 c2 : Nat} {q : Rat} (h : f.In w) (ho : OkFD m f) (hq : RatC w s1 a1 n1 c1 a2 n2 c2 q) (hHq : H q ≤ mq) (hm : m + mq ≤ 68719476736) :
    Calls Tryz.prog 37 #[.agg #[.slice f.ad f.n f.c, .bool f.k.neg, .slice f.k.a1 f.k.n1 f.k.c1, .slice f.k.a2 f.k.n2 f.k.c2], .agg #[.bool s1, .slice a1 n1 c1, .slice a2 n2 c2]] w (RetFD (m + mq + 1) (mergeV [] (fm f.ts) q, f.k.q * q) w) := fscale_aux w rfl h ho hq hHq hm
end Go.Proofs.YtledagemcknlcaaGreat
namespace Go.Proofs.YtledagemcknlcaaGreat
open Go.RowKit

/-- what is known of a value, kept by all later worlds -/
structure Spc where
  p : Value → World → Prop
  mono : ∀ v w w', p v w → Below w.heap.size w w' → p v w'
def Spc.det (x : Value) : Spc := ⟨fun v _ => v = x, fun _ _ _ h _ => h⟩
def Spc.any : Spc := ⟨fun _ _ => True, fun _ _ _ h _ => h⟩

section
variable {P : Program} {ops : Array Oper} {Q : Exit → Act → World → Prop} {md : Region.Mode}

/-- the frame in which the slots of the operations hold u -/
def allPut : List Oper → Act → (Nat → Value) → Nat → Act
  | [], a, _, _ => a
  | o :: l, a, u, k => allPut l (a.put o.dst (u k)) u (k + 1)
theorem put_put (a : Act) (d : Option Tmp) (v v' : Value) : (a.put d v).put d v' = a.put d v' := by
  cases d with
  | none => rfl
  | some d => simp [Act.put]
theorem put_comm (a : Act) {d d' : Option Tmp} (v v' : Value) (h : d = none ∨ d ≠ d') : (a.put d v).put d' v' = (a.put d' v').put d v := by
  cases d with
  | none => rfl
  | some d =>
    cases d' with
    | none => rfl
    | some d' =>
      have hne : d ≠ d' := fun e => by rcases h with h | h; cases h; exact h (by rw [e])
      simp only [Act.put]
      rw [Array.setIfInBounds_comm _ _ hne]
theorem allPut_put : ∀ (l : List Oper) (a : Act) (u : Nat → Value) (k : Nat) (d : Option Tmp) (v : Value), (∀ o ∈ l, d = none ∨ d ≠ o.dst) → allPut l (a.put d v) u k = (allPut l a u k).put d v
  | [], _, _, _, _, _, _ => rfl
  | o :: l, a, u, k, d, v, h => by
    rw [allPut, allPut, put_comm a v (u k) (h o (by simp)), allPut_put l _ u (k + 1) d v (fun o' ho => h o' (by simp [ho]))]
theorem allPut_congr : ∀ (l : List Oper) (a : Act) (u u' : Nat → Value) (k : Nat), (∀ j, k ≤ j → u j = u' j) → allPut l a u k = allPut l a u' k
  | [], _, _, _, _, _ => rfl
  | o :: l, a, u, u', k, h => by
    rw [allPut, allPut, h k (Nat.le_refl _)]
    exact allPut_congr l _ u u' (k + 1) (fun j hj => h j (by omega))
/-- no two operations have one slot -/
def slotsB : List Oper → Bool
  | [] => true
  | o :: l => (o.dst == none || l.all fun o' => o.dst != o'.dst) && slotsB l
theorem allPut_upd : ∀ (l : List Oper) (a : Act) (u : Nat → Value) (k i : Nat) (oi : Oper) (v : Value), slotsB l = true → l[i]? = some oi → (allPut l a u k).put oi.dst v = allPut l a (fun j => if j = k + i then v else u j) k
  | [], _, _, _, i, _, _, _, hi => by simp at hi
  | o :: l, a, u, k, i, oi, v, hs, hi => by
    simp only [slotsB, Bool.and_eq_true] at hs
    cases i with
    | zero =>
      simp only [List.getElem?_cons_zero, Option.some.injEq] at hi
      subst hi
      have h1 : ∀ o' ∈ l, o.dst = none ∨ o.dst ≠ o'.dst := fun o' ho => by
        rcases Bool.or_eq_true_iff.1 hs.1 with h | h
        · left; simpa using h
        · right; have := List.all_eq_true.1 h o' ho; simpa using this
      rw [allPut, allPut, ← allPut_put l _ u (k + 1) o.dst v h1, put_put]
      have e : (if k = k + 0 then v else u k) = v := by simp
      rw [e]
      exact allPut_congr l _ _ _ (k + 1) (fun j hj => by rw [if_neg (by omega)])
    | succ i =>
      simp only [List.getElem?_cons_succ] at hi
      rw [allPut, allPut, allPut_upd l _ u (k + 1) i oi v hs.2 hi, if_neg (by omega)]
      exact allPut_congr l _ _ _ (k + 1) (fun j hj => by
        by_cases h : j = k + 1 + i
        · rw [if_pos h, if_pos (by omega)]
        · rw [if_neg h, if_neg (by omega)])
theorem allPut_self : ∀ (l : List Oper) (a : Act) (k : Nat) (u : Nat → Value), (∀ i o, l[i]? = some o → a.put o.dst (u (k + i)) = a) → allPut l a u k = a
  | [], _, _, _, _ => rfl
  | o :: l, a, k, u, h => by
    have h0 := h 0 o rfl
    rw [allPut]
    simp only [Nat.add_zero] at h0
    rw [h0]
    exact allPut_self l a (k + 1) u (fun i o' ho => by have := h (i + 1) o' (by simpa using ho); rwa [show k + (i + 1) = k + 1 + i by omega] at this)
theorem put_self (a : Act) (d : Option Tmp) : ∃ v, a.put d v = a := by
  cases d with
  | none => exact ⟨undef, rfl⟩
  | some d =>
    by_cases h : d < a.tmps.size
    · refine ⟨a.tmps[d], ?_⟩
      simp only [Act.put]
      have e : a.tmps.setIfInBounds d a.tmps[d] = a.tmps := by
        apply Array.ext
        · simp
        · intro i h1 h2
          rw [Array.getElem_setIfInBounds]
          split
          · rename_i e; subst e; rfl
          · rfl
      rw [e]
    · refine ⟨undef, ?_⟩
      simp only [Act.put]
      have e : a.tmps.setIfInBounds d undef = a.tmps := Array.setIfInBounds_eq_of_size_le (Nat.le_of_not_lt h)
      rw [e]
theorem allPut_start (l : List Oper) (a : Act) : ∃ u, allPut l a u 0 = a := by
  have : ∀ i : Nat, ∃ v, ∀ o : Oper, l[i]? = some o → a.put o.dst v = a := fun i => by
    rcases h : l[i]? with _ | o
    · exact ⟨undef, fun o ho => by cases ho⟩
    · obtain ⟨v, hv⟩ := put_self a o.dst
      exact ⟨v, fun o' ho => by cases ho; exact hv⟩
  exact ⟨fun i => Classical.choose (this i), allPut_self l a 0 _ (fun i o ho => by rw [Nat.zero_add]; exact Classical.choose_spec (this i) o ho)⟩
/-- what holds of the operations that an operation waits for -/
def depsOk (md : Region.Mode) (sp : List Spc) (u : Nat → Value) (w : World) : List Edge → Prop
  | [] => True
  | e :: l => if Region.binds md e = true then (sp.getD e.on .any).p (u e.on) w ∧ depsOk md sp u w l else depsOk md sp u w l
theorem depsOk_of {sp : List Spc} {u : Nat → Value} {w : World} : ∀ (l : List Edge), (∀ e ∈ l, Region.binds md e = true → (sp.getD e.on .any).p (u e.on) w) → depsOk md sp u w l
  | [], _ => trivial
  | e :: l, h => by
    rw [depsOk]
    split
    · rename_i hb
      exact ⟨h e (by simp) hb, depsOk_of l (fun e' he => h e' (by simp [he]))⟩
    · exact depsOk_of l (fun e' he => h e' (by simp [he]))
/-- all operations but the last store -/
def obsOk (P : Program) (ops : Array Oper) (Q : Exit → Act → World → Prop) (md : Region.Mode) (U : World) (sp : List Spc) (A : (Nat → Value) → Act) (s : Nat) : List Oper → Nat → Prop
  | [], _ => True
  | o :: l, k => (k ≠ s → ∀ u w, Below U.heap.size U w → depsOk md sp u w o.after.toList → ∀ K' : Act → World → Prop,
      Shut (∀ v a' w', (sp.getD k .any).p v w' → Below w.heap.size w w' → a' = (A u).put o.dst v → K' a' w') →
      if Region.wanted o (yielded ops (A u).tmps) = true then Oper.wp P o (A u) w K' Q else K' ((A u).put o.dst undef) w) ∧ obsOk P ops Q md U sp A s l (k + 1)
theorem obsOk_get {U : World} {sp : List Spc} {A : (Nat → Value) → Act} {s : Nat} : ∀ (l : List Oper) (k i : Nat) (o : Oper), obsOk P ops Q md U sp A s l k → l[i]? = some o → k + i ≠ s → ∀ u w, Below U.heap.size U w → depsOk md sp u w o.after.toList → ∀ K' : Act → World → Prop,
      Shut (∀ v a' w', (sp.getD (k + i) .any).p v w' → Below w.heap.size w w' → a' = (A u).put o.dst v → K' a' w') →
      if Region.wanted o (yielded ops (A u).tmps) = true then Oper.wp P o (A u) w K' Q else K' ((A u).put o.dst undef) w
  | [], _, i, _, _, hi => by simp at hi
  | o :: l, k, 0, o', h, hi => by
    simp only [List.getElem?_cons_zero, Option.some.injEq] at hi
    subst hi
    exact h.1
  | o :: l, k, i + 1, o', h, hi => by
    simp only [List.getElem?_cons_succ] at hi
    have := obsOk_get l (k + 1) i o' h.2 hi
    rwa [show k + 1 + i = k + (i + 1) by omega] at this
/-- every operation waits for earlier ones only; each but the last is waited for, or there is no last store -/
def sinkB (md : Region.Mode) (ops : Array Oper) (s : Nat) : Bool :=
  (List.range ops.size).all fun i => ((ops[i]?).map (·.after.all fun e => decide (e.on < i))).getD false &&
    (decide (ops.size ≤ s) || i == s || (List.range ops.size).any fun k => decide (i < k) && ((ops[k]?).map (·.after.any fun e => Region.binds md e && e.on == i)).getD false)
/-- how many have not come up yet -/
def openN (listed : Array Bool) : Nat → Nat
  | 0 => 0
  | n + 1 => openN listed n + (if listed.getD n true = false then 1 else 0)
theorem openN_set {listed : Array Bool} {i : Nat} : ∀ n, (i < n → listed.getD i true = false → openN (listed.setIfInBounds i true) n + 1 = openN listed n) ∧ (n ≤ i → openN (listed.setIfInBounds i true) n = openN listed n)
  | 0 => ⟨fun h => by omega, fun _ => rfl⟩
  | n + 1 => by
    have ih := openN_set (listed := listed) (i := i) n
    constructor
    · intro h1 h2
      rw [openN, openN]
      by_cases e : i = n
      · subst e
        have h3 : i < listed.size := by
          rcases Nat.lt_or_ge i listed.size with h | h
          · exact h
          · simp [Array.getElem?_eq_none h] at h2
        rw [ih.2 (Nat.le_refl _), if_pos h2, if_neg (by simp [Array.getD_eq_getD_getElem?, Array.getElem?_setIfInBounds, h3])]
      · rw [Go.getD_set_ne true e]
        have := ih.1 (by omega) h2
        omega
    · intro h
      rw [openN, openN, ih.2 (by omega), Go.getD_set_ne true (show i ≠ n by omega)]
theorem openN_zero {listed : Array Bool} : ∀ n, openN listed n = 0 → ∀ i, i < n → listed.getD i true = true
  | 0, _, i, h => by omega
  | n + 1, h, i, hi => by
    rw [openN] at h
    by_cases e : i = n
    · subst e
      rcases hx : listed.getD i true with _ | _
      · rw [if_pos hx] at h; omega
      · rfl
    · exact openN_zero n (by omega) i (by omega)
theorem ready_nil_all {listed : Array Bool} {s : Nat} (hs : sinkB md ops s = true) (hl : listed.size = ops.size) (hr : Region.ready md ops listed = []) : ∀ n, n ≤ ops.size → ∀ i, i < n → listed.getD i true = true
  | 0, _, i, h => by omega
  | n + 1, hn, i, hi => by
    have ih := ready_nil_all hs hl hr n (by omega)
    by_cases e : i = n
    · subst e
      rcases hx : listed.getD i true with _ | _
      · have hio : i < ops.size := by omega
        have h1 := List.all_eq_true.1 hs i (by simpa using hio)
        rw [Array.getElem?_eq_getElem hio] at h1
        simp only [Option.map_some, Option.getD_some, Bool.and_eq_true, Array.all_eq_true_iff_forall_mem] at h1
        have : i ∈ Region.ready md ops listed := mem_ready.2 ⟨hx, ops[i], Array.getElem?_eq_getElem hio, fun e he _ => by
          have h2 := h1.1 e he
          have h3 : e.on < i := by simpa using h2
          have h4 := ih e.on h3
          have h5 : e.on < listed.size := by omega
          simp [Array.getD_eq_getD_getElem?, Array.getElem?_eq_getElem h5] at h4 ⊢
          exact h4⟩
        rw [hr] at this
        cases this
      · rfl
    · exact ih i (by omega)
/-- where the last store may come up, all else has -/
theorem sink_all {listed : Array Bool} {s : Nat} (hs : sinkB md ops s = true) (hl : listed.size = ops.size) (hcl : ∀ k o, ops[k]? = some o → listed.getD k true = true → ∀ e ∈ o.after, Region.binds md e = true → listed.getD e.on false = true)
    (hr : s ∈ Region.ready md ops listed) : ∀ d i, ops.size ≤ i + d → i < ops.size → i ≠ s → listed.getD i true = true := by
  obtain ⟨hs0, os, hos, hall⟩ := mem_ready.1 hr
  have hss : s < ops.size := (Array.getElem?_eq_some_iff.1 hos).1
  have up : ∀ j, j < ops.size → listed.getD j false = true → listed.getD j true = true := fun j hj h => by
    have h5 : j < listed.size := by omega
    simp [Array.getD_eq_getD_getElem?, Array.getElem?_eq_getElem h5] at h ⊢
    exact h
  intro d
  induction d with
  | zero => intro i h1 h2; omega
  | succ d ih =>
    intro i h1 h2 h3
    have h4 := List.all_eq_true.1 hs i (by simpa using h2)
    simp only [Bool.and_eq_true, Bool.or_eq_true, decide_eq_true_eq, beq_iff_eq] at h4
    rcases h4.2 with (h5 | h5) | h5
    · omega
    · exact absurd h5 h3
    · obtain ⟨k, hk, hk2⟩ := List.any_eq_true.1 h5
      have hks : k < ops.size := by simpa using hk
      simp only [Bool.and_eq_true, decide_eq_true_eq] at hk2
      rw [Array.getElem?_eq_getElem hks] at hk2
      simp only [Option.map_some, Option.getD_some] at hk2
      obtain ⟨e, he, hb⟩ := Array.any_eq_true'.1 hk2.2
      simp only [Bool.and_eq_true, beq_iff_eq] at hb
      by_cases hkse : k = s
      · subst hkse
        have : ops[k] = os := by rw [Array.getElem?_eq_getElem hks] at hos; exact Option.some.inj hos
        rw [this] at he
        have := hall e he hb.1
        rw [hb.2] at this
        exact up i h2 this
      · have h6 := ih k (by omega) hks hkse
        have := hcl k ops[k] (Array.getElem?_eq_getElem hks) h6 e he hb.1
        rw [hb.2] at this
        exact up i h2 this
theorem wpAny_mono_law {U : World} {sp : List Spc} {A : (Nat → Value) → Act} {a0 : Act} {s : Nat} (hA : ∀ u, allPut ops.toList a0 u 0 = A u) (hsl : slotsB ops.toList = true) (hs : sinkB md ops s = true)
    (hobs : obsOk P ops Q md U sp A s ops.toList 0)
    (hend : ops.size ≤ s → ∀ u w, Below U.heap.size U w → (∀ i, i < ops.size → (sp.getD i .any).p (u i) w) → Q .normal (A u) w)
    (hlast : ∀ o, ops[s]? = some o → ∀ u w, Below U.heap.size U w → (∀ i, i < ops.size → i ≠ s → (sp.getD i .any).p (u i) w) → wpOp P ops Q s (fun a' w' => Q .normal a' w') (A u) w) :
    ∀ (fuel : Nat) (listed : Array Bool) (u : Nat → Value) (w : World), openN listed ops.size ≤ fuel → listed.size = ops.size → listed.getD s false = false → Below U.heap.size U w →
      (∀ k o, ops[k]? = some o → listed.getD k true = true → ∀ e ∈ o.after, Region.binds md e = true → listed.getD e.on false = true) →
      (∀ i, i < ops.size → listed.getD i true = true → (sp.getD i .any).p (u i) w) → wpAny P md ops Q fuel listed (A u) w := by
  have done : ∀ (listed : Array Bool) (u : Nat → Value) (w : World), listed.size = ops.size → listed.getD s false = false → Below U.heap.size U w → (∀ i, i < ops.size → listed.getD i true = true → (sp.getD i .any).p (u i) w) → Region.ready md ops listed = [] → Q .normal (A u) w := fun listed u w hl h0 hb hsp hr => by
    have hall := ready_nil_all hs hl hr ops.size (Nat.le_refl _)
    refine hend ?_ u w hb (fun i hi => hsp i hi (hall i hi))
    rcases Nat.lt_or_ge s ops.size with h | h
    · have h1 := hall s h
      have h5 : s < listed.size := by omega
      simp [Array.getD_eq_getD_getElem?, Array.getElem?_eq_getElem h5] at h0 h1
      rw [h0] at h1; cases h1
    · exact h
  intro fuel
  induction fuel with
  | zero =>
    intro listed u w hf hl h0 hb hcl hsp
    have hr : Region.ready md ops listed = [] := by
      rcases hx : Region.ready md ops listed with _ | ⟨j, r⟩
      · rfl
      · have hj : j ∈ Region.ready md ops listed := by rw [hx]; simp
        obtain ⟨h1, o, ho, _⟩ := mem_ready.1 hj
        have := openN_zero (listed := listed) ops.size (by omega) j ((Array.getElem?_eq_some_iff.1 ho).1)
        rw [h1] at this; cases this
    exact ⟨hr, done listed u w hl h0 hb hsp hr⟩
  | succ fuel ih =>
    intro listed u w hf hl h0 hb hcl hsp
    refine ⟨fun hr => done listed u w hl h0 hb hsp hr, fun j hj => ?_⟩
    obtain ⟨hjl, o, ho, hall⟩ := mem_ready.1 hj
    have hjs : j < ops.size := (Array.getElem?_eq_some_iff.1 ho).1
    by_cases hjS : j = s
    · subst hjS
      have hall' := fun i hi hne => sink_all hs hl hcl hj ops.size i (by omega) hi hne
      refine wpOp_mono (fun a' w' h' => ?_) (hlast o ho u w hb (fun i hi hne => hsp i hi (hall' i hi hne)))
      have hr : Region.ready md ops (listed.setIfInBounds j true) = [] := by
        rcases hx : Region.ready md ops (listed.setIfInBounds j true) with _ | ⟨k, r⟩
        · rfl
        · have hk : k ∈ Region.ready md ops (listed.setIfInBounds j true) := by rw [hx]; simp
          obtain ⟨h1, o', ho', _⟩ := mem_ready.1 hk
          have hks := (Array.getElem?_eq_some_iff.1 ho').1
          by_cases e : k = j
          · subst e
            have h5 : k < listed.size := by omega
            simp [Array.getD_eq_getD_getElem?, Array.getElem?_setIfInBounds, h5] at h1
          · rw [Go.getD_set_ne true (Ne.symm e)] at h1
            rw [hall' k hks e] at h1; cases h1
      cases fuel with
      | zero => exact ⟨hr, h'⟩
      | succ f => exact ⟨fun _ => h', by rw [hr]; simp⟩
    · have hol : ops.toList[j]? = some o := by rw [← ho]; simp
      have hd : depsOk md sp u w o.after.toList := depsOk_of _ (fun e he hbd => hsp e.on (by
          have h1 := List.all_eq_true.1 hs j (by simpa using hjs)
          rw [ho] at h1
          simp only [Option.map_some, Option.getD_some, Bool.and_eq_true, Array.all_eq_true_iff_forall_mem] at h1
          have := h1.1 e (by simpa using he)
          have : e.on < j := by simpa using this
          omega) (by
          have h2 := hall e (by simpa using he) hbd
          have h3 : e.on < listed.size := by
            rcases Nat.lt_or_ge e.on listed.size with h | h
            · exact h
            · simp [Array.getElem?_eq_none h] at h2
          simp [Array.getD_eq_getD_getElem?, Array.getElem?_eq_getElem h3] at h2 ⊢
          exact h2))
      have h1 := obsOk_get ops.toList 0 j o hobs hol (by omega) u w hb hd
      rw [Nat.zero_add] at h1
      refine wpOp_step ho (fun K' hK => h1 K' (fun v a' w' hv hbw ha' => hK a' w' ?_))
      subst ha'
      have hupd : (A u).put o.dst v = A (fun i => if i = 0 + j then v else u i) := by
        rw [← hA, ← hA]
        exact allPut_upd ops.toList a0 u 0 j o v hsl hol
      rw [hupd]
      refine ih (listed.setIfInBounds j true) _ w' ?_ (by simpa using hl) ?_ (hb.trans (hbw.mono hb.size)) ?_ ?_
      · have := (openN_set (listed := listed) (i := j) ops.size).1 hjs hjl
        omega
      · rw [Go.getD_set_ne false hjS]; exact h0
      · intro k o' ho' hk e he hbd
        by_cases ekj : k = j
        · subst ekj
          rw [ho] at ho'
          cases ho'
          exact getD_set_true (hall e he hbd)
        · rw [Go.getD_set_ne true (Ne.symm ekj)] at hk
          exact getD_set_true (hcl k o' ho' hk e he hbd)
      · intro i hi hil
        by_cases eij : i = j
        · subst eij
          simp only [Nat.zero_add, if_true]
          exact hv
        · rw [Go.getD_set_ne true (Ne.symm eij)] at hil
          simp only [Nat.zero_add, if_neg eij]
          exact (sp.getD i .any).mono _ _ _ (hsp i hi hil) hbw
theorem openN_start (n : Nat) : ∀ m, m ≤ n → openN (Array.replicate n false) m ≤ m
  | 0, _ => Nat.le_refl _
  | m + 1, h => by
    rw [openN]
    have := openN_start n m (by omega)
    split <;> omega
theorem wp_region_mono (sp : List Spc) (s : Nat) {id : Nat} {U : World} {A : (Nat → Value) → Act} {a0 : Act} (hm : P.follows .mixedOrders = true) (hsl : slotsB ops.toList = true) (hs : sinkB .any ops s = true) (hA : ∀ u, allPut ops.toList a0 u 0 = A u)
    (hobs : obsOk P ops Q .any U sp A s ops.toList 0)
    (hend : ops.size ≤ s → ∀ u w, Below U.heap.size U w → (∀ i, i < ops.size → (sp.getD i .any).p (u i) w) → Q .normal (A u) w)
    (hlast : ∀ o, ops[s]? = some o → ∀ u w, Below U.heap.size U w → (∀ i, i < ops.size → i ≠ s → (sp.getD i .any).p (u i) w) → wpOp P ops Q s (fun a' w' => Q .normal a' w') (A u) w) :
    (Code.region id ops true).wp P Q a0 U := by
  obtain ⟨u, hu⟩ := allPut_start ops.toList a0
  refine wp_region_any hm ?_
  rw [hA] at hu
  rw [← hu]
  have hrep : ∀ i b, i < ops.size → (Array.replicate ops.size false).getD i b = false := fun i b hi => by simp [Array.getD_eq_getD_getElem?, Array.getElem?_replicate, hi]
  refine wpAny_mono_law (a0 := a0) hA hsl hs hobs hend hlast ops.size (Array.replicate ops.size false) u U.drew (openN_start _ _ (Nat.le_refl _)) (by simp) ?_ (Below.drew (Below.refl _ _)) ?_ ?_
  · rcases Nat.lt_or_ge s ops.size with h | h
    · exact hrep s false h
    · simp [Array.getD_eq_getD_getElem?, Array.getElem?_replicate, Nat.not_lt.2 h]
  · intro k o ho hk
    have hks := (Array.getElem?_eq_some_iff.1 ho).1
    rw [hrep k true hks] at hk
    cases hk
  · intro i hi hil
    rw [hrep i true hi] at hil
    cases hil
end
end Go.Proofs.YtledagemcknlcaaGreat
namespace Go.Proofs.YtledagemcknlcaaGreat
open Go.RowKit

/-- a number of the value q, in new or old memory -/
def Spc.rd (F : RD → Value) (q : Rat) : Spc := ⟨fun v x => ∃ r : RD, v = F r ∧ r.In x ∧ r.Ok ∧ r.q = q, fun _ _ _ ⟨r, e, h1, h2⟩ hb => ⟨r, e, h1.on hb, h2⟩⟩
/-- a form of the value S -/
def Spc.fd (F : FD → Value) (m : Nat) (S : List (Int × Rat) × Rat) : Spc := ⟨fun v x => ∃ f : FD, v = F f ∧ f.In x ∧ OkFD m f ∧ sem f = S, fun _ _ _ ⟨r, e, h1, h2⟩ hb => ⟨r, e, h1.on hb, h2⟩⟩
/-- a new box -/
def Spc.box (lo : Nat) (t : TypeId) (cs : Array Value) : Spc := ⟨fun v x => ∃ B, v = .pointer (some ⟨B, 0, none⟩) ∧ lo ≤ B ∧ Blk x B t cs, fun _ _ _ ⟨B, e, h1, h2⟩ hb => ⟨B, e, h1, h2.on hb⟩⟩
theorem RetR.spc {q : Rat} {w w' : World} {e : Ending} (h : RetR q w e w') : ∃ r : RD, e = .returned (.agg #[.bool r.neg, .slice r.a1 r.n1 r.c1, .slice r.a2 r.n2 r.c2]) ∧ r.In w' ∧ r.Ok ∧ r.q = q ∧ Below w.heap.size w w' := by
  obtain ⟨s, a, n, c, a', n', c', rfl, g, hb⟩ := h
  exact ⟨rdOf s a n c a' n' c' q, rfl, g.rd.1, g.rd.2.1, g.rd.2.2, hb⟩
theorem RD.ratC {r : RD} {w : World} {q : Rat} (h : r.In w) (ho : r.Ok) (hq : r.q = q) : RatC w r.neg r.a1 r.n1 r.c1 r.a2 r.n2 r.c2 q := by
  have := RD.ok_c h ho
  rw [hq] at this
  exact this
end Go.Proofs.YtledagemcknlcaaGreat
namespace Go.Proofs.YtledagemcknlcaaGreat
open Go.RowKit

theorem Row.empty {w : World} {t : TypeId} (Qc : Value → Prop) (size : Nat) {cs : Array Value} (hcs : cs = #[]) : Row Qc (w.alloc (.cells cs t)) w.heap.size t size (.slice (some ⟨w.heap.size, 0, none⟩) 0 0) 0 [] := by
  subst hcs
  have h : (w.alloc (.cells #[] t)).heap[w.heap.size]? = some (.cells #[] t (0, 0)) := heap_alloc_new ..
  refine ⟨⟨by simp, .inr ⟨w.heap.size, 0, #[], rfl, Nat.le_refl _, h, Nat.le_refl _, by simp [maxLen], by simp, by simp⟩⟩, fun g cur t' p hg hc x hx => ?_⟩
  simp only [Value.ownBlock, Option.some.injEq] at hg
  subst hg
  rw [h] at hc
  cases hc
  simp at hx
section
variable {P : Program} {w : World}
theorem step_row_any {Qc : Value → Prop} {ops : Array Oper} {o : Oper} {a : Act} {K : Act → World → Prop} {Q : Exit → Act → World → Prop} {E : Prop} (hgd : o.guard = none) (s x : Operand) (t : TypeId)
    (ho : o.op = .call { callee := .builtin .append, args := #[s, x], argTypes := #[t, t] })
    (base : Nat) (e : TypeId) (i : TypeInfo) (z : Value) (size bytes : Nat) (ht : P.underlying t = some (.slice e)) (hi : P.info? e = some i) (hz : i.zero = some z)
    (hsize : i.size = size) (hby : i.bytes = bytes) (hzs : z.cells.size = size) (hsz : 0 < size)
    (v : Value) (n : Nat) (xs : List Value) (hs : a.eval s = v) (hown : Row Qc w base e size v n xs)
    (A : Option Addr) (m c : Nat) (news : List Value) (hx : a.eval x = .slice A m c) (hl : news.length = m * size) (hr : 0 < m → ∃ ad, A = some ad ∧ ∀ j u, news[j]? = some u → w.cell? (ad.add j) = some u) (h1 : ∀ u ∈ news, u.oneCell' = true)
    (h63 : n + m ≤ maxLen) (hbytes : (n + m) * bytes ≤ 140737488355328) (hbase : base ≤ w.heap.size) (hQz : ∀ x ∈ z.cells, Qc x) (hQn : ∀ x ∈ news, Qc x)
    (h : ∀ v' w', Row Qc w' base e size v' (n + m) (xs ++ news) → w.grownBy w' v.ownBlock → (v'.ownBlock = v.ownBlock ∨ v'.ownBlock = some w.heap.size) → K (a.put o.dst v') w') :
    if Region.wanted o (yielded ops a.tmps) = true then Oper.wp P o a w K Q else E := by
  rcases Nat.eq_zero_or_pos m with h0 | h0
  · subst h0
    have hnil : news = [] := List.eq_nil_of_length_eq_zero (by rw [hl]; simp)
    subst hnil
    have hw : Region.wanted o (yielded ops a.tmps) = true := by simp [Region.wanted, hgd]
    rw [if_pos hw]
    have hrun := run_app_zero (P := P) (w := w) base t o.type e i size ht hi v n xs hown.own A c
    unfold Oper.wp execOp
    simp only [ho, resolve, invoke, builtin, Sem.run_bind, Sem.run_pure, Result.andThen_ok, List.map_toArray, List.map_cons, List.map_nil, hs, hx, hrun]
    exact h v w (by simpa using hown) (below_grown (Below.refl _ _) _) (.inl rfl)
  · obtain ⟨ad, rfl, hc⟩ := hr h0
    exact step_row w hgd s x t ho base e i z size bytes ht hi hz hsize hby hzs hsz v n xs hs hown ad m c news hx hl hc h1 h63 hbytes hbase h0 hQz hQn h
end
theorem addr_plus {b o i : Nat} : (⟨b, o, none⟩ : Addr).add i = ⟨b, o + i, none⟩ := by
  unfold Addr.add
  split
  · rename_i h; subst h; rfl
  · rfl
theorem TermsR.flat {w : World} {ad : Option Addr} {n c : Nat} {ts : List TD} (h : TermsR w ad n c ts) (h0 : 0 < n) : ∃ a, ad = some a ∧ ∀ j u, (tcells ts)[j]? = some u → w.cell? (a.add j) = some u := by
  obtain ⟨b, o, rfl, _, hc⟩ := h.cells h0
  refine ⟨_, rfl, fun j u hu => ?_⟩
  rw [addr_plus]
  have hj := (List.getElem?_eq_some_iff.1 hu).1
  rw [tcells_len] at hj
  have hi : j / 4 < ts.length := by omega
  have ht : ts[j / 4]? = some (ts[j / 4]'hi) := List.getElem?_eq_getElem _
  obtain ⟨e0, e1, e2, e3⟩ := hc _ _ ht
  obtain ⟨f0, f1, f2, f3⟩ := tcells_get ht
  have hk : j % 4 = 0 ∨ j % 4 = 1 ∨ j % 4 = 2 ∨ j % 4 = 3 := by omega
  rcases hk with hk | hk | hk | hk
  · have e : j = j / 4 * 4 := by omega
    rw [← e] at f0 e0; rw [e0, ← f0, hu]
  · have e : j = j / 4 * 4 + 1 := by omega
    rw [← e] at f1; rw [f1] at hu; cases hu; rw [show o + j = o + j / 4 * 4 + 1 by omega]; exact e1
  · have e : j = j / 4 * 4 + 2 := by omega
    rw [← e] at f2; rw [f2] at hu; cases hu; rw [show o + j = o + j / 4 * 4 + 2 by omega]; exact e2
  · have e : j = j / 4 * 4 + 3 := by omega
    rw [← e] at f3; rw [f3] at hu; cases hu; rw [show o + j = o + j / 4 * 4 + 3 by omega]; exact e3
theorem tcells_mem {ts : List TD} {x : Value} (h : x ∈ tcells ts) : NotU x ∧ x.oneCell' = true := by
  unfold tcells at h
  obtain ⟨t, _, ht⟩ := List.mem_flatMap.1 h
  exact ⟨term_notU t.v t.c.neg t.c.a1 t.c.a2 t.c.n1 t.c.c1 t.c.n2 t.c.c2 x ht, term_one t.v t.c.neg t.c.a1 t.c.a2 t.c.n1 t.c.c1 t.c.n2 t.c.c2 x ht⟩
end Go.Proofs.YtledagemcknlcaaGreat
