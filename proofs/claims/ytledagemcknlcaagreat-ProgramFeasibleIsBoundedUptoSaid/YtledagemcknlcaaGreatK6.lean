/- A region that draws its order, whose calls return a value that is the same in every later world and leave old memory as it is: one walk in the order of the text. A region that draws its order and ends with one store that waits for all else: a condition on the world that holds till that store. Loads that it gives are taken first, so the store may hit what they read. forms in memory: what a slice of terms and a form hold. linear.Valid: what the call returns. relucertref07.Valid: what the call returns. Canonical rational numbers: how long their limbs are, and what the calls return of them. linear.copied, linear.Coef, relucertref07.Coef: what each call returns. points in memory; linear.Eval, relucertref07.Eval: what each call returns. append onto a row of the call's own of whose cells something is known: other memory of another kind stays. linear.put: what the call returns. -/
import Derived.Test.YtledagemcknlcaaGreatK5
import Derived.BigGuard
import Derived.OrdersHeld
import Derived.Deep.RegionHeld
set_option linter.all false
namespace Go.Proofs.YtledagemcknlcaaGreat
open Go.RowKit

/-- a world in which all old memory of U is as it was -/
structure Up (U : World) where
  w : World
  below : Below U.heap.size U w
instance (U : World) : Nonempty (Up U) := ⟨⟨U, Below.refl _ _⟩⟩
theorem Up.cell {U : World} (x : Up U) (b o : Nat) (h : b < U.heap.size) : x.w.cell? ⟨b, o, none⟩ = U.cell? ⟨b, o, none⟩ := x.below.cell (p := ⟨b, o, none⟩) h
theorem Up.frozen {U : World} (x : Up U) (b o : Nat) (h : b < U.heap.size) : x.w.frozen? ⟨b, o, none⟩ = U.frozen? ⟨b, o, none⟩ := x.below.frozen (p := ⟨b, o, none⟩) h
theorem upcell (U : World) : (∀ (x : Up U) b o, b < U.heap.size → x.w.cell? ⟨b, o, none⟩ = U.cell? ⟨b, o, none⟩) ∧ (∀ (x : Up U) b o, b < U.heap.size → x.w.frozen? ⟨b, o, none⟩ = U.frozen? ⟨b, o, none⟩) := ⟨Up.cell, Up.frozen⟩

theorem wp_region_up {P : Program} {id : Nat} {Q : Exit → Act → World → Prop} {a : Act} {U : World} {l : List Oper} (hm : P.follows .mixedOrders = true) (hB : Region.lexB .any l.toArray = true)
    (h : wpQuiet P l.toArray (fun w' => ∃ x : Up U, w' = x.w) (fun a' => ∀ x : Up U, Q .normal a' x.w) l a) : (Code.region id l.toArray true).wp P Q a U :=
  wp_region_quiet (C := fun w' => ∃ x : Up U, w' = x.w) hm hB ⟨⟨U.drew, Below.drew (Below.refl _ _)⟩, rfl⟩ (by
    have e : (fun a' : Act => ∀ w', (∃ x : Up U, w' = x.w) → Q .normal a' w') = fun a' => ∀ x : Up U, Q .normal a' x.w := by
      funext a'
      exact propext ⟨fun h x => h _ ⟨x, rfl⟩, fun h _ ⟨x, e⟩ => e ▸ h x⟩
    rw [e]
    simpa using h)

theorem up_b {P : Program} {U : World} {x : Up U} {f : FuncId} {args : Array Value} {b : Bool} (h : Calls P f args x.w (RetB b x.w)) :
    Calls P f args x.w fun e w' => e = .returned (.bool b) ∧ ∃ x' : Up U, w' = x'.w :=
  h.mono fun _ w' ⟨he, hb⟩ => ⟨he, ⟨w', x.below.trans (hb.mono x.below.size)⟩, rfl⟩
theorem up_i {P : Program} {U : World} {x : Up U} {f : FuncId} {args : Array Value} {b : Int} (h : Calls P f args x.w (RetInt b x.w)) :
    Calls P f args x.w fun e w' => e = .returned (.int .i64 b) ∧ ∃ x' : Up U, w' = x'.w :=
  h.mono fun _ w' ⟨he, hb⟩ => ⟨he, ⟨w', x.below.trans (hb.mono x.below.size)⟩, rfl⟩
end Go.Proofs.YtledagemcknlcaaGreat
namespace Go.Proofs.YtledagemcknlcaaGreat
open Go.RowKit

section
variable {P : Program} {ops : Array Oper} {Q : Exit → Act → World → Prop} {md : Region.Mode} {S : World → Prop} {s : Nat}

/-- Whatever order is picked from here on, and S holds behind every operation but the last store, number s. -/
def wpT (P : Program) (md : Region.Mode) (ops : Array Oper) (Q : Exit → Act → World → Prop) (S : World → Prop) (s : Nat) : Nat → Array Bool → Act → World → Prop
  | 0, listed, a, w => Region.ready md ops listed = [] ∧ Q .normal a w
  | fuel + 1, listed, a, w =>
    (Region.ready md ops listed = [] → Q .normal a w) ∧
    ∀ i ∈ Region.ready md ops listed, wpOp P ops Q i (fun a' w' => (i ≠ s → S w') ∧ wpT P md ops Q S s fuel (listed.setIfInBounds i true) a' w') a w
theorem wpAny_of_T : ∀ (fuel : Nat) (listed : Array Bool) (a : Act) (w : World), wpT P md ops Q S s fuel listed a w → wpAny P md ops Q fuel listed a w
  | 0, _, _, _, h => h
  | fuel + 1, _, _, _, h => ⟨h.1, fun i hi => wpOp_mono (fun a' w' h' => wpAny_of_T fuel _ a' w' h'.2) (h.2 i hi)⟩
theorem wpT_first {i : Nat} {oi : Oper} {v : Value} (hi : ops[i]? = some oi) (his : i ≠ s) (hsel : ∀ (j : Nat) (o : Oper) cs b, ops[j]? = some o → o.op ≠ .select cs b)
    (hsink : ∀ o, ops[s]? = some o → ∃ e ∈ o.after, Region.binds md e = true ∧ e.on = i)
    (hQ : ∀ c a w, Q (.panic c) (a.put oi.dst v) w → Q (.panic c) a w) :
    ∀ (fuel : Nat) (listed : Array Bool) (a : Act) (w : World),
      (∀ j oj, ops[j]? = some oj → j ≠ i → listed.getD j true = false → (∀ e ∈ oj.after, Region.binds md e = true → e.on ≠ i) → oi.apart ops oj = true) →
      i ∈ Region.ready md ops listed → YieldsIf P ops S oi v a → S w →
      wpT P md ops Q S s fuel (listed.setIfInBounds i true) (a.put oi.dst v) w → wpT P md ops Q S s (fuel + 1) listed a w := by
  intro fuel
  induction fuel with
  | zero =>
    intro listed a w _ hr hy hS H
    refine ⟨fun h => (by rw [h] at hr; cases hr), fun j hj => ?_⟩
    by_cases hji : j = i
    · subst hji; exact hy.wpOp hi hS ⟨fun _ => hS, H⟩
    · have := ready_mono hj hji
      rw [H.1] at this
      cases this
  | succ fuel ih =>
    intro listed a w hfree hr hy hS H
    refine ⟨fun h => (by rw [h] at hr; cases hr), fun j hj => ?_⟩
    by_cases hji : j = i
    · subst hji; exact hy.wpOp hi hS ⟨fun _ => hS, H⟩
    · have h1 := H.2 j (ready_mono hj hji)
      obtain ⟨hjun, oj, hoj, hall⟩ := mem_ready.1 hj
      have hnot : ∀ e ∈ oj.after, Region.binds md e = true → e.on ≠ i := fun e he hb heq => by
        have h1 := hall e he hb
        have h0 := (mem_ready.1 hr).1
        rw [heq] at h1
        rcases Nat.lt_or_ge i listed.size with h' | h'
        · simp [h'] at h0 h1; rw [h0] at h1; cases h1
        · simp [Array.getElem?_eq_none h'] at h1
      have hjs : j ≠ s := fun e => by
        subst e
        obtain ⟨e, he, hb, ho⟩ := hsink oj hoj
        exact hnot e he hb ho
      have h2 := wpOp_putIf hoj (hfree j oj hoj hji hjun hnot) (fun cs b => hsel i oi cs b hi) (fun cs b => hsel j oj cs b hoj) hQ hy h1
      have hfree' : ∀ k ok, ops[k]? = some ok → k ≠ i → (listed.setIfInBounds j true).getD k true = false →
          (∀ e ∈ ok.after, Region.binds md e = true → e.on ≠ i) → oi.apart ops ok = true := fun k ok hk hki hun hno => by
        refine hfree k ok hk hki ?_ hno
        by_cases hjk : j = k
        · subst hjk; exact hjun
        · rw [Go.getD_set_ne true hjk] at hun; exact hun
      refine wpOp_mono (fun a' w' h3 => ⟨h3.2.1, ih (listed.setIfInBounds j true) a' w' hfree' (ready_mono hr (Ne.symm hji)) h3.1 (h3.2.1 hjs) ?_⟩) h2
      rw [Array.setIfInBounds_comm _ _ hji]
      exact h3.2.2
/-- number i may be taken first -/
def takeB (md : Region.Mode) (ops : Array Oper) (s : Nat) (listed : Array Bool) (i : Nat) : Bool :=
  i != s && Region.noSelect ops && Region.free md ops listed i && (Region.ready md ops listed).contains i && ((ops[s]?).map (·.after.any fun e => Region.binds md e && e.on == i)).getD false
theorem takeB_parts {listed : Array Bool} {i : Nat} (h : takeB md ops s listed i = true) : i ≠ s ∧ Region.noSelect ops = true ∧ Region.free md ops listed i = true ∧ i ∈ Region.ready md ops listed ∧ ∀ o, ops[s]? = some o → ∃ e ∈ o.after, Region.binds md e = true ∧ e.on = i := by
  simp only [takeB, Bool.and_eq_true, bne_iff_ne] at h
  obtain ⟨⟨⟨⟨h1, h2⟩, h3⟩, h4⟩, h5⟩ := h
  refine ⟨h1, h2, h3, by simpa using h4, fun o ho => ?_⟩
  rw [ho] at h5
  simp only [Option.map_some, Option.getD_some] at h5
  obtain ⟨e, he, hb⟩ := Array.any_eq_true'.1 h5
  simp only [Bool.and_eq_true, beq_iff_eq] at hb
  exact ⟨e, he, hb.1, hb.2⟩
theorem wpT_take (i : Nat) {oi : Oper} {v : Value} {fuel : Nat} {listed : Array Bool} {a : Act} {w : World} (hi : ops.toList[i]? = some oi) (hc : takeB md ops s listed i = true)
    (hQ : ∀ c a w, Q (.panic c) (a.put oi.dst v) w → Q (.panic c) a w) (hw : Region.wanted oi (yielded ops a.tmps) = true) (hS : S w) (hy : ∀ w, S w → (execOp a.eval oi).run P w = .ok (.value v) w)
    (h : wpT P md ops Q S s fuel (listed.setIfInBounds i true) (a.put oi.dst v) w) : wpT P md ops Q S s (fuel + 1) listed a w := by
  have hi' : ops[i]? = some oi := by rw [← hi]; simp
  obtain ⟨h1, h2, h3, h4, h5⟩ := takeB_parts hc
  exact wpT_first hi' h1 (Region.noSelect_spec h2) h5 hQ fuel listed a w (Region.free_spec hi' h3) h4 (.inl ⟨hw, hy⟩) hS h
theorem wpT_skip (i : Nat) {oi : Oper} {fuel : Nat} {listed : Array Bool} {a : Act} {w : World} (hi : ops.toList[i]? = some oi) (hc : takeB md ops s listed i = true)
    (hQ : ∀ c a w, Q (.panic c) (a.put oi.dst undef) w → Q (.panic c) a w) (hw : Region.wanted oi (yielded ops a.tmps) = false) (hS : S w)
    (h : wpT P md ops Q S s fuel (listed.setIfInBounds i true) (a.put oi.dst undef) w) : wpT P md ops Q S s (fuel + 1) listed a w := by
  have hi' : ops[i]? = some oi := by rw [← hi]; simp
  obtain ⟨h1, h2, h3, h4, h5⟩ := takeB_parts hc
  exact wpT_first hi' h1 (Region.noSelect_spec h2) h5 hQ fuel listed a w (Region.free_spec hi' h3) h4 (.inr ⟨hw, rfl⟩) hS h
/-- the one operation that may come up now -/
theorem wpT_only (i : Nat) {o : Oper} {fuel : Nat} {listed : Array Bool} {a : Act} {w : World} (hi : ops.toList[i]? = some o) (hr : Region.ready md ops listed = [i])
    (h : ∀ K' : Act → World → Prop, Shut (∀ a w, S w → (S w → wpT P md ops Q S s fuel (listed.setIfInBounds i true) a w) → K' a w) → if Region.wanted o (yielded ops a.tmps) = true then Oper.wp P o a w K' Q else K' (a.put o.dst undef) w) :
    wpT P md ops Q S s (fuel + 1) listed a w := by
  have hi' : ops[i]? = some o := by rw [← hi]; simp
  refine ⟨fun h0 => (by rw [h0] at hr; cases hr), fun j hj => ?_⟩
  rw [hr] at hj
  simp at hj
  subst hj
  exact wpOp_step hi' (fun K' hK => h K' (fun a w hS hW => hK a w ⟨fun _ => hS, hW hS⟩))
/-- the last store -/
theorem wpT_last (i : Nat) {o : Oper} {fuel : Nat} {listed : Array Bool} {a : Act} {w : World} (hi : ops.toList[i]? = some o) (hs : i = s) (hr : Region.ready md ops listed = [i])
    (h : ∀ K' : Act → World → Prop, Shut (∀ a w, wpT P md ops Q S s fuel (listed.setIfInBounds i true) a w → K' a w) → if Region.wanted o (yielded ops a.tmps) = true then Oper.wp P o a w K' Q else K' (a.put o.dst undef) w) :
    wpT P md ops Q S s (fuel + 1) listed a w := by
  have hi' : ops[i]? = some o := by rw [← hi]; simp
  refine ⟨fun h0 => (by rw [h0] at hr; cases hr), fun j hj => ?_⟩
  rw [hr] at hj
  simp at hj
  subst hj
  exact wpOp_step hi' (fun K' hK => h K' (fun a w hW => hK a w ⟨fun h => absurd hs h, hW⟩))
theorem wpT_done {listed : Array Bool} {a : Act} {w : World} (hr : Region.ready md ops listed = []) (h : Q .normal a w) : ∀ fuel, wpT P md ops Q S s fuel listed a w
  | 0 => ⟨hr, h⟩
  | _ + 1 => ⟨fun _ => h, by rw [hr]; simp⟩
theorem wp_region_T (s : Nat) (S : World → Prop) {id : Nat} {a : Act} {w : World} (hm : P.follows .mixedOrders = true) (hS : S w.drew)
    (h : S w.drew → wpT P .any ops Q S s ops.size (Array.replicate ops.size false) a w.drew) : (Code.region id ops true).wp P Q a w :=
  wp_region_any hm (wpAny_of_T _ _ _ _ (h hS))
end
end Go.Proofs.YtledagemcknlcaaGreat
namespace Go.Proofs.YtledagemcknlcaaGreat
open Go.RowKit

/-- a rational number in memory: its sign, its two slices, and the limbs that they hold -/
structure RD where
  neg : Bool
  a1 : Option Addr
  n1 : Nat
  c1 : Nat
  l1 : List Nat
  a2 : Option Addr
  n2 : Nat
  c2 : Nat
  l2 : List Nat
structure RD.In (r : RD) (w : World) : Prop where
  num : LimR w r.a1 r.n1 r.c1 r.l1
  den : LimR w r.a2 r.n2 r.c2 r.l2
def RD.q (r : RD) : Rat := sv r.neg r.l1 r.l2
def RD.Ok (r : RD) : Prop := RatV r.neg r.l1 r.l2
instance (r : RD) : Decidable r.Ok := by unfold RD.Ok; infer_instance
theorem RD.In.on {r : RD} {w w' : World} (h : r.In w) (hb : Below w.heap.size w w') : r.In w' := ⟨h.num.on hb, h.den.on hb⟩
/-- a term -/
structure TD where
  v : Int
  c : RD
/-- the slice reads as the terms ts -/
structure TermsR (w : World) (ad : Option Addr) (n c : Nat) (ts : List TD) : Prop where
  len : ts.length = n
  cap : n ≤ c
  ok : ∀ (i : Nat) (t : TD), ts[i]? = some t → t.c.In w
  cells : 0 < n → ∃ b o, ad = some ⟨b, o, none⟩ ∧ b < w.heap.size ∧ ∀ (i : Nat) (t : TD), ts[i]? = some t →
    w.cell? ⟨b, o + i * 4, none⟩ = some (.int .i64 t.v) ∧ w.cell? ⟨b, o + i * 4 + 1, none⟩ = some (.bool t.c.neg) ∧
    w.cell? ⟨b, o + i * 4 + 2, none⟩ = some (.slice t.c.a1 t.c.n1 t.c.c1) ∧ w.cell? ⟨b, o + i * 4 + 3, none⟩ = some (.slice t.c.a2 t.c.n2 t.c.c2)
theorem TermsR.on {w w' : World} {ad : Option Addr} {n c : Nat} {ts : List TD} (h : TermsR w ad n c ts) (hb : Below w.heap.size w w') : TermsR w' ad n c ts :=
  ⟨h.len, h.cap, fun i t ht => (h.ok i t ht).on hb, fun h0 => by
    obtain ⟨b, o, e, hlt, hc⟩ := h.cells h0
    refine ⟨b, o, e, Nat.lt_of_lt_of_le hlt hb.size, fun i t ht => ?_⟩
    obtain ⟨e0, e1, e2, e3⟩ := hc i t ht
    have f := fun k => hb.cell (p := ⟨b, k, none⟩) hlt
    exact ⟨(f _).trans e0, (f _).trans e1, (f _).trans e2, (f _).trans e3⟩⟩
/-- what is known of a term that is read -/
theorem TermsR.at_ {w : World} {ad : Option Addr} {n c : Nat} {ts : List TD} (h : TermsR w ad n c ts) {i : Nat} (hi : i < n) :
    ∃ b o t, ad = some ⟨b, o, none⟩ ∧ b < w.heap.size ∧ Hid (ts[i]? = some t) ∧ t.c.In w ∧ w.cell? ⟨b, o + i * 4, none⟩ = some (.int .i64 t.v) ∧ w.cell? ⟨b, o + i * 4 + 1, none⟩ = some (.bool t.c.neg) ∧
    w.cell? ⟨b, o + i * 4 + 2, none⟩ = some (.slice t.c.a1 t.c.n1 t.c.c1) ∧ w.cell? ⟨b, o + i * 4 + 3, none⟩ = some (.slice t.c.a2 t.c.n2 t.c.c2) := by
  obtain ⟨b, o, e, hb, hc⟩ := h.cells (by omega)
  have hl := h.len
  have ht : ts[i]? = some (ts[i]'(by omega)) := List.getElem?_eq_getElem _
  exact ⟨b, o, _, e, hb, ht, h.ok _ _ ht, hc _ _ ht⟩
/-- the limbs of all numbers of the terms are few -/
def Few (m : Nat) (r : RD) : Prop := r.n1 ≤ m ∧ r.n2 ≤ m
/-- term i of a form is as it should be -/
def TermV (ts : List TD) (vars : Int) (i : Nat) : Prop := ∀ t, ts[i]? = some t → 0 ≤ t.v ∧ t.v < vars ∧ (∀ (j : Nat) (u : TD), i = j + 1 → ts[j]? = some u → u.v < t.v) ∧ sgR t.c.q ≠ 0 ∧ t.c.Ok
def FormV (ts : List TD) (k : RD) (vars : Int) : Prop := (∀ i, TermV ts vars i) ∧ k.Ok
noncomputable instance (ts : List TD) (k : RD) (vars : Int) : Decidable (FormV ts k vars) := Classical.propDecidable _
theorem formV_no {ts : List TD} {k : RD} {vars : Int} {i : Nat} (h : ¬ TermV ts vars i) : decide (FormV ts k vars) = false := decide_eq_false (fun h9 => h (h9.1 i))
theorem formV_end {ts : List TD} {k : RD} {vars : Int} (h : ∀ i, i < ts.length → TermV ts vars i) : decide (RatV k.neg k.l1 k.l2) = decide (FormV ts k vars) :=
  decide_eq_decide.2 ⟨fun hk => ⟨fun i => (Nat.lt_or_ge i ts.length).elim (h i) (fun h1 t ht => by rw [List.getElem?_eq_none h1] at ht; cases ht), hk⟩, fun h9 => h9.2⟩

end Go.Proofs.YtledagemcknlcaaGreat
namespace Go.Proofs.YtledagemcknlcaaGreat
open Go.RowKit

set_option maxRecDepth 100000 in
set_option maxHeartbeats 6400000 in
theorem lvalid_any (w : World) {ad : Option Addr} {n c : Nat} {ts : List TD} {k : RD} {vars : Int} (h : TermsR w ad n c ts) (hk : k.In w) (hn : n ≤ 17592186044416) (hf : ∀ (i : Nat) (t : TD), ts[i]? = some t → Few 1099511627776 t.c) (hfk : Few 1099511627776 k) :
    Calls Tryz.prog 55 #[.agg #[.slice ad n c, .bool k.neg, .slice k.a1 k.n1 k.c1, .slice k.a2 k.n2 k.c2], .int .i64 vars] w (RetB (decide (FormV ts k vars)) w) := by
  have hP := Pro1.mk' w #[.slice ad n c, .bool k.neg, .slice k.a1 k.n1 k.c1, .slice k.a2 k.n2 k.c2] 29
  go_enter Tryz.func55, Tryz.ntmps55
  go_upto_region 1 with (fail)
  generalize w.alloc (.cells #[.slice ad n c, .bool k.neg, .slice k.a1 k.n1 k.c1, .slice k.a2 k.n2 k.c2] 29) = W at *
  have k00 := hP.b0.cell 0
  have k01 := hP.b0.cell 1
  have k02 := hP.b0.cell 2
  have k03 := hP.b0.cell 3
  have z0 := hP.b0.lt
  simp at k00 k01 k02 k03
  have g := h.on hP.below
  have gk := hk.on hP.below
  have hPb := hP.below
  have HPS := Lib.hid hP.size
  have HF := Lib.hid hf
  have HFK := Lib.hid hfk
  have HL := Lib.hid h.len
  clear hP h hk hf hfk
  go_wp2_with fail
  go_loopw [10] (fun s10 wr => ∃ i, i ≤ n ∧ s10 = .int .i64 (i : Nat) ∧ Hid (∀ j, j < i → TermV ts vars j) ∧ Below W.heap.size W wr) (fun i _ => n - (intOf i).toNat)
  case atStart => exact ⟨0, by omega, rfl, (fun j hj => by omega : ∀ j, j < 0 → TermV ts vars j), Below.refl _ _⟩
  case round =>
    obtain ⟨i, hi, rfl, HI, hb⟩ := hrel
    obtain ⟨hcr, hfr⟩ := bcell hb
    by_cases hlt : i < n
    · obtain ⟨b, o, t, rfl, hbl, HT, gt, t0, t1, t2, t3⟩ := g.at_ hlt
      go_upto_region 4 with (fail)
      have hQ := Pro1.mk' wr #[.int .i64 t.v, .bool t.c.neg, .slice t.c.a1 t.c.n1 t.c.c1, .slice t.c.a2 t.c.n2 t.c.c2] 52
      generalize wr.alloc (.cells #[.int .i64 t.v, .bool t.c.neg, .slice t.c.a1 t.c.n1 t.c.c1, .slice t.c.a2 t.c.n2 t.c.c2] 52) = U at *
      have hbU : Below W.heap.size W U := hb.trans (hQ.below.mono hb.size)
      have hwU : Below w.heap.size w U := hPb.trans (hbU.mono (by have := HPS.out; omega))
      obtain ⟨hcU, hfU⟩ := bcell hbU
      have u0 := hQ.b0.cell 0
      have u1 := hQ.b0.cell 1
      have u2 := hQ.b0.cell 2
      have u3 := hQ.b0.cell 3
      simp at u0 u1 u2 u3
      have uz := hQ.b0.lt
      have gU := gt.on hbU
      obtain ⟨hcx, hfx⟩ := upcell U
      have p0 : U.cell? ⟨w.heap.size, 0, none⟩ = some (.slice (some ⟨b, o, none⟩) n c) := by simp [*]
      have zU : w.heap.size < U.heap.size := Nat.lt_of_lt_of_le z0 hbU.size
      have HT2 : Hid (TermV ts vars i ↔ (0 ≤ t.v ∧ t.v < vars ∧ (∀ (j : Nat) (u : TD), i = j + 1 → ts[j]? = some u → u.v < t.v) ∧ sgR t.c.q ≠ 0 ∧ t.c.Ok)) := ⟨fun h => h t HT.out, fun h t' ht' => by have := HT.out.symm.trans ht'; cases this; exact h⟩
      clear hQ hcr hfr hcU hfU t0 t1 t2 t3 gt hPb
      by_cases e1 : t.v < 0
      · have HE : Hid (decide (FormV ts k vars) = false) := formV_no (i := i) (fun h => by have := (HT2.out.1 h).1; omega)
        have d1 : decide (t.v < 0) = true := decide_eq_true e1
        go_quiet (fail)
        go_wp2_with fail
        go_ret
        exact retB_end HE.out.symm (hwU.drewN _)
      · have d1 : decide (t.v < 0) = false := decide_eq_false e1
        by_cases e2 : vars ≤ t.v
        · have HE : Hid (decide (FormV ts k vars) = false) := formV_no (i := i) (fun h => by have := (HT2.out.1 h).2.1; omega)
          have d2 : decide (vars ≤ t.v) = true := decide_eq_true e2
          go_quiet (fail)
          go_wp2_with fail
          go_ret
          exact retB_end HE.out.symm (hwU.drewN _)
        · have d2 : decide (vars ≤ t.v) = false := decide_eq_false e2
          obtain ⟨sg, hsg⟩ : ∃ sg, sgR t.c.q = sg := ⟨_, rfl⟩
          obtain ⟨vb, hvb⟩ : ∃ vb, decide t.c.Ok = vb := ⟨_, rfl⟩
          have hfew := HF.out i t HT.out
          have HSG : Hid (∀ w', t.c.In w' → Calls Tryz.prog 27 #[.agg #[.bool t.c.neg, .slice t.c.a1 t.c.n1 t.c.c1, .slice t.c.a2 t.c.n2 t.c.c2]] w' (RetInt sg w')) := fun w' h => by rw [← hsg]; exact rsign_any w' t.c.l2 h.num (by have := hfew.1; omega)
          have HVG : Hid (∀ w', t.c.In w' → Calls Tryz.prog 84 #[.agg #[.bool t.c.neg, .slice t.c.a1 t.c.n1 t.c.c1, .slice t.c.a2 t.c.n2 t.c.c2]] w' (RetB vb w')) := fun w' h => by rw [← hvb]; exact rvalid_any w' h.num h.den (by have := hfew.1; omega) (by have := hfew.2; omega)
          have HSQ := Lib.hid hsg
          have HVB := Lib.hid hvb
          clear hsg hvb hfew
          rcases Nat.eq_zero_or_pos i with h0 | h0
          · have gi1 : decide (0 < i) = false := decide_eq_false (by omega)
            have gi2 : decide ((0 : Int) < (i : Int)) = false := decide_eq_false (by omega)
            have HI0 : Hid (i = 0) := h0
            clear h0
            by_cases e4 : sg = 0
            · have HE : Hid (decide (FormV ts k vars) = false) := formV_no (i := i) (fun h => (HT2.out.1 h).2.2.2.1 (HSQ.out.trans e4))
              have d4 : (sg == 0) = true := by simp; exact e4
              clear e4
              refine wp_region_up (by kernel_rfl) (by kernel_rfl) ?_
              repeat (go_big_quiet_step ((go_at_call 27; exact up_i (HSG.out _ (gU.on (Up.below _))))))
              refine wpQuiet_nil ?_
              intro x
              go_wp2_with fail
              go_ret
              exact retB_end HE.out.symm (hwU.trans (x.below.mono hwU.size))
            · have d4 : (sg == 0) = false := by simp; exact e4
              cases vb with
              | false =>
                have HE : Hid (decide (FormV ts k vars) = false) := formV_no (i := i) (fun h => of_decide_eq_false HVB.out (HT2.out.1 h).2.2.2.2)
                refine wp_region_up (by kernel_rfl) (by kernel_rfl) ?_
                repeat (go_big_quiet_step ((first | (go_at_call 27; exact up_i (HSG.out _ (gU.on (Up.below _)))) | (go_at_call 84; exact up_b (HVG.out _ (gU.on (Up.below _)))))))
                refine wpQuiet_nil ?_
                intro x
                go_wp2_with fail
                go_ret
                exact retB_end HE.out.symm (hwU.trans (x.below.mono hwU.size))
              | true =>
                have HN : Hid (TermV ts vars (i)) := HT2.out.2 ⟨by omega, by omega, fun j u he hu => by have := HI0.out; omega, fun h => e4 (HSQ.out.symm.trans h), of_decide_eq_true HVB.out⟩
                refine wp_region_up (by kernel_rfl) (by kernel_rfl) ?_
                repeat (go_big_quiet_step ((first | (go_at_call 27; exact up_i (HSG.out _ (gU.on (Up.below _)))) | (go_at_call 84; exact up_b (HVG.out _ (gU.on (Up.below _)))))))
                refine wpQuiet_nil ?_
                intro x
                go_wp2_with fail
                go_roundw
                case rel => exact ⟨i + 1, by omega, by go_num, fun j' hj' => (Nat.lt_or_ge j' (i)).elim (HI.out j') (fun h9 => by have e9 : j' = i := (by omega); rw [e9]; exact HN.out), hbU.trans (x.below.mono hbU.size)⟩
                case measure => simp [intOf]; omega
          · obtain ⟨j, rfl⟩ : ∃ j, i = j + 1 := ⟨i - 1, by omega⟩
            obtain ⟨b', o', u, eb, hbl', HU, _, q0, _, _, _⟩ := g.at_ (show j < n by omega)
            obtain ⟨rfl, rfl⟩ : b = b' ∧ o = o' := by simpa using eb
            have q0' : U.cell? ⟨b, o + j * 4, none⟩ = some (.int .i64 u.v) := (hbU.cell (p := ⟨b, o + j * 4, none⟩) hbl).trans q0
            obtain ⟨pv, hpv⟩ : ∃ pv, u.v = pv := ⟨_, rfl⟩
            rw [hpv] at q0'
            have j1 : IntKind.i64.wrap (j : Int) = (j : Int) := IntWalk.i64_in _ (by omega)
            have j2 : (0 : Int) ≤ (j : Int) := by omega
            have j3 : (j : Int) < (n : Int) := by omega
            have zb : b < U.heap.size := Nat.lt_of_lt_of_le hbl hbU.size
            clear eb q0
            by_cases e3 : t.v ≤ pv
            · have HE : Hid (decide (FormV ts k vars) = false) := formV_no (i := j + 1) (fun h => by have := (HT2.out.1 h).2.2.1 j u rfl HU.out; omega)
              have d3 : decide (t.v ≤ pv) = true := decide_eq_true e3
              go_quiet (fail)
              go_wp2_with fail
              go_ret
              exact retB_end HE.out.symm (hwU.drewN _)
            · have d3 : decide (t.v ≤ pv) = false := decide_eq_false e3
              by_cases e4 : sg = 0
              · have HE : Hid (decide (FormV ts k vars) = false) := formV_no (i := j + 1) (fun h => (HT2.out.1 h).2.2.2.1 (HSQ.out.trans e4))
                have d4 : (sg == 0) = true := by simp; exact e4
                clear e4
                refine wp_region_up (by kernel_rfl) (by kernel_rfl) ?_
                repeat (go_big_quiet_step ((go_at_call 27; exact up_i (HSG.out _ (gU.on (Up.below _))))))
                refine wpQuiet_nil ?_
                intro x
                go_wp2_with fail
                go_ret
                exact retB_end HE.out.symm (hwU.trans (x.below.mono hwU.size))
              · have d4 : (sg == 0) = false := by simp; exact e4
                cases vb with
                | false =>
                  have HE : Hid (decide (FormV ts k vars) = false) := formV_no (i := j + 1) (fun h => of_decide_eq_false HVB.out (HT2.out.1 h).2.2.2.2)
                  refine wp_region_up (by kernel_rfl) (by kernel_rfl) ?_
                  repeat (go_big_quiet_step ((first | (go_at_call 27; exact up_i (HSG.out _ (gU.on (Up.below _)))) | (go_at_call 84; exact up_b (HVG.out _ (gU.on (Up.below _)))))))
                  refine wpQuiet_nil ?_
                  intro x
                  go_wp2_with fail
                  go_ret
                  exact retB_end HE.out.symm (hwU.trans (x.below.mono hwU.size))
                | true =>
                  have HN : Hid (TermV ts vars (j + 1)) := HT2.out.2 ⟨by omega, by omega, fun j' u' he hu => by have he2 : j = j' := (by omega); subst he2; have h9 := HU.out.symm.trans hu; cases h9; omega, fun h => e4 (HSQ.out.symm.trans h), of_decide_eq_true HVB.out⟩
                  refine wp_region_up (by kernel_rfl) (by kernel_rfl) ?_
                  repeat (go_big_quiet_step ((first | (go_at_call 27; exact up_i (HSG.out _ (gU.on (Up.below _)))) | (go_at_call 84; exact up_b (HVG.out _ (gU.on (Up.below _)))))))
                  refine wpQuiet_nil ?_
                  intro x
                  go_wp2_with fail
                  go_roundw
                  case rel => exact ⟨j + 1 + 1, by omega, by go_num, fun j' hj' => (Nat.lt_or_ge j' (j + 1)).elim (HI.out j') (fun h9 => by have e9 : j' = j + 1 := (by omega); rw [e9]; exact HN.out), hbU.trans (x.below.mono hbU.size)⟩
                  case measure => simp [intOf]; omega
    · have e : i = n := by omega
      subst e
      have HE := Lib.hid (formV_end (k := k) (vars := vars) (fun j hj => HI.out j (by rw [HL.out] at hj; exact hj)))
      have gkr := gk.on hb
      go_wp2_with fail
      refine (rvalid_any _ gkr.num gkr.den (by have := HFK.out.1; omega) (by have := HFK.out.2; omega)).mono ?_
      rintro e w5 ⟨rfl, hb5⟩
      rw [HE.out]
      go_wp2_with fail
      go_ret
      exact ⟨rfl, (hPb.trans (hb.mono (by have := HPS.out; omega))).trans (hb5.mono (by have := HPS.out; have := hb.size; omega))⟩
end Go.Proofs.YtledagemcknlcaaGreat
namespace Go.Proofs.YtledagemcknlcaaGreat
open Go.RowKit

set_option maxRecDepth 100000 in
set_option maxHeartbeats 6400000 in
theorem fvalidf_any (w : World) {ad : Option Addr} {n c : Nat} {ts : List TD} {k : RD} {vars : Int} (h : TermsR w ad n c ts) (hk : k.In w) (hn : n ≤ 17592186044416) (hf : ∀ (i : Nat) (t : TD), ts[i]? = some t → Few 1099511627776 t.c) (hfk : Few 1099511627776 k) :
    Calls Tryz.prog 56 #[.agg #[.slice ad n c, .bool k.neg, .slice k.a1 k.n1 k.c1, .slice k.a2 k.n2 k.c2], .int .i64 vars] w (RetB (decide (FormV ts k vars)) w) := by
  have hP := Pro1.mk' w #[.slice ad n c, .bool k.neg, .slice k.a1 k.n1 k.c1, .slice k.a2 k.n2 k.c2] 29
  go_enter Tryz.func56, Tryz.ntmps56
  go_upto_region 1 with (fail)
  generalize w.alloc (.cells #[.slice ad n c, .bool k.neg, .slice k.a1 k.n1 k.c1, .slice k.a2 k.n2 k.c2] 29) = W at *
  have k00 := hP.b0.cell 0
  have k01 := hP.b0.cell 1
  have k02 := hP.b0.cell 2
  have k03 := hP.b0.cell 3
  have z0 := hP.b0.lt
  simp at k00 k01 k02 k03
  have g := h.on hP.below
  have gk := hk.on hP.below
  have hPb := hP.below
  have HPS := Lib.hid hP.size
  have HF := Lib.hid hf
  have HFK := Lib.hid hfk
  have HL := Lib.hid h.len
  clear hP h hk hf hfk
  go_wp2_with fail
  go_loopw [5] (fun s10 wr => ∃ i, i ≤ n ∧ s10 = .int .i64 (i : Nat) ∧ Hid (∀ j, j < i → TermV ts vars j) ∧ Below W.heap.size W wr) (fun i _ => n - (intOf i).toNat)
  case atStart => exact ⟨0, by omega, rfl, (fun j hj => by omega : ∀ j, j < 0 → TermV ts vars j), Below.refl _ _⟩
  case round =>
    obtain ⟨i, hi, rfl, HI, hb⟩ := hrel
    obtain ⟨hcr, hfr⟩ := bcell hb
    by_cases hlt : i < n
    · obtain ⟨b, o, t, rfl, hbl, HT, gt, t0, t1, t2, t3⟩ := g.at_ hlt
      go_upto_region 5 with (fail)
      have hQ := Pro1.mk' wr #[.int .i64 t.v, .bool t.c.neg, .slice t.c.a1 t.c.n1 t.c.c1, .slice t.c.a2 t.c.n2 t.c.c2] 52
      generalize wr.alloc (.cells #[.int .i64 t.v, .bool t.c.neg, .slice t.c.a1 t.c.n1 t.c.c1, .slice t.c.a2 t.c.n2 t.c.c2] 52) = U at *
      have hbU : Below W.heap.size W U := hb.trans (hQ.below.mono hb.size)
      have hwU : Below w.heap.size w U := hPb.trans (hbU.mono (by have := HPS.out; omega))
      obtain ⟨hcU, hfU⟩ := bcell hbU
      have u0 := hQ.b0.cell 0
      have u1 := hQ.b0.cell 1
      have u2 := hQ.b0.cell 2
      have u3 := hQ.b0.cell 3
      simp at u0 u1 u2 u3
      have uz := hQ.b0.lt
      have gU := gt.on hbU
      obtain ⟨hcx, hfx⟩ := upcell U
      have p0 : U.cell? ⟨w.heap.size, 0, none⟩ = some (.slice (some ⟨b, o, none⟩) n c) := by simp [*]
      have zU : w.heap.size < U.heap.size := Nat.lt_of_lt_of_le z0 hbU.size
      have HT2 : Hid (TermV ts vars i ↔ (0 ≤ t.v ∧ t.v < vars ∧ (∀ (j : Nat) (u : TD), i = j + 1 → ts[j]? = some u → u.v < t.v) ∧ sgR t.c.q ≠ 0 ∧ t.c.Ok)) := ⟨fun h => h t HT.out, fun h t' ht' => by have := HT.out.symm.trans ht'; cases this; exact h⟩
      clear hQ hcr hfr hcU hfU t0 t1 t2 t3 gt hPb
      by_cases e1 : t.v < 0
      · have HE : Hid (decide (FormV ts k vars) = false) := formV_no (i := i) (fun h => by have := (HT2.out.1 h).1; omega)
        have d1 : decide (t.v < 0) = true := decide_eq_true e1
        go_quiet (fail)
        go_wp2_with fail
        go_ret
        exact retB_end HE.out.symm (hwU.drewN _)
      · have d1 : decide (t.v < 0) = false := decide_eq_false e1
        by_cases e2 : vars ≤ t.v
        · have HE : Hid (decide (FormV ts k vars) = false) := formV_no (i := i) (fun h => by have := (HT2.out.1 h).2.1; omega)
          have d2 : decide (vars ≤ t.v) = true := decide_eq_true e2
          go_quiet (fail)
          go_wp2_with fail
          go_ret
          exact retB_end HE.out.symm (hwU.drewN _)
        · have d2 : decide (vars ≤ t.v) = false := decide_eq_false e2
          obtain ⟨sg, hsg⟩ : ∃ sg, sgR t.c.q = sg := ⟨_, rfl⟩
          obtain ⟨vb, hvb⟩ : ∃ vb, decide t.c.Ok = vb := ⟨_, rfl⟩
          have hfew := HF.out i t HT.out
          have HSG : Hid (∀ w', t.c.In w' → Calls Tryz.prog 12 #[.agg #[.bool t.c.neg, .slice t.c.a1 t.c.n1 t.c.c1, .slice t.c.a2 t.c.n2 t.c.c2]] w' (RetInt sg w')) := fun w' h => by rw [← hsg]; exact fsign_any w' t.c.l2 h.num (by have := hfew.1; omega)
          have HVG : Hid (∀ w', t.c.In w' → Calls Tryz.prog 80 #[.agg #[.bool t.c.neg, .slice t.c.a1 t.c.n1 t.c.c1, .slice t.c.a2 t.c.n2 t.c.c2]] w' (RetB vb w')) := fun w' h => by rw [← hvb]; exact fvalid_any w' h.num h.den (by have := hfew.1; omega) (by have := hfew.2; omega)
          have HSQ := Lib.hid hsg
          have HVB := Lib.hid hvb
          clear hsg hvb hfew
          rcases Nat.eq_zero_or_pos i with h0 | h0
          · have gi1 : decide (0 < i) = false := decide_eq_false (by omega)
            have gi2 : decide ((0 : Int) < (i : Int)) = false := decide_eq_false (by omega)
            have HI0 : Hid (i = 0) := h0
            clear h0
            by_cases e4 : sg = 0
            · have HE : Hid (decide (FormV ts k vars) = false) := formV_no (i := i) (fun h => (HT2.out.1 h).2.2.2.1 (HSQ.out.trans e4))
              have d4 : (sg == 0) = true := by simp; exact e4
              clear e4
              refine wp_region_up (by kernel_rfl) (by kernel_rfl) ?_
              repeat (go_big_quiet_step ((go_at_call 12; exact up_i (HSG.out _ (gU.on (Up.below _))))))
              refine wpQuiet_nil ?_
              intro x
              go_wp2_with fail
              go_ret
              exact retB_end HE.out.symm (hwU.trans (x.below.mono hwU.size))
            · have d4 : (sg == 0) = false := by simp; exact e4
              cases vb with
              | false =>
                have HE : Hid (decide (FormV ts k vars) = false) := formV_no (i := i) (fun h => of_decide_eq_false HVB.out (HT2.out.1 h).2.2.2.2)
                refine wp_region_up (by kernel_rfl) (by kernel_rfl) ?_
                repeat (go_big_quiet_step ((first | (go_at_call 12; exact up_i (HSG.out _ (gU.on (Up.below _)))) | (go_at_call 80; exact up_b (HVG.out _ (gU.on (Up.below _)))))))
                refine wpQuiet_nil ?_
                intro x
                go_wp2_with fail
                go_ret
                exact retB_end HE.out.symm (hwU.trans (x.below.mono hwU.size))
              | true =>
                have HN : Hid (TermV ts vars (i)) := HT2.out.2 ⟨by omega, by omega, fun j u he hu => by have := HI0.out; omega, fun h => e4 (HSQ.out.symm.trans h), of_decide_eq_true HVB.out⟩
                refine wp_region_up (by kernel_rfl) (by kernel_rfl) ?_
                repeat (go_big_quiet_step ((first | (go_at_call 12; exact up_i (HSG.out _ (gU.on (Up.below _)))) | (go_at_call 80; exact up_b (HVG.out _ (gU.on (Up.below _)))))))
                refine wpQuiet_nil ?_
                intro x
                go_wp2_with fail
                go_roundw
                case rel => exact ⟨i + 1, by omega, by go_num, fun j' hj' => (Nat.lt_or_ge j' (i)).elim (HI.out j') (fun h9 => by have e9 : j' = i := (by omega); rw [e9]; exact HN.out), hbU.trans (x.below.mono hbU.size)⟩
                case measure => simp [intOf]; omega
          · obtain ⟨j, rfl⟩ : ∃ j, i = j + 1 := ⟨i - 1, by omega⟩
            obtain ⟨b', o', u, eb, hbl', HU, _, q0, _, _, _⟩ := g.at_ (show j < n by omega)
            obtain ⟨rfl, rfl⟩ : b = b' ∧ o = o' := by simpa using eb
            have q0' : U.cell? ⟨b, o + j * 4, none⟩ = some (.int .i64 u.v) := (hbU.cell (p := ⟨b, o + j * 4, none⟩) hbl).trans q0
            obtain ⟨pv, hpv⟩ : ∃ pv, u.v = pv := ⟨_, rfl⟩
            rw [hpv] at q0'
            have j1 : IntKind.i64.wrap (j : Int) = (j : Int) := IntWalk.i64_in _ (by omega)
            have j2 : (0 : Int) ≤ (j : Int) := by omega
            have j3 : (j : Int) < (n : Int) := by omega
            have zb : b < U.heap.size := Nat.lt_of_lt_of_le hbl hbU.size
            clear eb q0
            by_cases e3 : t.v ≤ pv
            · have HE : Hid (decide (FormV ts k vars) = false) := formV_no (i := j + 1) (fun h => by have := (HT2.out.1 h).2.2.1 j u rfl HU.out; omega)
              have d3 : decide (t.v ≤ pv) = true := decide_eq_true e3
              go_quiet (fail)
              go_wp2_with fail
              go_ret
              exact retB_end HE.out.symm (hwU.drewN _)
            · have d3 : decide (t.v ≤ pv) = false := decide_eq_false e3
              by_cases e4 : sg = 0
              · have HE : Hid (decide (FormV ts k vars) = false) := formV_no (i := j + 1) (fun h => (HT2.out.1 h).2.2.2.1 (HSQ.out.trans e4))
                have d4 : (sg == 0) = true := by simp; exact e4
                clear e4
                refine wp_region_up (by kernel_rfl) (by kernel_rfl) ?_
                repeat (go_big_quiet_step ((go_at_call 12; exact up_i (HSG.out _ (gU.on (Up.below _))))))
                refine wpQuiet_nil ?_
                intro x
                go_wp2_with fail
                go_ret
                exact retB_end HE.out.symm (hwU.trans (x.below.mono hwU.size))
              · have d4 : (sg == 0) = false := by simp; exact e4
                cases vb with
                | false =>
                  have HE : Hid (decide (FormV ts k vars) = false) := formV_no (i := j + 1) (fun h => of_decide_eq_false HVB.out (HT2.out.1 h).2.2.2.2)
                  refine wp_region_up (by kernel_rfl) (by kernel_rfl) ?_
                  repeat (go_big_quiet_step ((first | (go_at_call 12; exact up_i (HSG.out _ (gU.on (Up.below _)))) | (go_at_call 80; exact up_b (HVG.out _ (gU.on (Up.below _)))))))
                  refine wpQuiet_nil ?_
                  intro x
                  go_wp2_with fail
                  go_ret
                  exact retB_end HE.out.symm (hwU.trans (x.below.mono hwU.size))
                | true =>
                  have HN : Hid (TermV ts vars (j + 1)) := HT2.out.2 ⟨by omega, by omega, fun j' u' he hu => by have he2 : j = j' := (by omega); subst he2; have h9 := HU.out.symm.trans hu; cases h9; omega, fun h => e4 (HSQ.out.symm.trans h), of_decide_eq_true HVB.out⟩
                  refine wp_region_up (by kernel_rfl) (by kernel_rfl) ?_
                  repeat (go_big_quiet_step ((first | (go_at_call 12; exact up_i (HSG.out _ (gU.on (Up.below _)))) | (go_at_call 80; exact up_b (HVG.out _ (gU.on (Up.below _)))))))
                  refine wpQuiet_nil ?_
                  intro x
                  go_wp2_with fail
                  go_roundw
                  case rel => exact ⟨j + 1 + 1, by omega, by go_num, fun j' hj' => (Nat.lt_or_ge j' (j + 1)).elim (HI.out j') (fun h9 => by have e9 : j' = j + 1 := (by omega); rw [e9]; exact HN.out), hbU.trans (x.below.mono hbU.size)⟩
                  case measure => simp [intOf]; omega
    · have e : i = n := by omega
      subst e
      have HE := Lib.hid (formV_end (k := k) (vars := vars) (fun j hj => HI.out j (by rw [HL.out] at hj; exact hj)))
      have gkr := gk.on hb
      go_wp2_with fail
      refine (fvalid_any _ gkr.num gkr.den (by have := HFK.out.1; omega) (by have := HFK.out.2; omega)).mono ?_
      rintro e w5 ⟨rfl, hb5⟩
      rw [HE.out]
      go_wp2_with fail
      go_ret
      exact ⟨rfl, (hPb.trans (hb.mono (by have := HPS.out; omega))).trans (hb5.mono (by have := HPS.out; have := hb.size; omega))⟩
end Go.Proofs.YtledagemcknlcaaGreat
namespace Go.Proofs.YtledagemcknlcaaGreat
open Go.RowKit

/-- how many limbs the numerator or the denominator has -/
def H (q : Rat) : Nat := max (lmb q.num.natAbs).length (lmb q.den).length
theorem H_mk (z : Int) {D : Nat} (hD : 0 < D) : H (mkRat z D) ≤ max (lmb z.natAbs).length (lmb D).length := by
  unfold H
  rw [Rat.num_mkRat, Rat.den_mkRat, if_neg (by omega), if_neg (by omega)]
  have h1 := lmb_len_mono (Int.natAbs_ediv_le_natAbs z ((D.gcd z.natAbs : Nat) : Int))
  have h2 := lmb_len_mono (Nat.div_le_self D (D.gcd z.natAbs))
  omega
theorem H_add (a b : Rat) : H (a + b) ≤ H a + H b + 1 := by
  have e := rat_add a.num b.num a.den_pos b.den_pos
  rw [Rat.mkRat_self, Rat.mkRat_self] at e
  rw [← e]
  have h0 := H_mk (a.num * b.den + b.num * a.den) (Nat.mul_pos a.den_pos b.den_pos)
  have e2 := lmb_len_mono (Int.natAbs_add_le (a.num * b.den) (b.num * a.den))
  rw [Int.natAbs_mul, Int.natAbs_mul, Int.natAbs_natCast, Int.natAbs_natCast] at e2
  have e3 := lmb_len_add (a.num.natAbs * b.den) (b.num.natAbs * a.den)
  have e4 := lmb_len_mul a.num.natAbs b.den
  have e5 := lmb_len_mul b.num.natAbs a.den
  have e6 := lmb_len_mul a.den b.den
  have u1 : (lmb a.num.natAbs).length ≤ H a := Nat.le_max_left _ _
  have u2 : (lmb a.den).length ≤ H a := Nat.le_max_right _ _
  have u3 : (lmb b.num.natAbs).length ≤ H b := Nat.le_max_left _ _
  have u4 : (lmb b.den).length ≤ H b := Nat.le_max_right _ _
  omega
theorem H_mul (a b : Rat) : H (a * b) ≤ H a + H b := by
  have e := Rat.mkRat_mul_mkRat a.num b.num a.den b.den
  rw [Rat.mkRat_self, Rat.mkRat_self] at e
  rw [e]
  have h0 := H_mk (a.num * b.num) (Nat.mul_pos a.den_pos b.den_pos)
  rw [Int.natAbs_mul] at h0
  have e4 := lmb_len_mul a.num.natAbs b.num.natAbs
  have e6 := lmb_len_mul a.den b.den
  have u1 : (lmb a.num.natAbs).length ≤ H a := Nat.le_max_left _ _
  have u2 : (lmb a.den).length ≤ H a := Nat.le_max_right _ _
  have u3 : (lmb b.num.natAbs).length ≤ H b := Nat.le_max_left _ _
  have u4 : (lmb b.den).length ≤ H b := Nat.le_max_right _ _
  omega
theorem H_neg (a : Rat) : H (-a) = H a := by unfold H; rw [Rat.neg_num, Rat.neg_den, Int.natAbs_neg]
theorem H_zero : H 0 = 1 := by unfold H; simp [lmb_one]
theorem H_pos (a : Rat) : 1 ≤ H a := by
  have : (lmb a.den).length ≠ 0 := fun h => by have := lmb_len_zero.1 h; have := a.den_pos; omega
  have u2 : (lmb a.den).length ≤ H a := Nat.le_max_right _ _
  omega
theorem dlmb_len (d : Nat) : (dlmb d).length ≤ (lmb d).length := by unfold dlmb; split <;> simp
section
variable {w : World} {neg : Bool} {a1 a2 : Option Addr} {n1 c1 n2 c2 : Nat} {q : Rat}
theorem RatC.n1_le (h : RatC w neg a1 n1 c1 a2 n2 c2 q) : n1 ≤ H q := by rw [← h.num.len]; exact Nat.le_max_left _ _
theorem RatC.n2_le (h : RatC w neg a1 n1 c1 a2 n2 c2 q) : n2 ≤ H q := by
  rw [← h.den.len]; exact Nat.le_trans (dlmb_len _) (Nat.le_max_right _ _)
theorem RatC.H_le (h : RatC w neg a1 n1 c1 a2 n2 c2 q) : H q ≤ max n1 (n2 + 1) := by
  have h1 := h.num.len
  have h2 := h.den.len
  unfold H
  unfold dlmb at h2
  split at h2
  · rename_i e; rw [e, lmb_one, List.length_singleton]; omega
  · omega
end
theorem sgR_eq_zero {q : Rat} : sgR q = 0 ↔ q = 0 := by
  unfold sgR
  rw [Int.sign_eq_zero_iff_zero, Rat.num_eq_zero]

theorem radd_c (w : World) {s1 s2 : Bool} {a1 a2 a3 a4 : Option Addr} {n1 n2 n3 n4 c1 c2 c3 c4 : Nat} {p q : Rat} (h1 : RatC w s1 a1 n1 c1 a2 n2 c2 p) (h2 : RatC w s2 a3 n3 c3 a4 n4 c4 q) (hp : H p ≤ 274877906944) (hq : H q ≤ 274877906944) :
    Calls Tryz.prog 81 #[.agg #[.bool s1, .slice a1 n1 c1, .slice a2 n2 c2], .agg #[.bool s2, .slice a3 n3 c3, .slice a4 n4 c4]] w (RetR (p + q) w) := by
  have := radd_any (s1 := s1) (s2 := s2) w h1.num h1.den h2.num h2.den (by have := h1.n1_le; omega) (by have := h1.n2_le; omega) (by have := h2.n1_le; omega) (by have := h2.n2_le; omega)
  rwa [h1.sv_, h2.sv_] at this
theorem rmul_c (w : World) {s1 s2 : Bool} {a1 a2 a3 a4 : Option Addr} {n1 n2 n3 n4 c1 c2 c3 c4 : Nat} {p q : Rat} (h1 : RatC w s1 a1 n1 c1 a2 n2 c2 p) (h2 : RatC w s2 a3 n3 c3 a4 n4 c4 q) (hp : H p ≤ 274877906944) (hq : H q ≤ 274877906944) :
    Calls Tryz.prog 82 #[.agg #[.bool s1, .slice a1 n1 c1, .slice a2 n2 c2], .agg #[.bool s2, .slice a3 n3 c3, .slice a4 n4 c4]] w (RetR (p * q) w) := by
  have := rmul_any (s1 := s1) (s2 := s2) w h1.num h1.den h2.num h2.den (by have := h1.n1_le; omega) (by have := h1.n2_le; omega) (by have := h2.n1_le; omega) (by have := h2.n2_le; omega)
  rwa [h1.sv_, h2.sv_] at this
theorem rneg_c (w : World) {s1 : Bool} {a1 a2 : Option Addr} {n1 n2 c1 c2 : Nat} {p : Rat} (h1 : RatC w s1 a1 n1 c1 a2 n2 c2 p) (hp : H p ≤ 274877906944) :
    Calls Tryz.prog 28 #[.agg #[.bool s1, .slice a1 n1 c1, .slice a2 n2 c2]] w (RetR (-p) w) := by
  have := rneg_any (neg := s1) w h1.num h1.den (by have := h1.n1_le; omega) (by have := h1.n2_le; omega)
  rwa [h1.sv_] at this
theorem canon_c (w : World) {s1 : Bool} {a1 a2 : Option Addr} {n1 n2 c1 c2 : Nat} {p : Rat} (h1 : RatC w s1 a1 n1 c1 a2 n2 c2 p) (hp : H p ≤ 274877906944) :
    Calls Tryz.prog 59 #[.agg #[.bool s1, .slice a1 n1 c1, .slice a2 n2 c2]] w (RetR p w) := by
  have := canon_any (neg := s1) w h1.num h1.den (by have := h1.n1_le; omega) (by have := h1.n2_le; omega)
  rwa [h1.sv_] at this
theorem rsign_c (w : World) {s1 : Bool} {a1 a2 : Option Addr} {n1 n2 c1 c2 : Nat} {p : Rat} (h1 : RatC w s1 a1 n1 c1 a2 n2 c2 p) (hp : H p ≤ 274877906944) :
    Calls Tryz.prog 27 #[.agg #[.bool s1, .slice a1 n1 c1, .slice a2 n2 c2]] w (RetInt (sgR p) w) := by
  have := rsign_any (a2 := a2) (n2 := n2) (c2 := c2) (neg := s1) w (dlmb p.den) h1.num (by have := h1.n1_le; omega)
  rwa [h1.sv_] at this
theorem frmul_c (w : World) {s1 s2 : Bool} {a1 a2 a3 a4 : Option Addr} {n1 n2 n3 n4 c1 c2 c3 c4 : Nat} {p q : Rat} (h1 : RatC w s1 a1 n1 c1 a2 n2 c2 p) (h2 : RatC w s2 a3 n3 c3 a4 n4 c4 q) (hp : H p ≤ 274877906944) (hq : H q ≤ 274877906944) :
    Calls Tryz.prog 66 #[.agg #[.bool s1, .slice a1 n1 c1, .slice a2 n2 c2], .agg #[.bool s2, .slice a3 n3 c3, .slice a4 n4 c4]] w (RetR (p * q) w) := by
  have := frmul_any (s1 := s1) (s2 := s2) w h1.num h1.den h2.num h2.den (by have := h1.n1_le; omega) (by have := h1.n2_le; omega) (by have := h2.n1_le; omega) (by have := h2.n2_le; omega)
  rwa [h1.sv_, h2.sv_] at this
theorem fradd_c (w : World) {s1 s2 : Bool} {a1 a2 a3 a4 : Option Addr} {n1 n2 n3 n4 c1 c2 c3 c4 : Nat} {p q : Rat} (h1 : RatC w s1 a1 n1 c1 a2 n2 c2 p) (h2 : RatC w s2 a3 n3 c3 a4 n4 c4 q) (hp : H p ≤ 274877906944) (hq : H q ≤ 274877906944) :
    Calls Tryz.prog 13 #[.agg #[.bool s1, .slice a1 n1 c1, .slice a2 n2 c2], .agg #[.bool s2, .slice a3 n3 c3, .slice a4 n4 c4]] w (RetR (p + q) w) := by
  have := fradd_any (s1 := s1) (s2 := s2) w h1.num h1.den h2.num h2.den (by have := h1.n1_le; omega) (by have := h1.n2_le; omega) (by have := h2.n1_le; omega) (by have := h2.n2_le; omega)
  rwa [h1.sv_, h2.sv_] at this
theorem frsub_c (w : World) {s1 s2 : Bool} {a1 a2 a3 a4 : Option Addr} {n1 n2 n3 n4 c1 c2 c3 c4 : Nat} {p q : Rat} (h1 : RatC w s1 a1 n1 c1 a2 n2 c2 p) (h2 : RatC w s2 a3 n3 c3 a4 n4 c4 q) (hp : H p ≤ 274877906944) (hq : H q ≤ 274877906944) :
    Calls Tryz.prog 53 #[.agg #[.bool s1, .slice a1 n1 c1, .slice a2 n2 c2], .agg #[.bool s2, .slice a3 n3 c3, .slice a4 n4 c4]] w (RetR (p - q) w) := by
  have := frsub_any (s1 := s1) (s2 := s2) w h1.num h1.den h2.num h2.den (by have := h1.n1_le; omega) (by have := h1.n2_le; omega) (by have := h2.n1_le; omega) (by have := h2.n2_le; omega)
  rwa [h1.sv_, h2.sv_] at this
theorem fneg_c (w : World) {s1 : Bool} {a1 a2 : Option Addr} {n1 n2 c1 c2 : Nat} {p : Rat} (h1 : RatC w s1 a1 n1 c1 a2 n2 c2 p) (hp : H p ≤ 274877906944) :
    Calls Tryz.prog 34 #[.agg #[.bool s1, .slice a1 n1 c1, .slice a2 n2 c2]] w (RetR (-p) w) := by
  have := fneg_any (neg := s1) w h1.num h1.den (by have := h1.n1_le; omega) (by have := h1.n2_le; omega)
  rwa [h1.sv_] at this
theorem fcanon_c (w : World) {s1 : Bool} {a1 a2 : Option Addr} {n1 n2 c1 c2 : Nat} {p : Rat} (h1 : RatC w s1 a1 n1 c1 a2 n2 c2 p) (hp : H p ≤ 274877906944) :
    Calls Tryz.prog 64 #[.agg #[.bool s1, .slice a1 n1 c1, .slice a2 n2 c2]] w (RetR p w) := by
  have := fcanon_any (neg := s1) w h1.num h1.den (by have := h1.n1_le; omega) (by have := h1.n2_le; omega)
  rwa [h1.sv_] at this
theorem fsign_c (w : World) {s1 : Bool} {a1 a2 : Option Addr} {n1 n2 c1 c2 : Nat} {p : Rat} (h1 : RatC w s1 a1 n1 c1 a2 n2 c2 p) (hp : H p ≤ 274877906944) :
    Calls Tryz.prog 12 #[.agg #[.bool s1, .slice a1 n1 c1, .slice a2 n2 c2]] w (RetInt (sgR p) w) := by
  have := fsign_any (a2 := a2) (n2 := n2) (c2 := c2) (neg := s1) w (dlmb p.den) h1.num (by have := h1.n1_le; omega)
  rwa [h1.sv_] at this
theorem frcmp_c (w : World) {s1 s2 : Bool} {a1 a2 a3 a4 : Option Addr} {n1 n2 n3 n4 c1 c2 c3 c4 : Nat} {p q : Rat} (h1 : RatC w s1 a1 n1 c1 a2 n2 c2 p) (h2 : RatC w s2 a3 n3 c3 a4 n4 c4 q) (hp : H p ≤ 274877906944) (hq : H q ≤ 274877906944) :
    Calls Tryz.prog 17 #[.agg #[.bool s1, .slice a1 n1 c1, .slice a2 n2 c2], .agg #[.bool s2, .slice a3 n3 c3, .slice a4 n4 c4]] w (RetInt (sgR (p - q)) w) := by
  have := frcmp_any (s1 := s1) (s2 := s2) w h1.num h1.den h2.num h2.den (by have := h1.n1_le; omega) (by have := h1.n2_le; omega) (by have := h2.n1_le; omega) (by have := h2.n2_le; omega)
  rwa [h1.sv_, h2.sv_] at this
end Go.Proofs.YtledagemcknlcaaGreat
namespace Go.Proofs.YtledagemcknlcaaGreat
open Go.RowKit

theorem lmb_dlmb {d : Nat} : lmb (val (dlmb d)) = dlmb d := by
  unfold dlmb
  split
  · rfl
  · rw [val_lmb]

set_option maxRecDepth 100000 in
set_option maxHeartbeats 3200000 in
theorem copied_c (w : World) {neg : Bool} {a1 a2 : Option Addr} {n1 n2 c1 c2 : Nat} {q : Rat} (h : RatC w neg a1 n1 c1 a2 n2 c2 q) (hq : H q ≤ 274877906944) :
    Calls Tryz.prog 62 #[.agg #[.bool neg, .slice a1 n1 c1, .slice a2 n2 c2]] w (RetR q w) := by
  have hn1 : n1 ≤ 274877906944 := by have := h.n1_le; omega
  have hn2 : n2 ≤ 274877906944 := by have := h.n2_le; omega
  have hP := Pro2.mk' w #[.bool neg, .slice a1 n1 c1, .slice a2 n2 c2] #[.bool false, .slice none 0 0, .slice none 0 0] 27 27
  go_enter Tryz.func62, Tryz.ntmps62
  go_upto_region 1 with (fail)
  generalize (w.alloc (.cells #[.bool neg, .slice a1 n1 c1, .slice a2 n2 c2] 27)).alloc (.cells #[.bool false, .slice none 0 0, .slice none 0 0] 27) = W at *
  have k00 := hP.b0.cell 0
  have f00 := hP.b0.frozen 0
  have k01 := hP.b0.cell 1
  have f01 := hP.b0.frozen 1
  have k02 := hP.b0.cell 2
  have f02 := hP.b0.frozen 2
  have z0 := hP.b0.lt
  have k10 := hP.b1.cell 0
  have f10 := hP.b1.frozen 0
  have k11 := hP.b1.cell 1
  have f11 := hP.b1.frozen 1
  have k12 := hP.b1.cell 2
  have f12 := hP.b1.frozen 2
  have z1 := hP.b1.lt
  simp at k00 k01 k02 k10 k11 k12
  have hw0 : Below W.heap.size W W.drew := Below.drew (Below.refl _ _)
  have g1 := h.num.on hP.below
  have g2 := h.den.on hP.below
  have HPS := Lib.hid hP.size
  have hPb := hP.below
  have HSG := h.sign
  clear hP h hq
  go_region_held3 (fun w' => w'.cell? ⟨w.heap.size, 0, none⟩ = some (.bool neg) ∧ w'.cell? ⟨w.heap.size, 1, none⟩ = some (.slice a1 n1 c1) ∧ w'.cell? ⟨w.heap.size, 2, none⟩ = some (.slice a2 n2 c2))
    (go_keep)
    (first
      | (go_at_call_of 91 (Value.slice a1 n1 c1); refine (nmake_any _ (g1.on hw0) (by omega)).mono ?_; rintro e w3 ⟨a3, n3, c3, rfl, g3, hb3'⟩; have hb3 : Below W.heap.size W w3 := hw0.trans hb3'; obtain ⟨hc3, hf3⟩ := bcell hb3)
      | (go_at_call_of 91 (Value.slice a2 n2 c2); refine (nmake_any _ (g2.on hb3) (by omega)).mono ?_; rintro e w4 ⟨a4, n4, c4, rfl, g4, hb4'⟩; have g5 := g3.on hb4'; have hb4 : Below W.heap.size W w4 := hb3.trans (hb4'.mono hb3.size); obtain ⟨hc4, hf4⟩ := bcell hb4))
  go_wp2_with fail
  rw [val_lmb] at g5
  rw [lmb_dlmb] at g4
  have g6 : RatC w4 neg a3 n3 c3 a4 n4 c4 q := ⟨HSG, g5, g4⟩
  exact bodyPost_ret (v := .agg #[.bool neg, .slice a3 n3 c3, .slice a4 n4 c4]) (by simp [results, Tryz.results62, go_sem, *]) rfl
    ⟨_, _, _, _, _, _, _, rfl, g6.box27 (B := w.heap.size + 1) (x := false) (a := none) (a' := none) (m := 0) (k := 0) (m' := 0) (k' := 0) (by simp [*]) (by simp [*]) (by simp [*]) _ _ _, below_box27 (hPb.trans (hb4.mono (by have := HPS.out; omega))) (by omega) _ _ _⟩

/-- the coefficient of a variable -/
def coefT : List TD → Int → Rat
  | [], _ => 0
  | t :: ts, v => if t.v = v then t.c.q else coefT ts v
theorem coefT_no {ts : List TD} {v : Int} (h : ∀ (j : Nat) (t : TD), ts[j]? = some t → t.v ≠ v) : coefT ts v = 0 := by
  induction ts with
  | nil => rfl
  | cons t ts ih =>
    rw [coefT, if_neg (h 0 t rfl)]
    exact ih (fun j t' h' => h (j + 1) t' h')
theorem coefT_at {ts : List TD} {v : Int} {i : Nat} {t : TD} (ht : ts[i]? = some t) (hv : t.v = v) (h : ∀ (j : Nat) (t : TD), j < i → ts[j]? = some t → t.v ≠ v) : coefT ts v = t.c.q := by
  induction ts generalizing i with
  | nil => cases ht
  | cons u ts ih =>
    cases i with
    | zero => cases ht; rw [coefT, if_pos hv]
    | succ i =>
      rw [coefT, if_neg (h 0 u (by omega) rfl)]
      exact ih ht (fun j t' hj h' => h (j + 1) t' (by omega) h')
/-- a canonical number of few limbs in memory -/
def RD.C (r : RD) (w : World) (q : Rat) : Prop := RatC w r.neg r.a1 r.n1 r.c1 r.a2 r.n2 r.c2 q
theorem RD.ok_c {r : RD} {w : World} (h : r.In w) (ho : r.Ok) : r.C w r.q :=
  ⟨ho.1, by have := h.num; rwa [ho.2.1] at this, by have := h.den; rwa [ho.2.2] at this⟩
theorem RD.C.on {r : RD} {w w' : World} {q : Rat} (h : r.C w q) (hb : Below w.heap.size w w') : r.C w' q := RatC.on h hb
/-- all numbers of the terms are canonical and have at most m limbs -/
def OkT (m : Nat) (ts : List TD) : Prop := ∀ (i : Nat) (t : TD), ts[i]? = some t → t.c.Ok ∧ H t.c.q ≤ m

set_option maxRecDepth 100000 in
set_option maxHeartbeats 3200000 in
theorem lcoef_c (w : World) {ad : Option Addr} {n c : Nat} {ts : List TD} {k : RD} (v : Int) (h : TermsR w ad n c ts) (hn : n ≤ 17592186044416) (ho : OkT 274877906944 ts) :
    Calls Tryz.prog 31 #[.agg #[.slice ad n c, .bool k.neg, .slice k.a1 k.n1 k.c1, .slice k.a2 k.n2 k.c2], .int .i64 v] w (RetR (coefT ts v) w) := by
  have hP := Pro2.mk' w #[.slice ad n c, .bool k.neg, .slice k.a1 k.n1 k.c1, .slice k.a2 k.n2 k.c2] #[.bool false, .slice none 0 0, .slice none 0 0] 29 27
  go_enter Tryz.func31, Tryz.ntmps31
  go_upto_region 1 with (fail)
  generalize (w.alloc (.cells #[.slice ad n c, .bool k.neg, .slice k.a1 k.n1 k.c1, .slice k.a2 k.n2 k.c2] 29)).alloc (.cells #[.bool false, .slice none 0 0, .slice none 0 0] 27) = W at *
  have k00 := hP.b0.cell 0
  have z0 := hP.b0.lt
  simp at k00
  have hB := hP.b1
  have g := h.on hP.below
  have hPb := hP.below
  have HPS := Lib.hid hP.size
  have HO := Lib.hid ho
  have HL := Lib.hid h.len
  clear hP h ho
  go_wp2_with fail
  go_loopw [10] (fun s10 wr => ∃ i, i ≤ n ∧ s10 = .int .i64 (i : Nat) ∧ Hid (∀ (j : Nat) (t : TD), j < i → ts[j]? = some t → t.v ≠ v) ∧ Below W.heap.size W wr) (fun i _ => n - (intOf i).toNat)
  case atStart => exact ⟨0, by omega, rfl, (fun j t hj => by omega : ∀ (j : Nat) (t : TD), j < 0 → ts[j]? = some t → t.v ≠ v), Below.refl _ _⟩
  case round =>
    obtain ⟨i, hi, rfl, HI, hb⟩ := hrel
    obtain ⟨hcr, hfr⟩ := bcell hb
    by_cases hlt : i < n
    · obtain ⟨b, o, t, rfl, hbl, HT, gt, t0, t1, t2, t3⟩ := g.at_ hlt
      go_upto_region 4 with (fail)
      have hQ := Pro1.mk' wr #[.int .i64 t.v, .bool t.c.neg, .slice t.c.a1 t.c.n1 t.c.c1, .slice t.c.a2 t.c.n2 t.c.c2] 52
      generalize wr.alloc (.cells #[.int .i64 t.v, .bool t.c.neg, .slice t.c.a1 t.c.n1 t.c.c1, .slice t.c.a2 t.c.n2 t.c.c2] 52) = U at *
      have hbU : Below W.heap.size W U := hb.trans (hQ.below.mono hb.size)
      obtain ⟨hcU, hfU⟩ := bcell hbU
      have u0 := hQ.b0.cell 0
      have u1 := hQ.b0.cell 1
      have u2 := hQ.b0.cell 2
      have u3 := hQ.b0.cell 3
      simp at u0 u1 u2 u3
      have gU := gt.on hbU
      clear hQ hcr hfr t0 t1 t2 t3 gt
      by_cases hv : t.v = v
      · have HV : Hid (coefT ts v = t.c.q) := coefT_at HT.out hv HI.out
        have e1 : (t.v == v) = true := by simp; exact hv
        have gC := RD.ok_c gU (HO.out i t HT.out).1
        have hHq := (HO.out i t HT.out).2
        clear hv
        go_wp2_with fail
        refine (copied_c U gC hHq).mono ?_
        rintro e w5 ⟨neg5, a5, n5, c5, a6, n6, c6, rfl, g5, hb5⟩
        have hb6 : Below W.heap.size W w5 := hbU.trans (hb5.mono hbU.size)
        have hB6 := hB.below hb6 hB.lt
        have k0 := hB6.cell 0
        have k1 := hB6.cell 1
        have k2 := hB6.cell 2
        have k3 := hB6.frozen 0
        have k4 := hB6.frozen 1
        have k5 := hB6.frozen 2
        have k6 := hB6.lt
        simp at k0 k1 k2
        go_wp2_with fail
        exact bodyPost_ret (v := .agg #[.bool neg5, .slice a5 n5 c5, .slice a6 n6 c6]) (by simp [results, Tryz.results31, go_sem, *]) rfl
          ⟨_, _, _, _, _, _, _, rfl, by rw [HV.out]; exact g5.box27 k0 k1 k2 _ _ _, below_box27 (hPb.trans (hb6.mono (by have := HPS.out; omega))) (by omega) _ _ _⟩
      · have e1 : (t.v == v) = false := by simp; exact hv
        have HV := Lib.hid hv
        clear hv
        go_wp2_with fail
        go_roundw
        case rel => exact ⟨i + 1, by omega, by go_num, (fun j' t' hj' ht' => (Nat.lt_or_ge j' i).elim (fun h9 => HI.out j' t' h9 ht') (fun h9 => by have e9 : j' = i := (by omega); rw [e9] at ht'; have := HT.out.symm.trans ht'; cases this; exact HV.out) : ∀ (j : Nat) (t : TD), j < i + 1 → ts[j]? = some t → t.v ≠ v), hbU⟩
        case measure => simp [intOf]; omega
    · have e : i = n := by omega
      have HV : Hid (coefT ts v = 0) := coefT_no (fun j t ht => HI.out j t (by have := (List.getElem?_eq_some_iff.1 ht).1; have := HL.out; omega) ht)
      subst e
      have hB6 := hB.below hb hB.lt
      have k0 := hB6.cell 0
      have k1 := hB6.cell 1
      have k2 := hB6.cell 2
      have k3 := hB6.frozen 0
      have k4 := hB6.frozen 1
      have k5 := hB6.frozen 2
      have k6 := hB6.lt
      simp at k0 k1 k2
      go_wp2_with fail
      exact bodyPost_ret (v := .agg #[.bool false, .slice none 0 0, .slice none 0 0]) (by simp [results, Tryz.results31, go_sem, *]) rfl
        ⟨_, _, _, _, _, _, _, rfl, by rw [HV.out]; exact (ratC_zero _).box27 k0 k1 k2 _ _ _, below_box27 (hPb.trans (hb.mono (by have := HPS.out; omega))) (by omega) _ _ _⟩
end Go.Proofs.YtledagemcknlcaaGreat
namespace Go.Proofs.YtledagemcknlcaaGreat
open Go.RowKit

/-- the slice reads as the numbers xs -/
structure PtR (w : World) (ad : Option Addr) (n c : Nat) (xs : List RD) : Prop where
  len : xs.length = n
  cap : n ≤ c
  ok : ∀ (i : Nat) (r : RD), xs[i]? = some r → r.In w
  cells : 0 < n → ∃ b o, ad = some ⟨b, o, none⟩ ∧ b < w.heap.size ∧ ∀ (i : Nat) (r : RD), xs[i]? = some r →
    w.cell? ⟨b, o + i * 3, none⟩ = some (.bool r.neg) ∧ w.cell? ⟨b, o + i * 3 + 1, none⟩ = some (.slice r.a1 r.n1 r.c1) ∧ w.cell? ⟨b, o + i * 3 + 2, none⟩ = some (.slice r.a2 r.n2 r.c2)
theorem PtR.on {w w' : World} {ad : Option Addr} {n c : Nat} {xs : List RD} (h : PtR w ad n c xs) (hb : Below w.heap.size w w') : PtR w' ad n c xs :=
  ⟨h.len, h.cap, fun i t ht => (h.ok i t ht).on hb, fun h0 => by
    obtain ⟨b, o, e, hlt, hc⟩ := h.cells h0
    refine ⟨b, o, e, Nat.lt_of_lt_of_le hlt hb.size, fun i t ht => ?_⟩
    obtain ⟨e0, e1, e2⟩ := hc i t ht
    have f := fun k => hb.cell (p := ⟨b, k, none⟩) hlt
    exact ⟨(f _).trans e0, (f _).trans e1, (f _).trans e2⟩⟩
theorem PtR.at_ {w : World} {ad : Option Addr} {n c : Nat} {xs : List RD} (h : PtR w ad n c xs) {i : Nat} (hi : i < n) :
    ∃ b o r, ad = some ⟨b, o, none⟩ ∧ b < w.heap.size ∧ Hid (xs[i]? = some r) ∧ r.In w ∧ w.cell? ⟨b, o + i * 3, none⟩ = some (.bool r.neg) ∧ w.cell? ⟨b, o + i * 3 + 1, none⟩ = some (.slice r.a1 r.n1 r.c1) ∧
    w.cell? ⟨b, o + i * 3 + 2, none⟩ = some (.slice r.a2 r.n2 r.c2) := by
  obtain ⟨b, o, e, hb, hc⟩ := h.cells (by omega)
  have hl := h.len
  have ht : xs[i]? = some (xs[i]'(by omega)) := List.getElem?_eq_getElem _
  exact ⟨b, o, _, e, hb, ht, h.ok _ _ ht, hc _ _ ht⟩
/-- all numbers are canonical and have at most m limbs -/
def OkP (m : Nat) (xs : List RD) : Prop := ∀ (i : Nat) (r : RD), xs[i]? = some r → r.Ok ∧ H r.q ≤ m
/-- all variables are those of a point of n numbers -/
def VarsIn (ts : List TD) (n : Nat) : Prop := ∀ (i : Nat) (t : TD), ts[i]? = some t → 0 ≤ t.v ∧ t.v < (n : Int)

/-- a coordinate -/
def ptq (xs : List RD) (v : Int) : Rat := (xs[v.toNat]?.map RD.q).getD 0
/-- the sum of the first i terms -/
def evN (ts : List TD) (xs : List RD) (q0 : Rat) : Nat → Rat
  | 0 => q0
  | i + 1 => evN ts xs q0 i + (ts[i]?.map fun t => t.c.q * ptq xs t.v).getD 0
theorem evN_step {ts : List TD} {xs : List RD} {q0 : Rat} {i j : Nat} {t : TD} {r : RD} (ht : ts[i]? = some t) (hv : t.v = (j : Int)) (hr : xs[j]? = some r) : evN ts xs q0 (i + 1) = evN ts xs q0 i + t.c.q * r.q := by
  rw [evN, ht]
  simp [ptq, hv, hr]
theorem ptq_H {xs : List RD} {m : Nat} (hx : OkP m xs) (v : Int) : H (ptq xs v) ≤ m + 1 := by
  unfold ptq
  rcases h : xs[v.toNat]? with _ | r
  · simp [H_zero]
  · simp; have := (hx _ r h).2; omega
theorem evN_H {ts : List TD} {xs : List RD} {q0 : Rat} {m : Nat} (ht : OkT m ts) (hx : OkP m xs) (h0 : H q0 ≤ m) (i : Nat) : H (evN ts xs q0 i) ≤ m + i * (2 * m + 3) := by
  induction i with
  | zero => simpa [evN] using h0
  | succ i ih =>
    rw [evN]
    have h1 := H_add (evN ts xs q0 i) ((ts[i]?.map fun t => t.c.q * ptq xs t.v).getD 0)
    have h2 : H ((ts[i]?.map fun t => t.c.q * ptq xs t.v).getD 0) ≤ 2 * m + 1 := by
      rcases h : ts[i]? with _ | t
      · simp [H_zero]
      · simp
        have := H_mul t.c.q (ptq xs t.v)
        have := (ht _ t h).2
        have := ptq_H hx t.v
        omega
    rw [Nat.add_mul]
    omega
section
variable {w : World} {g B : Nat} {t : TypeId} {cs : Array Value}
theorem Blk.setR {x y z : Value} (h : Blk w B t #[x, y, z]) (u v s : Value) : Blk (((w.setCell ⟨B, 0, none⟩ u).setCell ⟨B, 1, none⟩ v).setCell ⟨B, 2, none⟩ s) B t #[u, v, s] := by
  simpa using ((h.set_ 0 u).set_ 1 v).set_ 2 s
theorem Blk.farR (h : Blk w g t cs) (hne : g ≠ B) (u v s : Value) : Blk (((w.setCell ⟨B, 0, none⟩ u).setCell ⟨B, 1, none⟩ v).setCell ⟨B, 2, none⟩ s) g t cs :=
  ((h.far (p := ⟨B, 0, none⟩) hne u).far (p := ⟨B, 1, none⟩) hne v).far (p := ⟨B, 2, none⟩) hne s
theorem RatC.inR {neg x : Bool} {a1 a2 a a' : Option Addr} {n1 c1 n2 c2 m k m' k' : Nat} {q : Rat} (h : RatC w neg a1 n1 c1 a2 n2 c2 q) (hB : Blk w B t #[.bool x, .slice a m k, .slice a' m' k']) (u v s : Value) :
    RatC (((w.setCell ⟨B, 0, none⟩ u).setCell ⟨B, 1, none⟩ v).setCell ⟨B, 2, none⟩ s) neg a1 n1 c1 a2 n2 c2 q :=
  h.box27 (by simpa using hB.cell 0) (by simpa using hB.cell 1) (by simpa using hB.cell 2) u v s
end
/-- The call returns a rational number and no error. -/
def RetRE (q : Rat) (w : World) (e : Ending) (w' : World) : Prop :=
  ∃ neg a1 n1 c1 a2 n2 c2, e = .returned (.tuple #[.agg #[.bool neg, .slice a1 n1 c1, .slice a2 n2 c2], .int .i64 0]) ∧ RatC w' neg a1 n1 c1 a2 n2 c2 q ∧ Below w.heap.size w w'

set_option maxRecDepth 100000 in
set_option maxHeartbeats 6400000 in
theorem leval_c (w : World) {ad ad2 : Option Addr} {n c n2 cc : Nat} {ts : List TD} {k : RD} {xs : List RD} {m : Nat} (h : TermsR w ad n c ts) (hk : k.In w) (hx : PtR w ad2 n2 cc xs) (hn : n ≤ 65536) (hm : m ≤ 65536) (ho : OkT m ts) (hok : k.Ok) (hkm : H k.q ≤ m) (hox : OkP m xs) (hv : VarsIn ts n2) (hn2 : n2 ≤ 17592186044416) :
    Calls Tryz.prog 52 #[.agg #[.slice ad n c, .bool k.neg, .slice k.a1 k.n1 k.c1, .slice k.a2 k.n2 k.c2], .slice ad2 n2 cc] w (RetRE (evN ts xs k.q n) w) := by
  have hP := Pro3.mk' w #[.slice ad n c, .bool k.neg, .slice k.a1 k.n1 k.c1, .slice k.a2 k.n2 k.c2] #[.bool false, .slice none 0 0, .slice none 0 0] #[.bool k.neg, .slice k.a1 k.n1 k.c1, .slice k.a2 k.n2 k.c2] 29 27 27
  have HH := Lib.hid (evN_H ho hox hkm)
  go_enter Tryz.func52, Tryz.ntmps52
  go_upto_region 2 with (fail)
  generalize ((w.alloc (.cells #[.slice ad n c, .bool k.neg, .slice k.a1 k.n1 k.c1, .slice k.a2 k.n2 k.c2] 29)).alloc (.cells #[.bool false, .slice none 0 0, .slice none 0 0] 27)).alloc (.cells #[.bool k.neg, .slice k.a1 k.n1 k.c1, .slice k.a2 k.n2 k.c2] 27) = W at *
  have hA := hP.b0
  have hR := hP.b1
  have hY := hP.b2
  have k00 := hA.cell 0
  have z0 := hA.lt
  simp at k00
  have hPb := hP.below
  have gk := RD.ok_c (hk.on hP.below) hok
  have HL := Lib.hid h.len
  have HO := Lib.hid ho
  have HX := Lib.hid hox
  have HV := Lib.hid hv
  clear hP hk hok hkm ho hox hv
  go_wp2_with fail
  go_loopw [14] (fun s10 wr => ∃ i s1 a1 n1 c1 a2 n2 c2, i ≤ n ∧ s10 = .int .i64 (i : Nat) ∧ Blk wr w.heap.size 29 #[.slice ad n c, .bool k.neg, .slice k.a1 k.n1 k.c1, .slice k.a2 k.n2 k.c2] ∧ Blk wr (w.heap.size + 1) 27 #[.bool false, .slice none 0 0, .slice none 0 0] ∧ Blk wr (w.heap.size + 1 + 1) 27 #[.bool s1, .slice a1 n1 c1, .slice a2 n2 c2] ∧ RatC wr s1 a1 n1 c1 a2 n2 c2 (evN ts xs k.q i) ∧ Below w.heap.size w wr) (fun i _ => n - (intOf i).toNat)
  case atStart => exact ⟨0, _, _, _, _, _, _, _, by omega, rfl, hA, hR, hY, gk, hPb⟩
  case round =>
    clear hA hR hY gk hPb k00 z0
    obtain ⟨i, s1, a1, n1, c1, a2, n3, c2, hi, rfl, hA, hR, hY, gY, hb⟩ := hrel
    have hHY := HH.out i
    have hmul : i * (2 * m + 3) ≤ 65536 * (2 * 65536 + 3) := Nat.mul_le_mul (by omega) (by omega)
    have k00 := hA.cell 0
    have y0 := hY.cell 0
    have y1 := hY.cell 1
    have y2 := hY.cell 2
    have zA := hA.lt
    have zY := hY.lt
    simp at k00 y0 y1 y2
    by_cases hlt : i < n
    · obtain ⟨b, o, t, rfl, hbl, HT, gt, t0, t1, t2, t3⟩ := (h.on hb).at_ hlt
      obtain ⟨j, hj⟩ : ∃ j : Nat, t.v = (j : Int) := ⟨t.v.toNat, by have := (HV.out i t HT.out).1; omega⟩
      have hjn : j < n2 := by have := (HV.out i t HT.out).2; omega
      obtain ⟨b', o', r, rfl, hbl', HR, gr, r0, r1, r2⟩ := hx.at_ hjn
      have HJ := Lib.hid hj
      clear hj
      go_upto_region 5 with (fail)
      have hQ := Pro1.mk' wr #[.int .i64 t.v, .bool t.c.neg, .slice t.c.a1 t.c.n1 t.c.c1, .slice t.c.a2 t.c.n2 t.c.c2] 52
      generalize wr.alloc (.cells #[.int .i64 t.v, .bool t.c.neg, .slice t.c.a1 t.c.n1 t.c.c1, .slice t.c.a2 t.c.n2 t.c.c2] 52) = U at *
      have hbU : Below wr.heap.size wr U := hQ.below
      have hwU : Below w.heap.size w U := hb.trans (hbU.mono hb.size)
      have HSE := Lib.hid (evN_step (xs := xs) (q0 := k.q) HT.out HJ.out HR.out)
      have HCT := RD.ok_c (gt.on hbU) (HO.out i t HT.out).1
      have hct := (HO.out i t HT.out).2
      have HCR := RD.ok_c (gr.on hwU) (HX.out j r HR.out).1
      have hcr := (HX.out j r HR.out).2
      have u0 := hQ.b0.cell 0
      have u1 := hQ.b0.cell 1
      have u2 := hQ.b0.cell 2
      have u3 := hQ.b0.cell 3
      simp at u0 u1 u2 u3
      rw [HJ.out] at u0
      have uz := hQ.b0.lt
      have r0' : U.cell? ⟨b', o' + j * 3, none⟩ = some (.bool r.neg) := (hwU.cell (p := ⟨b', _, none⟩) hbl').trans r0
      have r1' : U.cell? ⟨b', o' + j * 3 + 1, none⟩ = some (.slice r.a1 r.n1 r.c1) := (hwU.cell (p := ⟨b', _, none⟩) hbl').trans r1
      have r2' : U.cell? ⟨b', o' + j * 3 + 2, none⟩ = some (.slice r.a2 r.n2 r.c2) := (hwU.cell (p := ⟨b', _, none⟩) hbl').trans r2
      have hAU := hA.on hbU
      have hRU := hR.on hbU
      have hYU := hY.on hbU
      have gYU := gY.on hbU
      have v0 := hYU.cell 0
      have v1 := hYU.cell 1
      have v2 := hYU.cell 2
      have v3 := hYU.frozen 0
      have v4 := hYU.frozen 1
      have v5 := hYU.frozen 2
      have vz := hYU.lt
      simp at v0 v1 v2
      have ne1 : w.heap.size + 1 + 1 ≠ wr.heap.size := by omega
      have ne2 : w.heap.size + 1 + 1 ≠ b' := by omega
      have bz : b' < U.heap.size := Nat.lt_of_lt_of_le hbl' hwU.size
      have lo : decide ((j : Int) < 0) = false := decide_eq_false (by omega)
      have hi' : decide ((n2 : Int) ≤ (j : Int)) = false := decide_eq_false (by omega)
      have hU0 : Below U.heap.size U U.drew := Below.drew (Below.refl _ _)
      clear hQ t0 t1 t2 t3 gt r0 r1 r2 gr hA hR hY gY y0 y1 y2 k00 hbU
      go_upto_region 7 with (fail)
      refine wp_region_T 10 (fun w' => w'.cell? ⟨wr.heap.size, 0, none⟩ = some (.int .i64 (j : Int)) ∧ w'.cell? ⟨wr.heap.size, 1, none⟩ = some (.bool t.c.neg) ∧ w'.cell? ⟨wr.heap.size, 2, none⟩ = some (.slice t.c.a1 t.c.n1 t.c.c1) ∧ w'.cell? ⟨wr.heap.size, 3, none⟩ = some (.slice t.c.a2 t.c.n2 t.c.c2) ∧ w'.cell? ⟨b', o' + j * 3, none⟩ = some (.bool r.neg) ∧ w'.cell? ⟨b', o' + j * 3 + 1, none⟩ = some (.slice r.a1 r.n1 r.c1) ∧ w'.cell? ⟨b', o' + j * 3 + 2, none⟩ = some (.slice r.a2 r.n2 r.c2) ∧ w'.cell? ⟨w.heap.size + 1 + 1, 0, none⟩ = some (.bool s1) ∧ w'.cell? ⟨w.heap.size + 1 + 1, 1, none⟩ = some (.slice a1 n1 c1) ∧ w'.cell? ⟨w.heap.size + 1 + 1, 2, none⟩ = some (.slice a2 n3 c2)) (by kernel_rfl) (by (try dsimp only); go_keep) (fun hHeld => ?_)
      refine wpT_take 0 (v := ?_) rfl (by kernel_rfl) (fun _ _ _ h => h) (by rfl) (by assumption) ?_ ?_
      rotate_left
      · (intro w9 hS9; (try dsimp only at hS9); go_simp; try with_reducible rfl)
      try simp only [Act.put, List.setIfInBounds_toArray, List.set_cons_zero, List.set_cons_succ]
      refine wpT_take 1 (v := ?_) rfl (by kernel_rfl) (fun _ _ _ h => h) (by rfl) (by assumption) ?_ ?_
      rotate_left
      · (intro w9 hS9; (try dsimp only at hS9); go_simp; try with_reducible rfl)
      try simp only [Act.put, List.setIfInBounds_toArray, List.set_cons_zero, List.set_cons_succ]
      refine wpT_take 2 (v := ?_) rfl (by kernel_rfl) (fun _ _ _ h => h) (by rfl) (by assumption) ?_ ?_
      rotate_left
      · (intro w9 hS9; (try dsimp only at hS9); go_simp; try with_reducible rfl)
      try simp only [Act.put, List.setIfInBounds_toArray, List.set_cons_zero, List.set_cons_succ]
      refine wpT_take 3 (v := ?_) rfl (by kernel_rfl) (fun _ _ _ h => h) (by rfl) (by assumption) ?_ ?_
      rotate_left
      · (intro w9 hS9; (try dsimp only at hS9); go_simp; try with_reducible rfl)
      try simp only [Act.put, List.setIfInBounds_toArray, List.set_cons_zero, List.set_cons_succ]
      refine wpT_take 4 (v := ?_) rfl (by kernel_rfl) (fun _ _ _ h => h) (by rfl) (by assumption) ?_ ?_
      rotate_left
      · (intro w9 hS9; (try dsimp only at hS9); go_simp; try with_reducible rfl)
      try simp only [Act.put, List.setIfInBounds_toArray, List.set_cons_zero, List.set_cons_succ]
      refine wpT_take 5 (v := ?_) rfl (by kernel_rfl) (fun _ _ _ h => h) (by rfl) (by assumption) ?_ ?_
      rotate_left
      · (intro w9 hS9; (try dsimp only at hS9); go_simp; try with_reducible rfl)
      try simp only [Act.put, List.setIfInBounds_toArray, List.set_cons_zero, List.set_cons_succ]
      refine wpT_take 6 (v := ?_) rfl (by kernel_rfl) (fun _ _ _ h => h) (by rfl) (by assumption) ?_ ?_
      rotate_left
      · (intro w9 hS9; (try dsimp only at hS9); go_simp; try with_reducible rfl)
      try simp only [Act.put, List.setIfInBounds_toArray, List.set_cons_zero, List.set_cons_succ]
      refine wpT_take 7 (v := ?_) rfl (by kernel_rfl) (fun _ _ _ h => h) (by rfl) (by assumption) ?_ ?_
      rotate_left
      · (intro w9 hS9; (try dsimp only at hS9); go_simp; try with_reducible rfl)
      try simp only [Act.put, List.setIfInBounds_toArray, List.set_cons_zero, List.set_cons_succ]
      refine wpT_only 8 rfl (by kernel_rfl) (fun K hK => ?_)
      go_simp
      go_at_call 82; refine (rmul_c _ (HCT.on hU0) (HCR.on hU0) (by omega) (by omega)).mono ?_; rintro e w5 ⟨s5, a5, n5, c5, a6, n6, c6, rfl, g5, hb5'⟩; have hb5 : Below U.heap.size U w5 := hU0.trans hb5'; obtain ⟨hc5, hf5⟩ := bcell hb5
      go_wp2_with fail
      clear hHeld
      refine hK.out _ _ ?_ (fun hHeld => ?_)
      · (try dsimp only); go_keep
      clear hK K
      try simp only [Act.put, List.setIfInBounds_toArray, List.set_cons_zero, List.set_cons_succ]
      refine wpT_only 9 rfl (by kernel_rfl) (fun K hK => ?_)
      go_simp
      go_at_call 81; refine (radd_c _ (gYU.on hb5) g5 (by omega) (by have h9 := H_mul t.c.q r.q; omega)).mono ?_; rintro e w7 ⟨s7, a7, n7, c7, a8, n8, c8, rfl, g7, hb7'⟩; have hb7 : Below U.heap.size U w7 := hb5.trans (hb7'.mono hb5.size); obtain ⟨hc7, hf7⟩ := bcell hb7
      go_wp2_with fail
      clear hHeld
      refine hK.out _ _ ?_ (fun hHeld => ?_)
      · (try dsimp only); go_keep
      clear hK K
      try simp only [Act.put, List.setIfInBounds_toArray, List.set_cons_zero, List.set_cons_succ]
      refine wpT_last 10 rfl rfl (by kernel_rfl) (fun K hK => ?_)
      go_simp
      refine hK.out _ _ ?_
      clear hK K
      try simp only [Act.put, List.setIfInBounds_toArray, List.set_cons_zero, List.set_cons_succ]
      refine wpT_done (by kernel_rfl) ?_ _
      go_wp2_with fail
      go_roundw
      case rel => exact ⟨i + 1, s7, a7, n7, c7, a8, n8, c8, by omega, by go_num, (hAU.on hb7).farR (by omega) _ _ _, (hRU.on hb7).farR (by omega) _ _ _, (hYU.on hb7).setR _ _ _, by rw [HSE.out]; exact g7.inR (hYU.on hb7) _ _ _, below_box27 (hwU.trans (hb7.mono hwU.size)) (by omega) _ _ _⟩
      case measure => simp [intOf]; omega
    · have e : i = n := by omega
      subst e
      have k0 := hR.cell 0
      have k1 := hR.cell 1
      have k2 := hR.cell 2
      have k3 := hR.frozen 0
      have k4 := hR.frozen 1
      have k5 := hR.frozen 2
      have k6 := hR.lt
      simp at k0 k1 k2
      go_wp2_with fail
      refine (canon_c _ gY (by omega)).mono ?_
      rintro e w5 ⟨s5, a5, n5, c5, a6, n6, c6, rfl, g5, hb5⟩
      have hR5 := hR.on hb5
      have k0 := hR5.cell 0
      have k1 := hR5.cell 1
      have k2 := hR5.cell 2
      have k3 := hR5.frozen 0
      have k4 := hR5.frozen 1
      have k5 := hR5.frozen 2
      have k6 := hR5.lt
      simp at k0 k1 k2
      go_wp2_with fail
      exact bodyPost_ret (v := .tuple #[.agg #[.bool s5, .slice a5 n5 c5, .slice a6 n6 c6], .int .i64 0]) (by simp [results, Tryz.results52, go_sem, *]) rfl
        ⟨_, _, _, _, _, _, _, rfl, g5.inR hR5 _ _ _, below_box27 (hb.trans (hb5.mono hb.size)) (by omega) _ _ _⟩

end Go.Proofs.YtledagemcknlcaaGreat
namespace Go.Proofs.YtledagemcknlcaaGreat
open Go.RowKit

/-- a row of the call's own; each of its cells, spare ones too, is a Qc -/
structure Row (Qc : Value → Prop) (w : World) (base : Nat) (e : TypeId) (size : Nat) (v : Value) (n : Nat) (xs : List Value) : Prop where
  own : w.ownsRow base e size v n xs
  all : ∀ g cur t p, v.ownBlock = some g → w.heap[g]? = some (.cells cur t p) → ∀ x ∈ cur, Qc x
section
variable {Qc : Value → Prop} {w w' : World} {base : Nat} {e : TypeId} {size : Nat} {v : Value} {n : Nat} {xs : List Value}
theorem Row.nil (Qc : Value → Prop) (w : World) (base : Nat) (e : TypeId) (size : Nat) : Row Qc w base e size (.slice none 0 0) 0 [] :=
  ⟨World.ownsRow_nil w base e size, fun g cur t p h => by simp [Value.ownBlock] at h⟩
theorem Row.kept {row : Option Nat} (h : Row Qc w base e size v n xs) (hg : w.grownBy w' row) (hne : v.ownBlock = none ∨ v.ownBlock ≠ row) : Row Qc w' base e size v n xs :=
  ⟨h.own.kept hg hne, fun g cur t p h1 h2 => by
    have hlt := (h.own.lt g h1).2
    rw [hg.block g hlt (fun e => by rcases hne with h9 | h9; (rw [h9] at h1; cases h1); exact h9 (h1.trans e))] at h2
    exact h.all g cur t p h1 h2⟩
theorem below_grown (hb : Below w.heap.size w w') (row : Option Nat) : w.grownBy w' row := ⟨hb.os, hb.tape, hb.output, hb.size, fun k hk _ => hb.block k hk⟩
theorem Row.on (h : Row Qc w base e size v n xs) (hb : Below w.heap.size w w') : Row Qc w' base e size v n xs :=
  h.kept (below_grown hb none) (by cases v.ownBlock <;> simp)
theorem Row.base_le (h : Row Qc w base e size v n xs) {b : Nat} (hb : b ≤ base) : Row Qc w b e size v n xs :=
  ⟨⟨h.own.1, h.own.2.imp id (fun ⟨g, cap, cur, h1, h2, h3⟩ => ⟨g, cap, cur, h1, Nat.le_trans hb h2, h3⟩)⟩, h.all⟩
theorem grown_below {row : Option Nat} {B : Nat} (hg : w.grownBy w' row) (hB : B ≤ w.heap.size) (hrow : ∀ k, row = some k → B ≤ k) : Below B w w' :=
  (Below.refl _ _).grown hg hB hrow
theorem Row.below (h : Row Qc w base e size v n xs) (hg : w.grownBy w' v.ownBlock) (hb : base ≤ w.heap.size) : Below base w w' :=
  grown_below hg hb (fun k hk => (h.own.lt k hk).1)
end

section
variable {P : Program} (w : World)
theorem run_row {Qc : Value → Prop} (base : Nat) (t ty e : TypeId) (i : TypeInfo) (z : Value) (size bytes : Nat) (ht : P.underlying t = some (.slice e)) (hi : P.info? e = some i) (hz : i.zero = some z)
    (hsize : i.size = size) (hby : i.bytes = bytes) (hzs : z.cells.size = size) (hsz : 0 < size)
    (v : Value) (n : Nat) (xs : List Value) (hown : Row Qc w base e size v n xs)
    (a : Addr) (m c : Nat) (news : List Value) (hl : news.length = m * size) (hnews : ∀ j u, news[j]? = some u → w.cell? (a.add j) = some u) (h1 : ∀ u ∈ news, u.oneCell' = true)
    (h63 : n + m ≤ maxLen) (hbytes : (n + m) * bytes ≤ 140737488355328) (hbase : base ≤ w.heap.size) (hm : 0 < m) (hQz : ∀ x ∈ z.cells, Qc x) (hQn : ∀ x ∈ news, Qc x) :
    ∃ v' w', (Builtin.append_ #[t, t] ty #[v, .slice (some a) m c]).run P w = .ok v' w' ∧ Row Qc w' base e size v' (n + m) (xs ++ news) ∧ w.grownBy w' v.ownBlock ∧ (v'.ownBlock = v.ownBlock ∨ v'.ownBlock = some w.heap.size) := by
  obtain ⟨v', w', hrun, h2, h3, _, h5⟩ := run_append_own_at (P := P) w base t ty e i z size bytes ht hi hz hsize hby hzs hsz v n xs hown.own a m c news hl hnews h1 h63 hbytes hbase
  refine ⟨v', w', hrun, ⟨h2, ?_⟩, h3, h5⟩
  subst hsize
  subst hby
  have hsmall : n + m ≤ 9223372036854775807 := by simp only [maxLen] at h63; omega
  have hzero : ∀ k, ∀ x ∈ Builtin.zeroCells z.cells k, Qc x := fun k x hx => by
    simp only [Builtin.zeroCells, Array.mem_map, Array.mem_range] at hx
    obtain ⟨j, _, rfl⟩ := hx
    rw [getElem!_pos z.cells (j % z.cells.size) (Nat.mod_lt _ (by omega))]
    exact hQz _ (Array.getElem_mem _)
  have fin : ∀ (v1 : Value) (w1 : World), (Builtin.append_ #[t, t] ty #[v, .slice (some a) m c]).run P w = .ok v1 w1 → v1 = v' ∧ w1 = w' := fun v1 w1 h => by
    rw [hrun] at h; cases h; exact ⟨rfl, rfl⟩
  have hxs : ∀ x ∈ xs, Qc x := fun x hx => by
    rcases hown.own.2 with ⟨rfl, h0⟩ | ⟨g, cap, cur, rfl, _, hg, _, _, _, htake⟩
    · have hx0 : xs = [] := List.eq_nil_of_length_eq_zero (by rw [hown.own.1, h0]; simp)
      rw [hx0] at hx; cases hx
    · rw [← htake] at hx
      exact hown.all g cur e (0, 0) rfl hg x (by simpa using List.mem_of_mem_take hx)
  rcases hown.own.2 with ⟨rfl, h0⟩ | ⟨g, cap, cur, rfl, hbg, hg, hnc, hcm, hcs, htake⟩
  · subst h0
    have hr := run_append_nil (P := P) w t ty e i z ht hi hz a m c news hl hnews hm (by omega) (by have hb := hbytes; simp only [Nat.zero_add] at hb; omega)
    obtain ⟨rfl, rfl⟩ := fin _ _ hr
    intro g cur t' p hg hc x hx
    simp only [Value.ownBlock, Option.some.injEq] at hg
    subst hg
    rw [show w.heap.size = w.drew.heap.size from rfl, heap_alloc_new] at hc
    cases hc
    rcases Array.mem_append.1 hx with h | h
    · exact hQn x (by simpa using h)
    · exact hzero _ x h
  · by_cases hroom : n + m ≤ cap
    · have hfit : n * i.size + news.length ≤ cur.size := by rw [hl, hcs, ← Nat.add_mul]; exact Nat.mul_le_mul_right _ hroom
      have hr := run_append_room (P := P) w t ty e i ht hi g n cap cur hg a m c news hl hnews h1 hroom hfit
      obtain ⟨rfl, rfl⟩ := fin _ _ hr
      intro g' cur' t' p hg' hc x hx
      simp only [Value.ownBlock, Option.some.injEq] at hg'
      subst hg'
      rw [setRow_heap w g cur _ e _ hg] at hc
      cases hc
      simp only [List.mem_toArray, List.mem_append] at hx
      rcases hx with (h | h) | h
      · exact hown.all g cur e (0, 0) rfl hg x (by simpa using List.mem_of_mem_take h)
      · exact hQn x h
      · exact hown.all g cur e (0, 0) rfl hg x (by simpa using List.mem_of_mem_drop h)
    · have holds : ∀ j u, xs[j]? = some u → w.cell? ((⟨g, 0, none⟩ : Addr).add j) = some u := hown.own.cells (g := g) rfl
      have hr := run_append_grow (P := P) w t ty e i z ht hi hz ⟨g, 0, none⟩ n cap xs hown.own.1 holds a m c news hl hnews (by omega) (by omega) (growslice_fits (by omega) hbytes)
      obtain ⟨rfl, rfl⟩ := fin _ _ hr
      intro g' cur' t' p hg' hc x hx
      simp only [Value.ownBlock, Option.some.injEq] at hg'
      subst hg'
      rw [show w.heap.size = w.drew.heap.size from rfl, heap_alloc_new] at hc
      cases hc
      rcases Array.mem_append.1 hx with h | h
      · rcases Array.mem_append.1 h with h | h
        · exact hxs x (by simpa using h)
        · exact hQn x (by simpa using h)
      · exact hzero _ x h

theorem wp_row {Qc : Value → Prop} {o : Oper} {a : Act} {K : Act → World → Prop} {Q : Exit → Act → World → Prop} (s x : Operand) (t : TypeId)
    (ho : o.op = .call { callee := .builtin .append, args := #[s, x], argTypes := #[t, t] })
    (base : Nat) (e : TypeId) (i : TypeInfo) (z : Value) (size bytes : Nat) (ht : P.underlying t = some (.slice e)) (hi : P.info? e = some i) (hz : i.zero = some z)
    (hsize : i.size = size) (hby : i.bytes = bytes) (hzs : z.cells.size = size) (hsz : 0 < size)
    (v : Value) (n : Nat) (xs : List Value) (hs : a.eval s = v) (hown : Row Qc w base e size v n xs)
    (A : Addr) (m c : Nat) (news : List Value) (hx : a.eval x = .slice (some A) m c) (hl : news.length = m * size) (hr : ∀ j u, news[j]? = some u → w.cell? (A.add j) = some u) (h1 : ∀ u ∈ news, u.oneCell' = true)
    (h63 : n + m ≤ maxLen) (hbytes : (n + m) * bytes ≤ 140737488355328) (hbase : base ≤ w.heap.size) (hm : 0 < m) (hQz : ∀ x ∈ z.cells, Qc x) (hQn : ∀ x ∈ news, Qc x)
    (h : ∀ v' w', Row Qc w' base e size v' (n + m) (xs ++ news) → w.grownBy w' v.ownBlock → (v'.ownBlock = v.ownBlock ∨ v'.ownBlock = some w.heap.size) → K (a.put o.dst v') w') : o.wp P a w K Q := by
  obtain ⟨v', w', hrun, h2, h3, h4⟩ := run_row (P := P) w base t o.type e i z size bytes ht hi hz hsize hby hzs hsz v n xs hown A m c news hl hr h1 h63 hbytes hbase hm hQz hQn
  unfold Oper.wp execOp
  simp only [ho, resolve, invoke, builtin, Sem.run_bind, Sem.run_pure, Result.andThen_ok, List.map_toArray, List.map_cons, List.map_nil, hs, hx, hrun]
  exact h v' w' h2 h3 h4
theorem wpList_row {Qc : Value → Prop} {ops : Array Oper} {rest : List Oper} {o : Oper} {a : Act} {Q : Exit → Act → World → Prop} (hgd : o.guard = none) (s x : Operand) (t : TypeId)
    (ho : o.op = .call { callee := .builtin .append, args := #[s, x], argTypes := #[t, t] })
    (base : Nat) (e : TypeId) (i : TypeInfo) (z : Value) (size bytes : Nat) (ht : P.underlying t = some (.slice e)) (hi : P.info? e = some i) (hz : i.zero = some z)
    (hsize : i.size = size) (hby : i.bytes = bytes) (hzs : z.cells.size = size) (hsz : 0 < size)
    (v : Value) (n : Nat) (xs : List Value) (hs : a.eval s = v) (hown : Row Qc w base e size v n xs)
    (A : Addr) (m c : Nat) (news : List Value) (hx : a.eval x = .slice (some A) m c) (hl : news.length = m * size) (hr : ∀ j u, news[j]? = some u → w.cell? (A.add j) = some u) (h1 : ∀ u ∈ news, u.oneCell' = true)
    (h63 : n + m ≤ maxLen) (hbytes : (n + m) * bytes ≤ 140737488355328) (hbase : base ≤ w.heap.size) (hm : 0 < m) (hQz : ∀ x ∈ z.cells, Qc x) (hQn : ∀ x ∈ news, Qc x)
    (h : ∀ v' w', Row Qc w' base e size v' (n + m) (xs ++ news) → w.grownBy w' v.ownBlock → (v'.ownBlock = v.ownBlock ∨ v'.ownBlock = some w.heap.size) → wpList P ops Q rest (a.put o.dst v') w') : wpList P ops Q (o :: rest) a w :=
  wpList_plain hgd fun _ hK => wp_row w s x t ho base e i z size bytes ht hi hz hsize hby hzs hsz v n xs hs hown A m c news hx hl hr h1 h63 hbytes hbase hm hQz hQn fun v' w' h2 h3 h4 => hK _ _ (h v' w' h2 h3 h4)
theorem step_row {Qc : Value → Prop} {ops : Array Oper} {o : Oper} {a : Act} {K : Act → World → Prop} {Q : Exit → Act → World → Prop} {E : Prop} (hgd : o.guard = none) (s x : Operand) (t : TypeId)
    (ho : o.op = .call { callee := .builtin .append, args := #[s, x], argTypes := #[t, t] })
    (base : Nat) (e : TypeId) (i : TypeInfo) (z : Value) (size bytes : Nat) (ht : P.underlying t = some (.slice e)) (hi : P.info? e = some i) (hz : i.zero = some z)
    (hsize : i.size = size) (hby : i.bytes = bytes) (hzs : z.cells.size = size) (hsz : 0 < size)
    (v : Value) (n : Nat) (xs : List Value) (hs : a.eval s = v) (hown : Row Qc w base e size v n xs)
    (A : Addr) (m c : Nat) (news : List Value) (hx : a.eval x = .slice (some A) m c) (hl : news.length = m * size) (hr : ∀ j u, news[j]? = some u → w.cell? (A.add j) = some u) (h1 : ∀ u ∈ news, u.oneCell' = true)
    (h63 : n + m ≤ maxLen) (hbytes : (n + m) * bytes ≤ 140737488355328) (hbase : base ≤ w.heap.size) (hm : 0 < m) (hQz : ∀ x ∈ z.cells, Qc x) (hQn : ∀ x ∈ news, Qc x)
    (h : ∀ v' w', Row Qc w' base e size v' (n + m) (xs ++ news) → w.grownBy w' v.ownBlock → (v'.ownBlock = v.ownBlock ∨ v'.ownBlock = some w.heap.size) → K (a.put o.dst v') w') :
    if Region.wanted o (yielded ops a.tmps) = true then Oper.wp P o a w K Q else E := by
  have hw : Region.wanted o (yielded ops a.tmps) = true := by simp [Region.wanted, hgd]
  rw [if_pos hw]
  exact wp_row w s x t ho base e i z size bytes ht hi hz hsize hby hzs hsz v n xs hs hown A m c news hx hl hr h1 h63 hbytes hbase hm hQz hQn h
end

/-- no limb -/
def NotU (x : Value) : Prop := ∀ z, x ≠ .int .u32 z
section
variable {w w' : World} {base : Nat} {e : TypeId} {size : Nat} {v : Value} {n : Nat} {xs : List Value}
/-- the cells of a term list -/
def tcells (ts : List TD) : List Value := ts.flatMap fun t => [.int .i64 t.v, .bool t.c.neg, .slice t.c.a1 t.c.n1 t.c.c1, .slice t.c.a2 t.c.n2 t.c.c2]
theorem tcells_len (ts : List TD) : (tcells ts).length = ts.length * 4 := by
  induction ts with
  | nil => rfl
  | cons t ts ih => simp [tcells, List.flatMap_cons] at *; omega
theorem tcells_append (a b : List TD) : tcells (a ++ b) = tcells a ++ tcells b := by simp [tcells]
theorem tcells_get {ts : List TD} {i : Nat} {t : TD} (h : ts[i]? = some t) : (tcells ts)[i * 4]? = some (.int .i64 t.v) ∧ (tcells ts)[i * 4 + 1]? = some (.bool t.c.neg) ∧
    (tcells ts)[i * 4 + 2]? = some (.slice t.c.a1 t.c.n1 t.c.c1) ∧ (tcells ts)[i * 4 + 3]? = some (.slice t.c.a2 t.c.n2 t.c.c2) := by
  induction ts generalizing i with
  | nil => cases h
  | cons u ts ih =>
    have e : tcells (u :: ts) = .int .i64 u.v :: .bool u.c.neg :: .slice u.c.a1 u.c.n1 u.c.c1 :: .slice u.c.a2 u.c.n2 u.c.c2 :: tcells ts := rfl
    rw [e]
    cases i with
    | zero => cases h; exact ⟨rfl, rfl, rfl, rfl⟩
    | succ i =>
      have := ih (i := i) h
      rw [show (i + 1) * 4 = i * 4 + 4 by omega]
      exact this
theorem LimR.row {ad : Option Addr} {m c : Nat} {l : List Nat} (h : LimR w ad m c l) (hr : Row NotU w base e size v n xs) (hg : w.grownBy w' v.ownBlock) : LimR w' ad m c l :=
  ⟨h.len, h.cap, h.lim, fun hn => by
    obtain ⟨b, o, e1, hlt, hc⟩ := h.cells hn
    have hne : some b ≠ v.ownBlock := fun h9 => by
      rcases hr.own.2 with ⟨rfl, _⟩ | ⟨g, cap, cur, rfl, _, hgg, _⟩
      · simp [Value.ownBlock] at h9
      · simp only [Value.ownBlock, Option.some.injEq] at h9
        subst h9
        have h8 := hc 0 hn
        rw [cell_of_row w b _ cur e (0, 0) hgg] at h8
        exact hr.all b cur e (0, 0) rfl hgg _ (Array.mem_of_getElem? h8) _ rfl
    exact ⟨b, o, e1, Nat.lt_of_lt_of_le hlt hg.size, fun i hi => (World.cell?_of_block (hg.block b hlt hne)).trans (hc i hi)⟩⟩
theorem RD.In.row {r : RD} (h : r.In w) (hr : Row NotU w base e size v n xs) (hg : w.grownBy w' v.ownBlock) : r.In w' := ⟨h.num.row hr hg, h.den.row hr hg⟩
theorem RatC.row {neg : Bool} {a1 a2 : Option Addr} {n1 c1 n2 c2 : Nat} {q : Rat} (h : RatC w neg a1 n1 c1 a2 n2 c2 q) (hr : Row NotU w base e size v n xs) (hg : w.grownBy w' v.ownBlock) : RatC w' neg a1 n1 c1 a2 n2 c2 q :=
  ⟨h.sign, h.num.row hr hg, h.den.row hr hg⟩
/-- what is owned reads as terms -/
theorem Row.terms {ad : Option Addr} {c : Nat} {ts : List TD} (h : Row NotU w base 52 4 (.slice ad n c) n (tcells ts)) (hin : ∀ (i : Nat) (t : TD), ts[i]? = some t → t.c.In w) : TermsR w ad n c ts := by
  have hlen : ts.length = n := by have := h.own.1; rw [tcells_len] at this; omega
  rcases h.own.2 with ⟨hv, h0⟩ | ⟨g, cap, cur, hv, _, hg, hnc, _, hsz, htake⟩
  · cases hv
    exact ⟨hlen, by omega, hin, fun h => by omega⟩
  · cases hv
    refine ⟨hlen, hnc, hin, fun _ => ⟨g, 0, rfl, (Array.getElem?_eq_some_iff.1 hg).1, fun i t ht => ?_⟩⟩
    have hi := (List.getElem?_eq_some_iff.1 ht).1
    have key : ∀ k x, (tcells ts)[k]? = some x → w.cell? ⟨g, k, none⟩ = some x := fun k x hk => by
      rw [cell_of_row w g k cur _ (0, 0) hg, ← Array.getElem?_toList]
      rw [← htake, List.getElem?_take] at hk
      split at hk
      · exact hk
      · cases hk
    obtain ⟨e0, e1, e2, e3⟩ := tcells_get ht
    simp only [Nat.zero_add]
    exact ⟨key _ _ e0, key _ _ e1, key _ _ e2, key _ _ e3⟩
end
end Go.Proofs.YtledagemcknlcaaGreat
namespace Go.Proofs.YtledagemcknlcaaGreat
open Go.RowKit

section
variable {w w' : World} {B g : Nat} {t : TypeId} {cs : Array Value}
theorem LimR.setB {ad : Option Addr} {n c : Nat} {l : List Nat} (h : LimR w ad n c l) (hB : Blk w B t cs) (hc : ∀ x ∈ cs, NotU x) (i : Nat) (u : Value) : LimR (w.setCell ⟨B, i, none⟩ u) ad n c l :=
  ⟨h.len, h.cap, h.lim, fun hn => by
    obtain ⟨b, o, e1, hlt, hcl⟩ := h.cells hn
    have hne : b ≠ B := fun h9 => by
      subst h9
      have h8 := hcl 0 hn
      rw [hB.cell] at h8
      exact hc _ (Array.mem_of_getElem? h8) _ rfl
    exact ⟨b, o, e1, by simpa [World.setCell] using hlt, fun j hj => (World.cell?_of_block (Below.heap_setCell w ⟨B, i, none⟩ u b hne)).trans (hcl j hj)⟩⟩
theorem RD.In.setB {r : RD} {cs : Array Value} {B : Nat} {t : TypeId} {w : World} (h : r.In w) (hB : Blk w B t cs) (hc : ∀ x ∈ cs, NotU x) (i : Nat) (u : Value) : r.In (w.setCell ⟨B, i, none⟩ u) := ⟨h.num.setB hB hc i u, h.den.setB hB hc i u⟩
theorem notU_box {x : Bool} {a a' a'' : Option Addr} {m k m' k' m'' k'' : Nat} : ∀ y ∈ (#[.slice a m k, .bool x, .slice a' m' k', .slice a'' m'' k''] : Array Value), NotU y := by
  intro y hy z
  simp at hy
  rcases hy with rfl | rfl | rfl | rfl <;> simp
theorem LimR.set4 {ad : Option Addr} {n c : Nat} {l : List Nat} (h : LimR w ad n c l) {x : Bool} {a a' a'' : Option Addr} {m k m' k' m'' k'' : Nat} (hB : Blk w B t #[.slice a m k, .bool x, .slice a' m' k', .slice a'' m'' k'']) (a1 : Option Addr) (n1 c1 : Nat) (s : Bool) (a2 : Option Addr) (n2 c2 : Nat) (a3 : Option Addr) (n3 c3 : Nat) :
    LimR ((((w.setCell ⟨B, 0, none⟩ (.slice a1 n1 c1)).setCell ⟨B, 1, none⟩ (.bool s)).setCell ⟨B, 2, none⟩ (.slice a2 n2 c2)).setCell ⟨B, 3, none⟩ (.slice a3 n3 c3)) ad n c l := by
  have b1 : Blk (w.setCell ⟨B, 0, none⟩ (.slice a1 n1 c1)) B t #[.slice a1 n1 c1, .bool x, .slice a' m' k', .slice a'' m'' k''] := by simpa using hB.set_ 0 (.slice a1 n1 c1)
  have b2 : Blk ((w.setCell ⟨B, 0, none⟩ (.slice a1 n1 c1)).setCell ⟨B, 1, none⟩ (.bool s)) B t #[.slice a1 n1 c1, .bool s, .slice a' m' k', .slice a'' m'' k''] := by simpa using b1.set_ 1 (.bool s)
  have b3 : Blk (((w.setCell ⟨B, 0, none⟩ (.slice a1 n1 c1)).setCell ⟨B, 1, none⟩ (.bool s)).setCell ⟨B, 2, none⟩ (.slice a2 n2 c2)) B t #[.slice a1 n1 c1, .bool s, .slice a2 n2 c2, .slice a'' m'' k''] := by simpa using b2.set_ 2 (.slice a2 n2 c2)
  exact (((h.setB hB notU_box 0 _).setB b1 notU_box 1 _).setB b2 notU_box 2 _).setB b3 notU_box 3 _
theorem RD.In.set4 {r : RD} (h : r.In w) {x : Bool} {a a' a'' : Option Addr} {m k m' k' m'' k'' : Nat} (hB : Blk w B t #[.slice a m k, .bool x, .slice a' m' k', .slice a'' m'' k'']) (a1 : Option Addr) (n1 c1 : Nat) (s : Bool) (a2 : Option Addr) (n2 c2 : Nat) (a3 : Option Addr) (n3 c3 : Nat) :
    r.In ((((w.setCell ⟨B, 0, none⟩ (.slice a1 n1 c1)).setCell ⟨B, 1, none⟩ (.bool s)).setCell ⟨B, 2, none⟩ (.slice a2 n2 c2)).setCell ⟨B, 3, none⟩ (.slice a3 n3 c3)) :=
  ⟨h.num.set4 hB _ _ _ _ _ _ _ _ _ _, h.den.set4 hB _ _ _ _ _ _ _ _ _ _⟩
theorem Blk.set4 {x0 x1 x2 x3 : Value} (h : Blk w B t #[x0, x1, x2, x3]) (u0 u1 u2 u3 : Value) : Blk ((((w.setCell ⟨B, 0, none⟩ u0).setCell ⟨B, 1, none⟩ u1).setCell ⟨B, 2, none⟩ u2).setCell ⟨B, 3, none⟩ u3) B t #[u0, u1, u2, u3] := by
  simpa using (((h.set_ 0 u0).set_ 1 u1).set_ 2 u2).set_ 3 u3
theorem Blk.far4 (h : Blk w g t cs) (hne : g ≠ B) (u0 u1 u2 u3 : Value) : Blk ((((w.setCell ⟨B, 0, none⟩ u0).setCell ⟨B, 1, none⟩ u1).setCell ⟨B, 2, none⟩ u2).setCell ⟨B, 3, none⟩ u3) g t cs :=
  (((h.far (p := ⟨B, 0, none⟩) hne u0).far (p := ⟨B, 1, none⟩) hne u1).far (p := ⟨B, 2, none⟩) hne u2).far (p := ⟨B, 3, none⟩) hne u3
theorem Blk.grown {row : Option Nat} (h : Blk w g t cs) (hg : w.grownBy w' row) (hne : some g ≠ row) : Blk w' g t cs := (hg.block g h.lt hne).trans h
theorem grown_set (w : World) {row : Option Nat} {B0 : Nat} {w1 : World} (hg : w.grownBy w1 row) (hB : w.heap.size ≤ B0) (i : Nat) (u : Value) : w.grownBy (w1.setCell ⟨B0, i, none⟩ u) row :=
  ⟨hg.os, hg.tape, hg.output, by simpa [World.setCell] using hg.size, fun k hk hne => (Below.heap_setCell w1 ⟨B0, i, none⟩ u k (by show k ≠ B0; omega)).trans (hg.block k hk hne)⟩
theorem grown_set4 (w : World) {row : Option Nat} {B0 : Nat} {w1 : World} (hg : w.grownBy w1 row) (hB : w.heap.size ≤ B0) (u0 u1 u2 u3 : Value) :
    w.grownBy ((((w1.setCell ⟨B0, 0, none⟩ u0).setCell ⟨B0, 1, none⟩ u1).setCell ⟨B0, 2, none⟩ u2).setCell ⟨B0, 3, none⟩ u3) row :=
  grown_set w (grown_set w (grown_set w (grown_set w hg hB 0 u0) hB 1 u1) hB 2 u2) hB 3 u3
theorem grown_trans {a b c : World} {row : Option Nat} (h : a.grownBy b row) (k : b.grownBy c row) : a.grownBy c row := h.trans k
theorem Row.shape {Qc : Value → Prop} {base : Nat} {e : TypeId} {size : Nat} {v : Value} {n : Nat} {xs : List Value} (h : Row Qc w base e size v n xs) : ∃ ad c, v = .slice ad n c := by
  rcases h.own.2 with ⟨rfl, rfl⟩ | ⟨g, cap, cur, rfl, _⟩
  · exact ⟨_, _, rfl⟩
  · exact ⟨_, _, rfl⟩
theorem Row.setc {Qc : Value → Prop} {base : Nat} {e : TypeId} {size : Nat} {v : Value} {n : Nat} {xs : List Value} (h : Row Qc w base e size v n xs) (hne : v.ownBlock ≠ some B) (i : Nat) (u : Value) : Row Qc (w.setCell ⟨B, i, none⟩ u) base e size v n xs :=
  h.kept (w' := w.setCell ⟨B, i, none⟩ u) (row := some B) ⟨rfl, rfl, rfl, by simp [World.setCell], fun k _ hk => Below.heap_setCell w ⟨B, i, none⟩ u k (fun e => hk (by rw [e]))⟩ (.inr hne)
theorem Row.set4 {Qc : Value → Prop} {base : Nat} {e : TypeId} {size : Nat} {v : Value} {n : Nat} {xs : List Value} (h : Row Qc w base e size v n xs) (hne : v.ownBlock ≠ some B) (u0 u1 u2 u3 : Value) :
    Row Qc ((((w.setCell ⟨B, 0, none⟩ u0).setCell ⟨B, 1, none⟩ u1).setCell ⟨B, 2, none⟩ u2).setCell ⟨B, 3, none⟩ u3) base e size v n xs :=
  (((h.setc hne 0 u0).setc hne 1 u1).setc hne 2 u2).setc hne 3 u3
end

/-- the number as it lies in memory -/
def rdOf (neg : Bool) (a1 : Option Addr) (n1 c1 : Nat) (a2 : Option Addr) (n2 c2 : Nat) (q : Rat) : RD := ⟨neg, a1, n1, c1, lmb q.num.natAbs, a2, n2, c2, dlmb q.den⟩
theorem RatC.rd {w : World} {neg : Bool} {a1 a2 : Option Addr} {n1 c1 n2 c2 : Nat} {q : Rat} (h : RatC w neg a1 n1 c1 a2 n2 c2 q) :
    (rdOf neg a1 n1 c1 a2 n2 c2 q).In w ∧ (rdOf neg a1 n1 c1 a2 n2 c2 q).Ok ∧ (rdOf neg a1 n1 c1 a2 n2 c2 q).q = q := by
  have e : sv neg (lmb q.num.natAbs) (dlmb q.den) = q := h.sv_
  refine ⟨⟨h.num, h.den⟩, ?_, e⟩
  show RatV neg (lmb q.num.natAbs) (dlmb q.den)
  unfold RatV
  rw [e]
  exact ⟨h.sign.out, rfl, rfl⟩
/-- a term more, unless the number is 0 -/
def Added (ts ts' : List TD) (v : Int) (q : Rat) : Prop := (q = 0 ∧ ts' = ts) ∨ (q ≠ 0 ∧ ∃ r : RD, ts' = ts ++ [⟨v, r⟩] ∧ r.Ok ∧ r.q = q)
def AllIn (w : World) (ts : List TD) : Prop := ∀ (i : Nat) (t : TD), ts[i]? = some t → t.c.In w
theorem AllIn.snoc {w : World} {ts : List TD} {v : Int} {r : RD} (h : AllIn w ts) (hr : r.In w) : AllIn w (ts ++ [⟨v, r⟩]) := fun i t ht => by
  rcases Nat.lt_or_ge i ts.length with h1 | h1
  · rw [List.getElem?_append_left h1] at ht; exact h i t ht
  · rw [List.getElem?_append_right h1] at ht
    rcases Nat.eq_zero_or_pos (i - ts.length) with h2 | h2
    · rw [h2] at ht; simp at ht; subst ht; exact hr
    · rw [List.getElem?_eq_none (by simp; omega)] at ht; cases ht
def PutPost (base : Nat) (ad : Option Addr) (n c : Nat) (ts : List TD) (k : RD) (v : Int) (q : Rat) (w : World) (e : Ending) (w' : World) : Prop :=
  ∃ ad' n' c' ts', e = .returned (.agg #[.slice ad' n' c', .bool k.neg, .slice k.a1 k.n1 k.c1, .slice k.a2 k.n2 k.c2]) ∧ Row NotU w' base 52 4 (.slice ad' n' c') n' (tcells ts') ∧ AllIn w' ts' ∧ Added ts ts' v q ∧ w.grownBy w' (Value.slice ad n c).ownBlock ∧ n' ≤ n + 1
theorem Tryz.infoTerm : (Tryz.prog.info? 52).map (fun i => (i.zero, i.size, i.bytes)) = some (some (.agg #[.int .i64 0, .bool false, .slice none 0 0, .slice none 0 0]), 4, 64) := by kernel_rfl
theorem term_news (w : World) (x0 x1 x2 x3 : Value) (t : TypeId) : ∀ j u, [x0, x1, x2, x3][j]? = some u → (w.alloc (.cells #[x0, x1, x2, x3] t)).cell? ((⟨w.heap.size, 0, none⟩ : Addr).add j) = some u := by
  intro j u hj
  have hb := Blk.new w t #[x0, x1, x2, x3]
  have e : ((⟨w.heap.size, 0, none⟩ : Addr).add j) = ⟨w.heap.size, j, none⟩ := by unfold Addr.add; split <;> simp_all
  rw [e, hb.cell]
  simpa using hj
theorem term_one (v : Int) (s : Bool) (a a' : Option Addr) (m k m' k' : Nat) : ∀ u ∈ [Value.int .i64 v, .bool s, .slice a m k, .slice a' m' k'], u.oneCell' = true := by
  intro u hu
  simp at hu
  rcases hu with rfl | rfl | rfl | rfl <;> rfl
theorem term_notU (v : Int) (s : Bool) (a a' : Option Addr) (m k m' k' : Nat) : ∀ u ∈ [Value.int .i64 v, .bool s, .slice a m k, .slice a' m' k'], NotU u := by
  intro u hu z
  simp at hu
  rcases hu with rfl | rfl | rfl | rfl <;> simp

set_option maxRecDepth 100000 in
set_option maxHeartbeats 6400000 in
theorem put_zero (w : World) (base : Nat) {ad : Option Addr} {n c : Nat} {ts : List TD} {k : RD} (v : Int) {s1 : Bool} {a1 a2 : Option Addr} {n1 n2 c1 c2 : Nat} (hr : Row NotU w base 52 4 (.slice ad n c) n (tcells ts)) (ha : AllIn w ts) (hq : RatC w s1 a1 n1 c1 a2 n2 c2 0) :
    Calls Tryz.prog 92 #[.agg #[.slice ad n c, .bool k.neg, .slice k.a1 k.n1 k.c1, .slice k.a2 k.n2 k.c2], .int .i64 v, .agg #[.bool s1, .slice a1 n1 c1, .slice a2 n2 c2]] w (PutPost base ad n c ts k v 0 w) := by
  have hP := Pro3.mk' w #[.slice ad n c, .bool k.neg, .slice k.a1 k.n1 k.c1, .slice k.a2 k.n2 k.c2] #[.bool s1, .slice a1 n1 c1, .slice a2 n2 c2] #[.slice none 0 0, .bool false, .slice none 0 0, .slice none 0 0] 29 27 29
  go_enter Tryz.func92, Tryz.ntmps92
  go_upto_region 1 with (fail)
  generalize ((w.alloc (.cells #[.slice ad n c, .bool k.neg, .slice k.a1 k.n1 k.c1, .slice k.a2 k.n2 k.c2] 29)).alloc (.cells #[.bool s1, .slice a1 n1 c1, .slice a2 n2 c2] 27)).alloc (.cells #[.slice none 0 0, .bool false, .slice none 0 0, .slice none 0 0] 29) = W at *
  have hA := hP.b0
  have hC := hP.b1
  have hR := hP.b2
  have hPb := hP.below
  have qW := hq.on hPb
  have e0 : sgR 0 = 0 := rfl
  have y0 := hC.cell 0
  have y1 := hC.cell 1
  have y2 := hC.cell 2
  simp at y0 y1 y2
  clear hP hq
  go_wp2_with fail
  refine (rsign_c W qW (by rw [H_zero]; omega)).mono ?_
  rintro e w5 ⟨rfl, hb5⟩
  rw [e0]
  have hA5 := hA.on hb5
  have hR5 := hR.on hb5
  have z0 := hA5.cell 0
  have z1 := hA5.cell 1
  have z2 := hA5.cell 2
  have z3 := hA5.cell 3
  have k0 := hR5.cell 0
  have k1 := hR5.cell 1
  have k2 := hR5.cell 2
  have k3 := hR5.cell 3
  have f0 := hR5.frozen 0
  have f1 := hR5.frozen 1
  have f2 := hR5.frozen 2
  have f3 := hR5.frozen 3
  have zz := hR5.lt
  have hw5 : Below w.heap.size w w5 := hPb.trans (hb5.mono (by have := hPb.size; omega))
  have hgr := below_grown hw5 (Value.slice ad n c).ownBlock
  have hne : (Value.slice ad n c).ownBlock ≠ some (w.heap.size + 1 + 1) := fun h9 => by have := (hr.own.lt _ h9).2; omega
  simp at z0 z1 z2 z3 k0 k1 k2 k3
  clear e0
  go_wp2_with fail
  exact bodyPost_ret (v := .agg #[.slice ad n c, .bool k.neg, .slice k.a1 k.n1 k.c1, .slice k.a2 k.n2 k.c2]) (by simp [results, Tryz.results92, go_sem, *]) rfl
    ⟨_, _, _, _, rfl, (hr.on hw5).set4 hne _ _ _ _, fun i t ht => ((ha i t ht).on hw5).set4 hR5 _ _ _ _ _ _ _ _ _ _, .inl ⟨rfl, rfl⟩, grown_set4 w hgr (by omega) _ _ _ _, by omega⟩

theorem term_zero : ∀ x ∈ (Value.agg #[.int .i64 0, .bool false, .slice none 0 0, .slice none 0 0]).cells, NotU x := by
  intro x hx z
  simp [Value.cells] at hx
  rcases hx with rfl | rfl | rfl <;> simp
theorem Row.alloc_ {Qc : Value → Prop} {w : World} {base : Nat} {e : TypeId} {size : Nat} {v : Value} {n : Nat} {xs : List Value} (h : Row Qc w base e size v n xs) (o : Obj) : Row Qc (w.alloc o) base e size v n xs :=
  h.on ((Below.refl _ _).alloc (Nat.le_refl _) _)

set_option maxRecDepth 100000 in
set_option maxHeartbeats 6400000 in
theorem put_some (w : World) (base : Nat) {ad : Option Addr} {n c : Nat} {ts : List TD} {k : RD} (v : Int) {s1 : Bool} {a1 a2 : Option Addr} {n1 n2 c1 c2 : Nat} {q : Rat} (hr : Row NotU w base 52 4 (.slice ad n c) n (tcells ts)) (ha : AllIn w ts) (hq : RatC w s1 a1 n1 c1 a2 n2 c2 q) (hH : H q ≤ 274877906944) (hn : n ≤ 1073741824) (hbase : base ≤ w.heap.size) (h0 : q ≠ 0) :
    Calls Tryz.prog 92 #[.agg #[.slice ad n c, .bool k.neg, .slice k.a1 k.n1 k.c1, .slice k.a2 k.n2 k.c2], .int .i64 v, .agg #[.bool s1, .slice a1 n1 c1, .slice a2 n2 c2]] w (PutPost base ad n c ts k v q w) := by
  have hP := Pro3.mk' w #[.slice ad n c, .bool k.neg, .slice k.a1 k.n1 k.c1, .slice k.a2 k.n2 k.c2] #[.bool s1, .slice a1 n1 c1, .slice a2 n2 c2] #[.slice none 0 0, .bool false, .slice none 0 0, .slice none 0 0] 29 27 29
  go_enter Tryz.func92, Tryz.ntmps92
  go_upto_region 1 with (fail)
  generalize ((w.alloc (.cells #[.slice ad n c, .bool k.neg, .slice k.a1 k.n1 k.c1, .slice k.a2 k.n2 k.c2] 29)).alloc (.cells #[.bool s1, .slice a1 n1 c1, .slice a2 n2 c2] 27)).alloc (.cells #[.slice none 0 0, .bool false, .slice none 0 0, .slice none 0 0] 29) = W at *
  have hA := hP.b0
  have hC := hP.b1
  have hR := hP.b2
  have hPb := hP.below
  have qW := hq.on hPb
  have y0 := hC.cell 0
  have y1 := hC.cell 1
  have y2 := hC.cell 2
  have HPS := Lib.hid hP.size
  simp at y0 y1 y2
  clear hP hq
  go_wp2_with fail
  refine (rsign_c W qW hH).mono ?_
  rintro e w4 ⟨rfl, hb4⟩
  have es : (sgR q != 0) = true := by simp; exact fun h9 => h0 (sgR_eq_zero.1 h9)
  have H0 := Lib.hid h0
  clear h0
  generalize sgR q = sg at *
  have hA4 := hA.on hb4
  have hR4 := hR.on hb4
  have hC4 := hC.on hb4
  have q4 := qW.on hb4
  have hw4 : Below w.heap.size w w4 := hPb.trans (hb4.mono (by have := HPS.out; omega))
  have hr4 := hr.on hw4
  have ha4 : AllIn w4 ts := fun i t ht => (ha i t ht).on hw4
  have y0 := hC4.cell 0
  have y1 := hC4.cell 1
  have y2 := hC4.cell 2
  have x0 := hA4.cell 0
  have cz := hC4.lt
  have az := hA4.lt
  have rz := hR4.lt
  simp at y0 y1 y2 x0
  have hlt : ∀ g, (Value.slice ad n c).ownBlock = some g → g < w.heap.size := fun g h9 => (hr.own.lt g h9).2
  have HLT := Lib.hid hlt
  obtain ⟨i0, hi0, hz0, hz1, hz2⟩ := info_parts Tryz.infoTerm
  have HI := Lib.hid (And.intro hi0 (And.intro hz0 (And.intro hz1 hz2)))
  have hU0 : Below w4.heap.size w4 w4.drew := Below.drew (Below.refl _ _)
  have HBS := Lib.hid hbase
  have HWS := Lib.hid hw4.size
  clear hb4 qW hA hR hC hr ha hlt hi0 hz0 hz1 hz2
  go_upto_region 2 with (fail)
  refine wp_region_T 9 (fun w' => w'.cell? ⟨w.heap.size + 1, 0, none⟩ = some (.bool s1) ∧ w'.cell? ⟨w.heap.size + 1, 1, none⟩ = some (.slice a1 n1 c1) ∧ w'.cell? ⟨w.heap.size + 1, 2, none⟩ = some (.slice a2 n2 c2) ∧ w'.cell? ⟨w.heap.size, 0, none⟩ = some (.slice ad n c)) (by kernel_rfl) (by (try dsimp only); go_keep) (fun hHeld => ?_)
  refine wpT_take 0 (v := ?_) rfl (by kernel_rfl) (fun _ _ _ h => h) (by rfl) (by assumption) ?_ ?_
  rotate_left
  · (intro w9 hS9; (try dsimp only at hS9); go_simp; try with_reducible rfl)
  try simp only [Act.put, List.setIfInBounds_toArray, List.set_cons_zero, List.set_cons_succ]
  refine wpT_take 1 (v := ?_) rfl (by kernel_rfl) (fun _ _ _ h => h) (by rfl) (by assumption) ?_ ?_
  rotate_left
  · (intro w9 hS9; (try dsimp only at hS9); go_simp; try with_reducible rfl)
  try simp only [Act.put, List.setIfInBounds_toArray, List.set_cons_zero, List.set_cons_succ]
  refine wpT_take 2 (v := ?_) rfl (by kernel_rfl) (fun _ _ _ h => h) (by rfl) (by assumption) ?_ ?_
  rotate_left
  · (intro w9 hS9; (try dsimp only at hS9); go_simp; try with_reducible rfl)
  try simp only [Act.put, List.setIfInBounds_toArray, List.set_cons_zero, List.set_cons_succ]
  refine wpT_take 3 (v := ?_) rfl (by kernel_rfl) (fun _ _ _ h => h) (by rfl) (by assumption) ?_ ?_
  rotate_left
  · (intro w9 hS9; (try dsimp only at hS9); go_simp; try with_reducible rfl)
  try simp only [Act.put, List.setIfInBounds_toArray, List.set_cons_zero, List.set_cons_succ]
  refine wpT_only 4 rfl (by kernel_rfl) (fun K hK => ?_)
  go_simp
  go_at_call 59; refine (canon_c _ (q4.on hU0) hH).mono ?_; rintro e w5 ⟨s5, a5, n5, c5, a6, n6, c6, rfl, g5, hb5'⟩; have hb5 : Below w4.heap.size w4 w5 := hU0.trans hb5'; obtain ⟨hc5, hf5⟩ := bcell hb5; have hr5 := hr4.on hb5; have zw5 := Nat.lt_of_lt_of_le cz hb5.size; have aw5 := Nat.lt_of_lt_of_le az hb5.size
  go_wp2_with fail
  clear hHeld
  refine hK.out _ _ ?_ (fun hHeld => ?_)
  · (try dsimp only); go_keep
  clear hK K
  try simp only [Act.put, List.setIfInBounds_toArray, List.set_cons_zero, List.set_cons_succ]
  refine wpT_take 5 (v := ?_) rfl (by kernel_rfl) (fun _ _ _ h => h) (by rfl) (by assumption) ?_ ?_
  rotate_left
  · (intro w9 hS9; (try dsimp only at hS9); go_simp; try with_reducible rfl)
  try simp only [Act.put, List.setIfInBounds_toArray, List.set_cons_zero, List.set_cons_succ]
  refine wpT_only 6 rfl (by kernel_rfl) (fun K hK => ?_)
  go_simp
  clear hHeld
  refine hK.out _ _ ?_ (fun hHeld => ?_)
  · (try dsimp only); go_keep
  clear hK K
  try simp only [Act.put, List.setIfInBounds_toArray, List.set_cons_zero, List.set_cons_succ]
  refine wpT_only 7 rfl (by kernel_rfl) (fun K hK => ?_)
  refine step_row _ rfl (.tmp 11) (.tmp 16) _ rfl base 52 i0 (.agg #[.int .i64 0, .bool false, .slice none 0 0, .slice none 0 0]) 4 64 Tryz.underlying23 HI.out.1 HI.out.2.1 HI.out.2.2.1 HI.out.2.2.2 rfl (by omega) (.slice ad n c) n (tcells ts) rfl (hr5.alloc_ _) ⟨w5.heap.size, 0, none⟩ 1 1 [.int .i64 v, .bool s5, .slice a5 n5 c5, .slice a6 n6 c6] rfl rfl (term_news _ _ _ _ _ _) (term_one _ _ _ _ _ _ _ _) (by simp only [maxLen]; omega) (by omega) (by have := HBS.out; have := HWS.out; have := hb5.size; simp; omega) (by omega) term_zero (term_notU _ _ _ _ _ _ _ _) ?_; intro v7 w7 hr7 hg7 ho7; obtain ⟨ad7, c7, rfl⟩ := hr7.shape; have hA7 := ((hA4.on hb5).alloc _).grown hg7 (fun h9 => by have := HLT.out _ h9.symm; omega); have hR7 := ((hR4.on hb5).alloc _).grown hg7 (fun h9 => by have := HLT.out _ h9.symm; omega); have hC7 := ((hC4.on hb5).alloc _).grown hg7 (fun h9 => by have := HLT.out _ h9.symm; omega); have c70 := hC7.cell 0; have c71 := hC7.cell 1; have c72 := hC7.cell 2; have z0 := hA7.cell 0; have z1 := hA7.cell 1; have z2 := hA7.cell 2; have z3 := hA7.cell 3; have z4 := hA7.frozen 0; have k0 := hR7.cell 0; have k1 := hR7.cell 1; have k2 := hR7.cell 2; have k3 := hR7.cell 3; have f0 := hR7.frozen 0; have f1 := hR7.frozen 1; have f2 := hR7.frozen 2; have f3 := hR7.frozen 3; have zz := hR7.lt; have za := hA7.lt; simp at z0 z1 z2 z3 k0 k1 k2 k3 c70 c71 c72
  clear hHeld
  refine hK.out _ _ ?_ (fun hHeld => ?_)
  · (try dsimp only); go_keep
  clear hK K
  try simp only [Act.put, List.setIfInBounds_toArray, List.set_cons_zero, List.set_cons_succ]
  refine wpT_take 8 (v := ?_) rfl (by kernel_rfl) (fun _ _ _ h => h) (by rfl) (by assumption) ?_ ?_
  rotate_left
  · (intro w9 hS9; (try dsimp only at hS9); go_simp; try with_reducible rfl)
  try simp only [Act.put, List.setIfInBounds_toArray, List.set_cons_zero, List.set_cons_succ]
  refine wpT_last 9 rfl rfl (by kernel_rfl) (fun K hK => ?_)
  go_simp
  refine hK.out _ _ ?_
  clear hK K
  try simp only [Act.put, List.setIfInBounds_toArray, List.set_cons_zero, List.set_cons_succ]
  refine wpT_done (by kernel_rfl) ?_ _
  all_goals
    have hal : w5.grownBy (w5.alloc (.cells #[.int .i64 v, .bool s5, .slice a5 n5 c5, .slice a6 n6 c6] 52)) (Value.slice ad n c).ownBlock := World.grownBy_alloc _ _ _
    have hg47 := grown_trans (grown_trans (below_grown (hw4.trans (hb5.mono hw4.size)) (Value.slice ad n c).ownBlock) hal) hg7
    have hal' : Below w5.heap.size w5 (w5.alloc (.cells #[.int .i64 v, .bool s5, .slice a5 n5 c5, .slice a6 n6 c6] 52)) := (Below.refl _ _).alloc (Nat.le_refl _) _
    have g7 := ((g5.on hal').row (hr5.alloc_ _) hg7).rd
    have ha7 : AllIn w7 ts := fun i t ht => (((ha4 i t ht).on hb5).on hal').row (hr5.alloc_ _) hg7
    have hA8 : Blk (w7.setCell ⟨w.heap.size, 0, none⟩ (.slice ad7 (n + 1) c7)) w.heap.size 29 #[.slice ad7 (n + 1) c7, .bool k.neg, .slice k.a1 k.n1 k.c1, .slice k.a2 k.n2 k.c2] := by simpa using hA7.set_ 0 (.slice ad7 (n + 1) c7)
    have hR8 : Blk (w7.setCell ⟨w.heap.size, 0, none⟩ (.slice ad7 (n + 1) c7)) (w.heap.size + 1 + 1) 29 #[.slice none 0 0, .bool false, .slice none 0 0, .slice none 0 0] := hR7.far (p := ⟨w.heap.size, 0, none⟩) (by show w.heap.size + 1 + 1 ≠ w.heap.size; omega) _
    have rz5 := Nat.lt_of_lt_of_le rz hb5.size
    have hne7 : ∀ B, w.heap.size ≤ B → B < w5.heap.size → (Value.slice ad7 (n + 1) c7).ownBlock ≠ some B := fun B h1 h2 h3 => by
      rcases ho7 with h9 | h9
      · have := HLT.out _ (h9.symm.trans h3); omega
      · rw [h3] at h9; simp at h9; omega
    go_wp2_with fail
    exact bodyPost_ret (v := .agg #[.slice ad7 (n + 1) c7, .bool k.neg, .slice k.a1 k.n1 k.c1, .slice k.a2 k.n2 k.c2]) (by simp [results, Tryz.results92, go_sem, *]) rfl
      ⟨_, _, _, ts ++ [⟨v, rdOf s5 a5 n5 c5 a6 n6 c6 q⟩], rfl, by rw [tcells_append]; exact (hr7.setc (hne7 _ (by omega) (by omega)) _ _).set4 (hne7 _ (by omega) (by omega)) _ _ _ _,
        AllIn.snoc (fun i t ht => ((ha7 i t ht).setB hA7 notU_box 0 _).set4 hR8 _ _ _ _ _ _ _ _ _ _) ((g7.1.setB hA7 notU_box 0 _).set4 hR8 _ _ _ _ _ _ _ _ _ _),
        .inr ⟨H0.out, _, rfl, g7.2.1, g7.2.2⟩, grown_set4 w (grown_set w hg47 (Nat.le_refl _) _ _) (by omega) _ _ _ _, by omega⟩
end Go.Proofs.YtledagemcknlcaaGreat
