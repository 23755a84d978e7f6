/- graph.Scale, relucertref15.Scale, Equal, relucertlaw15.same: what the calls return; relucertlaw15.GraphScale returns true. relucertref15.Permute, graph.Permute: what the calls return; relucertlaw15.GraphPermute returns true. -/
import Derived.Test.YtlpmemelhlnfbaaGreatDoorGA14
import Derived.Test.YtlpmemelhlnfbaaGreatDoorGA15
import Derived.Test.YtlpmemelhlnfbaaGreatDoorGA6
import Derived.Test.YtlpmemelhlnfbaaGreatDoorGA7
import Derived.Test.YtlpmemelhlnfbaaGreatDoorGA10
set_option linter.all false
set_option linter.all false
set_option maxRecDepth 100000
set_option maxHeartbeats 6400000
namespace Go.Proofs.YtlpmemelhlnfbaaGreatDoor
open Go.RowKit
attribute [local irreducible] run runL loopG exec gls

theorem fea_same {n : Nat} {L : List Form} (hl : L.length ≤ 100000000) (hB : ∀ f ∈ L, BdF 17179869184 f) : run (n + 1) 90 [.sl 4 (L.map formC), .sl 4 (L.map formC)] = some (.lit (.bool true)) := by
  refine fea_f3 rfl (loopG_I (O := tab (n + 1)) (P := Tryz.prog) (m := 0) (N := 27) (lives := livesOf 90) (r := 4) (C := fea_C4) (L := L) (f := fun _ (b : Unit) _ => b) (enc := fun i _ => fea_h4 L L i) (exN := .exit 0) (out := fun _ => fea_o4b) (Inv := fun _ _ => True) () trivial (by omega) (by simp)
    (fun i f b hi hI => by
      have hlt := (List.getElem?_eq_some_iff.1 hi).1
      have hf := hB f (List.mem_of_getElem? hi)
      have K := feq_c (n := n) hf hf
      rw [tv_t rfl] at K
      exact ⟨fea_r4_1 (by omega) hi hi K rfl ⟨by omega, by omega⟩, trivial⟩)
    (fun b hI => fea_x4_2 (by omega))).1
theorem rEq_same {n : Nat} {g : TGraph} (hB : BdG 17179869184 g) : run (n + 2) 24 [graphV g, graphV g] = some (.lit (.bool true)) :=
  rEq_f1 rfl (fea_same (n := n) hB.lu hB.u) rfl (fea_same (n := n) hB.lo hB.o)
section
variable {n : Nat} {g : TGraph} {j : Int} {c : Raw}
theorem GrOk.uu (hg : GrOk g) : ∀ f ∈ g.Units, TmB 2 f.1 ∧ Srt f.1 ∧ H f.2 ≤ 2 ∧ f.1.length ≤ 7 := fun f hf => by
  obtain ⟨i, hi⟩ := List.mem_iff_getElem?.1 hf
  have h := hg.un i f hi
  exact ⟨h.tm, h.srt, h.k, hg.lu f hf⟩
theorem GrOk.oo (hg : GrOk g) : ∀ f ∈ g.Outputs, TmB 2 f.1 ∧ Srt f.1 ∧ H f.2 ≤ 2 ∧ f.1.length ≤ 7 := fun f hf => ⟨(hg.ou f hf).tm, (hg.ou f hf).srt, (hg.ou f hf).k, hg.lo f hf⟩
theorem zero_gr : graphV ⟨0, [], []⟩ = .agg [.lit (.int .i64 0), .sl 4 [], .sl 4 []] := by simp
end
end Go.Proofs.YtlpmemelhlnfbaaGreatDoor
set_option linter.all false
set_option maxRecDepth 100000
set_option maxHeartbeats 6400000
namespace Go.Proofs.YtlpmemelhlnfbaaGreatDoor
open Go.RowKit
attribute [local irreducible] run runL loopG exec gpl

theorem foldI_snoc {α β : Type} (g : α → β) : ∀ (R : List α) (i : Nat) (o : List β), foldI (fun _ o x => o ++ [g x]) i o R = o ++ R.map g
  | [], i, o => by simp [foldI]
  | x :: R, i, o => by rw [foldI, foldI_snoc g R]; simp
theorem rnT_mem {nw : Int → Int} {F : List (Int × Rat)} {t : Int × Rat} (h : t ∈ rnT nw F) : ∃ u ∈ F, t = (nw u.1, u.2) := by
  obtain ⟨u, hu, rfl⟩ := List.mem_map.1 h
  exact ⟨u, hu, rfl⟩
theorem rnd_c {n : Nat} {f : Form} {T : List Int} {nw : Int → Int} (hT : ∀ t ∈ f.1, 0 ≤ t.1 ∧ T[t.1.toNat]? = some (nw t.1)) (h0 : ∀ t ∈ f.1, 0 ≤ nw t.1) (hl : f.1.length ≤ 1000) (hb : ∀ t ∈ f.1, H t.2 ≤ 900) (hk : H f.2 ≤ 900) :
    run (n + 3) 110 [formV f, .sl 1 (T.map intI64C)] = some (formV (rnF nw f)) := by
  have L1 := (loopG_I (O := tab (n + 3)) (P := Tryz.prog) (m := 0) (N := 43) (lives := livesOf 110) (r := 3) (C := rnd_C3) (L := f.1) (f := fun _ o (t : Int × Rat) => o ++ [(nw t.1, t.2)]) (enc := fun i o => rnd_h3 f T o i) (exN := .exit 0) (out := fun o => rnd_o3a f o) (Inv := fun i o => o.length = i) [] rfl (by omega) (by simp)
    (fun i t o hi hI => by
      obtain ⟨v, q⟩ := t
      have hlt := (List.getElem?_eq_some_iff.1 hi).1
      obtain ⟨a, b⟩ := hT _ (List.mem_of_getElem? hi)
      exact ⟨rnd_r3_1 (by omega) hi b a (by omega) ⟨by omega, by omega⟩, by rw [List.length_append, hI]; rfl⟩)
    (fun o hI => rnd_x3_1 (by omega))).1
  rw [foldI_snoc (fun t : Int × Rat => (nw t.1, t.2)), List.nil_append] at L1
  have K := fmk_ok (n := n) (L := rnT nw f.1) (a1 := f.2) (b := 900) (by rw [rnT_len]; exact hl) (fun t ht => by
    obtain ⟨u, hu, rfl⟩ := rnT_mem ht
    exact hb u hu) (by omega) (by omega) (fun t ht => by
    obtain ⟨u, hu, rfl⟩ := rnT_mem ht
    exact h0 u hu)
  exact rnd_f1 L1 K
theorem gp1_c {n m : Nat} {g : TGraph} {ord P : List Int} {v : Int} (hP : Perm2 m ord P) (hI : 0 ≤ g.Inputs ∧ g.Inputs ≤ 1000) (hm : m ≤ 1000) (h0 : 0 ≤ v) (h1 : v < g.Inputs + (m : Int)) :
    run n 107 [.lit (.int .i64 v), .mem (graphC g), .mem [.sl 1 (P.map intI64C)]] = some (.lit (.int .i64 (toP g.Inputs P v))) := by
  by_cases c : v < g.Inputs
  · have e : toP g.Inputs P v = v := by unfold toP; rw [if_pos c]
    rw [e]
    exact gp1_f1 c
  · obtain ⟨j, a1, a2, a3⟩ := hP.val (v - g.Inputs).toNat (by omega)
    have e := toP_at (I := g.Inputs) a2
    rw [show g.Inputs + ((v - g.Inputs).toNat : Int) = v from by omega] at e
    rw [e]
    exact gp1_f2 c ⟨by omega, by omega⟩ a2 (by omega) ⟨by omega, by omega⟩
theorem grp_c {n m : Nat} {f : Form} {g : TGraph} {ord P : List Int} (hP : Perm2 m ord P) (hI : 0 ≤ g.Inputs ∧ g.Inputs ≤ 1000) (hm : m ≤ 1000) (hv : ∀ t ∈ f.1, 0 ≤ t.1 ∧ t.1 < g.Inputs + (m : Int)) (hl : f.1.length ≤ 19) (hb : ∀ t ∈ f.1, H t.2 ≤ 900) (hk : H f.2 ≤ 900) :
    run (n + 46) 108 [formV f, .clo 107 [.mem (graphC g), .mem [.sl 1 (P.map intI64C)]]] = some (formV (rnF (toP g.Inputs P) f)) := by
  have L1 := (loopG_I (O := tab (n + 46)) (P := Tryz.prog) (m := 0) (N := 36) (lives := livesOf 108) (r := 3) (C := grp_C3) (L := f.1) (f := fun _ o (t : Int × Rat) => o ++ [(toP g.Inputs P t.1, t.2)]) (enc := fun i o => grp_h3 f g P o i) (exN := .exit 0) (out := fun o => grp_o3a f o) (Inv := fun i o => o.length = i) [] rfl (by omega) (by simp)
    (fun i t o hi hI => by
      obtain ⟨v, q⟩ := t
      have hlt := (List.getElem?_eq_some_iff.1 hi).1
      obtain ⟨a, b⟩ := hv _ (List.mem_of_getElem? hi)
      exact ⟨grp_r3_1 (by omega) hi (gp1_c (n := n + 45) hP ‹_› hm a b) (by omega) ⟨by omega, by omega⟩, by rw [List.length_append, hI]; rfl⟩)
    (fun o hI => grp_x3_1 (by omega))).1
  rw [foldI_snoc (fun t : Int × Rat => (toP g.Inputs P t.1, t.2)), List.nil_append] at L1
  have K := lmk_ok (n := n) (L := rnT (toP g.Inputs P) f.1) (a1 := f.2) (b := 900) (by rw [rnT_len]; exact hl) (fun t ht => by
    obtain ⟨u, hu, rfl⟩ := rnT_mem ht
    exact hb u hu) (by omega) (by omega) (fun t ht => by
    obtain ⟨u, hu, rfl⟩ := rnT_mem ht
    exact (toP_rg hP (hv u hu).1 (hv u hu).2 hI.1).1)
  exact grp_f1 L1 K
def fillL (L : List Int) (i : Nat) : List Int := L.take i ++ List.replicate (L.length - i) 0
theorem fill_set {L : List Int} {i : Nat} {y : Int} (h : L[i]? = some y) : (fillL L i).set i y = fillL L (i + 1) := by
  have hl := (List.getElem?_eq_some_iff.1 h).1
  unfold fillL
  rw [List.set_append_right _ _ (by rw [List.length_take]; omega), List.length_take, show i - min i L.length = 0 from by omega, show L.length - i = (L.length - (i + 1)) + 1 from by omega, List.replicate_succ, List.set_cons_zero, List.take_add_one, h, List.append_assoc]
  rfl
theorem fill_len {L : List Int} {i : Nat} (h : i ≤ L.length) : (fillL L i).length = L.length := by
  unfold fillL
  rw [List.length_append, List.length_take, List.length_replicate]; omega
theorem fill_0 (L : List Int) : fillL L 0 = List.replicate L.length 0 := by
  unfold fillL
  rw [List.take_zero, List.nil_append, Nat.sub_zero]
theorem fill_all (L : List Int) : fillL L L.length = L := by
  unfold fillL
  rw [List.take_length, Nat.sub_self, List.replicate_zero, List.append_nil]
def toL (I : Int) (P : List Int) : List Int := (List.range I.toNat).map (fun i : Nat => (i : Int)) ++ P.map fun y => if y < 0 then -1 else I + y
theorem toL_len (I : Int) (P : List Int) : (toL I P).length = I.toNat + P.length := by
  unfold toL
  rw [List.length_append, List.length_map, List.length_map, List.length_range]
theorem toL_lo {I : Int} {P : List Int} {i : Nat} (h : (i : Int) < I) : (toL I P)[i]? = some (i : Int) := by
  unfold toL
  rw [List.getElem?_append_left (by rw [List.length_map, List.length_range]; omega), List.getElem?_map, List.getElem?_range (by omega)]
  rfl
theorem toL_hi {I : Int} {P : List Int} {i : Nat} {y : Int} (hI : 0 ≤ I) (h : P[i]? = some y) : (toL I P)[(I + (i : Int)).toNat]? = some (if y < 0 then -1 else I + y) := by
  unfold toL
  rw [List.getElem?_append_right (by rw [List.length_map, List.length_range]; omega), List.length_map, List.length_range, List.getElem?_map, show (I + (i : Int)).toNat - I.toNat = i from by omega, h]
  rfl
theorem toL_set {I : Int} {P : List Int} {i : Nat} {k : Int} (hI : 0 ≤ I) (hk : 0 ≤ k) : (toL I P).set (I + (i : Int)).toNat (I + k) = toL I (P.set i k) := by
  unfold toL
  rw [List.set_append_right _ _ (by rw [List.length_map, List.length_range]; omega), List.length_map, List.length_range, show (I + (i : Int)).toNat - I.toNat = i from by omega, List.map_set, if_neg (by omega)]
theorem toL_at {I : Int} {m : Nat} {ord P : List Int} {v : Int} (h : Perm2 m ord P) (hI : 0 ≤ I) (h0 : 0 ≤ v) (h1 : v < I + (m : Int)) : (toL I P)[v.toNat]? = some (toP I P v) := by
  by_cases c : v < I
  · rw [toL_lo (by omega)]
    unfold toP
    rw [if_pos c]; congr 1; omega
  · obtain ⟨j, a1, a2, a3⟩ := h.val (v - I).toNat (by omega)
    have e := toP_at (I := I) a2
    have e2 := toL_hi hI a2
    rw [show I + ((v - I).toNat : Int) = v from by omega] at e e2
    rw [e2, e, if_neg (by omega)]
def plS (m : Nat) (k : Nat) (P : List Int) (x : Int) : Except (List Int) (List Int) := if x < 0 ∨ (m : Int) ≤ x ∨ 0 ≤ P.getD x.toNat 0 then .error P else .ok (P.set x.toNat (k : Int))
theorem take_snoc {α : Type} {L : List α} {k : Nat} {x : α} (h : L[k]? = some x) : L.take (k + 1) = L.take k ++ [x] := by rw [List.take_add_one, h]; rfl
theorem prmU_get {nw : Int → Int} {U : List Form} {ord : List Int} {k : Nat} {x : Int} {f : Form} (h : ord[k]? = some x) (hf : U[x.toNat]? = some f) : (prmU nw U ord)[k]? = some (rnF nw f) := by
  rw [prmU, List.getElem?_map, h, Option.map_some, List.getD_eq_getElem?_getD, hf]; rfl
theorem prmU_len (nw : Int → Int) (U : List Form) (ord : List Int) : (prmU nw U ord).length = ord.length := List.length_map _
section
variable {n : Nat} {g : TGraph} {ord : List Int}
theorem rn_small {nw : Int → Int} {f : Form} (h : TmB 2 f.1) (hl : f.1.length ≤ 7) (hk : H f.2 ≤ 2) : BdF 21 (rnF nw f) ∧ (rnF nw f).1.length ≤ 7 := by
  obtain ⟨a, b, c⟩ := rn_bd (nw := nw) h hl hk
  exact ⟨TmB.bd a (by omega) (by omega), b⟩
theorem prm_ub (hg : GrOk g) (ho : ord.length = g.Units.length) (nw : Int → Int) : ∀ f ∈ prmU nw g.Units ord, BdF 21 f ∧ f.1.length ≤ 7 := fun f hf => by
  obtain ⟨x, hx, rfl⟩ := List.mem_map.1 hf
  rw [List.getD_eq_getElem?_getD]
  cases e : g.Units[x.toNat]? with
  | none => exact rn_small (f := ([], 0)) (fun t ht => by cases ht) (by simp) (by show H 0 ≤ 2; decide)
  | some f0 =>
    obtain ⟨a, b, c, d⟩ := hg.uu f0 (List.mem_of_getElem? e)
    exact rn_small a d c
theorem prm_bd (hg : GrOk g) (ho : ord.length = g.Units.length) (P : List Int) : BdG 21 (prmG g ord P) ∧ (∀ f ∈ (prmG g ord P).Units, f.1.length ≤ 7) ∧ ∀ f ∈ (prmG g ord P).Outputs, f.1.length ≤ 7 := by
  have hu := hg.u
  have hq := hg.o1
  have hU := prm_ub hg ho (toP g.Inputs P)
  have hO : ∀ f ∈ (prmG g ord P).Outputs, BdF 21 f ∧ f.1.length ≤ 7 := fun f hf => by
    obtain ⟨f0, h0, rfl⟩ := List.mem_map.1 (show f ∈ g.Outputs.map (rnF (toP g.Inputs P)) from hf)
    obtain ⟨a, b, c, d⟩ := hg.oo f0 h0
    exact rn_small a d c
  exact ⟨⟨by show (prmU _ _ _).length ≤ _; rw [prmU_len]; omega, by show (g.Outputs.map _).length ≤ _; rw [List.length_map]; omega, fun f hf => (hU f hf).1, fun f hf => (hO f hf).1⟩, fun f hf => (hU f hf).2, fun f hf => (hO f hf).2⟩
def PrmV (g : TGraph) (ord P : List Int) : Prop := ∀ (k : Nat) (f : Form), (prmU (toP g.Inputs P) g.Units ord)[k]? = some f → OkFm f (g.Inputs + (k : Int))
theorem prm_ok (hg : GrOk g) {P : List Int} (ho : ord.length = g.Units.length) (hP : Perm2 g.Units.length ord P) : OkGr (prmG g ord P) ↔ PrmV g ord P := by
  have h1 := hg.i0
  have h2 := hg.i1
  have h3 := hg.u
  have h4 := hg.o0
  have h5 := hg.o1
  constructor
  · intro h k f hf
    exact h.un k (List.getElem?_eq_some_iff.1 hf).1 f hf
  · intro h
    refine ⟨by show 1 ≤ g.Inputs; omega, by show g.Inputs ≤ 256; omega, ?_, ?_, ?_, fun i _ f hf => h i f hf, fun f hf => ?_⟩
    · show ((prmU _ _ _).length : Int) ≤ 1024; rw [prmU_len]; omega
    · show (1 : Int) ≤ ((g.Outputs.map _).length : Int); rw [List.length_map]; omega
    · show ((g.Outputs.map _).length : Int) ≤ 256; rw [List.length_map]; omega
    · obtain ⟨f0, h0, rfl⟩ := List.mem_map.1 (show f ∈ g.Outputs.map (rnF (toP g.Inputs P)) from hf)
      have k1 := (hg.ou f0 h0).inr
      have k2 : InR (g.Inputs.toNat + g.Units.length) (rnF (toP g.Inputs P) f0).1 := rn_inr fun t ht => by
        have a := k1 t ht
        have b := toP_rg hP (I := g.Inputs) a.1 (by omega) (by omega)
        omega
      have e : (prmG g ord P).Inputs + ((prmG g ord P).Units.length : Int) = ((g.Inputs.toNat + g.Units.length : Nat) : Int) := by
        show g.Inputs + ((prmU _ _ _).length : Int) = _
        rw [prmU_len]; omega
      rw [e]
      exact okF_of (rn_srt _ _) k2
theorem PrmV.in (hg : GrOk g) {P : List Int} (h : PrmV g ord P) : ∀ k f, (prmU (toP g.Inputs P) g.Units ord)[k]? = some f → InR (g.Inputs.toNat + k) f.1 := fun k f hf t ht => by
  obtain ⟨i, hi⟩ := List.mem_iff_getElem?.1 ht
  have h1 := h k f hf i (List.getElem?_eq_some_iff.1 hi).1 t.1 t.2 hi
  have h2 := hg.i0
  have h3 := h1.2.1
  exact ⟨h1.1, by omega⟩
theorem gpl_l10 (hm : ord.length ≤ 1000) :
    loopG Tryz.prog (tab (n + 93)) 0 106 (livesOf 45) 10 gPm_C10 (gPm_h10 g ord 0 (List.replicate ord.length (-1))) = some (endE (foldE (plS ord.length) 0 (List.replicate ord.length (-1)) ord) (.exit 2) (gPm_o10b g ord) .ret (gPm_o10a g ord)) ∧
      ∀ P, foldE (plS ord.length) 0 (List.replicate ord.length (-1)) ord = .ok P → PlI ord.length ord ord.length P :=
  loopG_E (O := tab (n + 93)) (P := Tryz.prog) (m := 0) (N := 106) (lives := livesOf 45) (r := 10) (C := gPm_C10) (L := ord) (f := plS ord.length) (enc := fun i P => gPm_h10 g ord i P) (exN := .exit 2) (out := gPm_o10b g ord) (exE := .ret) (outE := gPm_o10a g ord) (Inv := fun k P => PlI ord.length ord k P) _ (PlI.start _ _) (by omega) (by simp) (by simp)
    (fun i x P hi hI => by
      have hlt := (List.getElem?_eq_some_iff.1 hi).1
      have hl := hI.len
      by_cases c1 : x < 0
      · rw [show plS ord.length i P x = .error P from if_pos (.inl c1)]
        exact gPm_x10_1 (by omega) hi c1
      by_cases c2 : (ord.length : Int) ≤ x
      · rw [show plS ord.length i P x = .error P from if_pos (.inr (.inl c2))]
        exact gPm_x10_2 (by omega) hi c1 c2
      obtain ⟨y, hy⟩ : ∃ y, P[x.toNat]? = some y := ⟨_, List.getElem?_eq_getElem (by omega)⟩
      have ey : P.getD x.toNat 0 = y := by rw [List.getD_eq_getElem?_getD, hy]; rfl
      by_cases c3 : 0 ≤ y
      · rw [show plS ord.length i P x = .error P from if_pos (.inr (.inr (by rw [ey]; exact c3)))]
        exact gPm_x10_3 (by omega) hi c1 c2 (by omega) (by omega) hy (by omega) c3
      · rw [show plS ord.length i P x = .ok (P.set x.toNat (i : Int)) from if_neg (by rw [ey]; omega)]
        exact ⟨gPm_r10_1 (by omega) hi c1 c2 (by omega) (by omega) hy (by omega) c3 ⟨by omega, by omega⟩, hI.step hi (by omega) (by omega) hy c3⟩)
    (fun P hI => gPm_x10_4 (by omega))
theorem fpl_l11 (hm : ord.length ≤ 1000) (hg : GrOk g) (ho : ord.length = g.Units.length) :
    loopG Tryz.prog (tab (n + 4)) 0 144 (livesOf 46) 11 fPm_C11 (fPm_h11 g ord (toL g.Inputs (List.replicate ord.length (-1))) 0) = some (endE (foldE (plS ord.length) 0 (List.replicate ord.length (-1)) ord) (.exit 2) (fun P => fPm_o11b g ord (toL g.Inputs P)) .ret (fun P => fPm_o11a g ord (toL g.Inputs P))) := by
  have i0 := hg.i0
  have i1 := hg.i1
  exact (loopG_E (O := tab (n + 4)) (P := Tryz.prog) (m := 0) (N := 144) (lives := livesOf 46) (r := 11) (C := fPm_C11) (L := ord) (f := plS ord.length) (enc := fun i P => fPm_h11 g ord (toL g.Inputs P) i) (exN := .exit 2) (out := fun P => fPm_o11b g ord (toL g.Inputs P)) (exE := .ret) (outE := fun P => fPm_o11a g ord (toL g.Inputs P)) (Inv := fun k P => PlI ord.length ord k P) _ (PlI.start _ _) (by omega) (by simp) (by simp)
    (fun i x P hi hI => by
      have hlt := (List.getElem?_eq_some_iff.1 hi).1
      have hl := hI.len
      by_cases c1 : x < 0
      · rw [show plS ord.length i P x = .error P from if_pos (.inl c1)]
        exact fPm_x11_1 (by omega) hi c1
      by_cases c2 : (ord.length : Int) ≤ x
      · rw [show plS ord.length i P x = .error P from if_pos (.inr (.inl c2))]
        exact fPm_x11_2 (by omega) hi c1 (by omega)
      obtain ⟨y, hy⟩ : ∃ y, P[x.toNat]? = some y := ⟨_, List.getElem?_eq_getElem (by omega)⟩
      have ey : P.getD x.toNat 0 = y := by rw [List.getD_eq_getElem?_getD, hy]; rfl
      have ht := toL_hi (I := g.Inputs) (by omega) hy
      have ll := toL_len g.Inputs P
      rw [show g.Inputs + ((x.toNat : Nat) : Int) = g.Inputs + x from by omega] at ht
      by_cases c3 : 0 ≤ y
      · rw [show plS ord.length i P x = .error P from if_pos (.inr (.inr (by rw [ey]; exact c3)))]
        rw [if_neg (by omega)] at ht
        exact fPm_x11_3 (by omega) hi c1 (by omega) ⟨by omega, by omega⟩ (by omega) (by omega) ht (by omega) (by omega)
      · rw [show plS ord.length i P x = .ok (P.set x.toNat (i : Int)) from if_neg (by rw [ey]; omega)]
        rw [if_pos (by omega)] at ht
        have R := fPm_r11_1 (n := n) (a0 := g) (a1 := ord) (i_11 := i) (out_11 := toL g.Inputs P) (by omega) hi c1 (by omega) ⟨by omega, by omega⟩ (by omega) (by omega) ht (by omega) (by omega) ⟨by omega, by omega⟩ ⟨by omega, by omega⟩
        have e := toL_set (I := g.Inputs) (P := P) (i := x.toNat) (k := (i : Int)) (by omega) (by omega)
        rw [show g.Inputs + ((x.toNat : Nat) : Int) = g.Inputs + x from by omega] at e
        rw [e] at R
        exact ⟨R, hI.step hi (by omega) (by omega) hy c3⟩)
    (fun P hI => fPm_x11_4 (by omega))).1
theorem gpl_l5 (hm : ord.length ≤ 1000) :
    loopG Tryz.prog (tab (n + 93)) 0 106 (livesOf 45) 5 gPm_C5 (gPm_h5 g ord 0 (List.replicate ord.length 0)) = some (.exit 0, gPm_o5a g ord (List.replicate ord.length (-1))) := by
  have hL : (List.replicate ord.length (-1 : Int)).length = ord.length := List.length_replicate
  obtain ⟨b, h, _⟩ := loopG_R (β := Unit) (O := tab (n + 93)) (P := Tryz.prog) (m := 0) (N := 106) (lives := livesOf 45) (r := 5) (C := gPm_C5) (M := ord.length) (enc := fun i _ => gPm_h5 g ord i (fillL (List.replicate ord.length (-1)) i)) (exN := .exit 0) (out := fun _ => gPm_o5a g ord (List.replicate ord.length (-1))) (fun _ _ => True) () trivial (by omega) (by simp)
    (fun i _ hi _ => by
      have e := fill_set (L := List.replicate ord.length (-1)) (i := i) (y := -1) (by rw [List.getElem?_replicate, if_pos hi])
      have R := gPm_r5_1 (n := n) (a0 := g) (a1 := ord) (i_5 := i) (out_5 := fillL (List.replicate ord.length (-1)) i) (by omega) (by rw [fill_len (by omega)]; omega) ⟨by omega, by omega⟩
      rw [e] at R
      exact ⟨(), R, trivial⟩)
    (fun _ _ => by
      have R := gPm_x5_1 (n := n) (a0 := g) (a1 := ord) (i_5 := ord.length) (out_5 := List.replicate ord.length (-1)) (by omega)
      have e := fill_all (List.replicate ord.length (-1))
      rw [hL] at e
      rw [e]
      exact R)
  have e := fill_0 (List.replicate ord.length (-1))
  rw [hL] at e
  rw [e] at h
  exact h
theorem fpl_l5 (hg : GrOk g) (ho : ord.length = g.Units.length) :
    loopG Tryz.prog (tab (n + 4)) 0 144 (livesOf 46) 5 fPm_C5 (fPm_h5 g ord (List.replicate ((g.Inputs + (g.Units.length : Int)).toNat) 0) 0) = some (.exit 0, fPm_o5a g ord (toL g.Inputs (List.replicate ord.length (-1)))) := by
  have i0 := hg.i0
  have i1 := hg.i1
  have hu := hg.u
  have hL := toL_len g.Inputs (List.replicate ord.length (-1))
  rw [List.length_replicate] at hL
  obtain ⟨b, h, _⟩ := loopG_R (β := Unit) (O := tab (n + 4)) (P := Tryz.prog) (m := 0) (N := 144) (lives := livesOf 46) (r := 5) (C := fPm_C5) (M := (toL g.Inputs (List.replicate ord.length (-1))).length) (enc := fun i _ => fPm_h5 g ord (fillL (toL g.Inputs (List.replicate ord.length (-1))) i) i) (exN := .exit 0) (out := fun _ => fPm_o5a g ord (toL g.Inputs (List.replicate ord.length (-1)))) (fun _ _ => True) () trivial (by omega) (by simp)
    (fun i _ hi _ => by
      have hl := fill_len (L := toL g.Inputs (List.replicate ord.length (-1))) (i := i) (by omega)
      by_cases c : g.Inputs ≤ (i : Int)
      · have e0 : (List.replicate ord.length (-1 : Int))[i - g.Inputs.toNat]? = some (-1) := by rw [List.getElem?_replicate, if_pos (by omega)]
        have e1 := toL_hi (I := g.Inputs) (by omega) e0
        rw [show (g.Inputs + ((i - g.Inputs.toNat : Nat) : Int)).toNat = i from by omega, if_pos (by omega)] at e1
        have e := fill_set e1
        have R := fPm_r5_1 (n := n) (a0 := g) (a1 := ord) (i_5 := i) (out_5 := fillL (toL g.Inputs (List.replicate ord.length (-1))) i) (by omega) (by omega) c ⟨by omega, by omega⟩
        rw [List.set_set, e] at R
        exact ⟨(), R, trivial⟩
      · have e := fill_set (toL_lo (I := g.Inputs) (P := List.replicate ord.length (-1)) (i := i) (by omega))
        have R := fPm_r5_2 (n := n) (a0 := g) (a1 := ord) (i_5 := i) (out_5 := fillL (toL g.Inputs (List.replicate ord.length (-1))) i) (by omega) (by omega) c ⟨by omega, by omega⟩
        rw [e] at R
        exact ⟨(), R, trivial⟩)
    (fun _ _ => by
      have R := fPm_x5_1 (n := n) (a0 := g) (a1 := ord) (i_5 := (toL g.Inputs (List.replicate ord.length (-1))).length) (out_5 := toL g.Inputs (List.replicate ord.length (-1))) (by omega)
      rw [fill_all]
      exact R)
  rw [fill_0, hL, show g.Inputs.toNat + ord.length = (g.Inputs + (g.Units.length : Int)).toNat from by omega] at h
  exact h
theorem gpl_l19 (hg : GrOk g) (ho : ord.length = g.Units.length) {P : List Int} (hP : Perm2 g.Units.length ord P) :
    (PrmV g ord P ∧ loopG Tryz.prog (tab (n + 93)) 0 106 (livesOf 45) 19 gPm_C19 (gPm_h19 g ord 0 P []) = some (.exit 4, gPm_o19b g P (prmU (toP g.Inputs P) g.Units ord))) ∨
    (¬ PrmV g ord P ∧ ∃ o, loopG Tryz.prog (tab (n + 93)) 0 106 (livesOf 45) 19 gPm_C19 (gPm_h19 g ord 0 P []) = some (.ret, gPm_o19a g P o)) := by
  have i0 := hg.i0
  have i1 := hg.i1
  have hu := hg.u
  have hL := prmU_len (toP g.Inputs P) g.Units ord
  obtain ⟨ex, t, h1, h2⟩ := loopG_Q (β := List Form) (O := tab (n + 93)) (P := Tryz.prog) (m := 0) (N := 106) (lives := livesOf 45) (r := 19) (C := gPm_C19) (M := ord.length) (enc := fun k o => gPm_h19 g ord k P o)
    (fun k o => o = (prmU (toP g.Inputs P) g.Units ord).take k ∧ ∀ i f, i < k → (prmU (toP g.Inputs P) g.Units ord)[i]? = some f → OkFm f (g.Inputs + (i : Int)))
    (fun ex t => (PrmV g ord P ∧ ex = .exit 4 ∧ t = gPm_o19b g P (prmU (toP g.Inputs P) g.Units ord)) ∨ (¬ PrmV g ord P ∧ ex = .ret ∧ ∃ o, t = gPm_o19a g P o)) []
    ⟨by rw [List.take_zero], fun i f hi => by omega⟩ (by omega)
    (fun k o hk hI => by
      obtain ⟨e, hV⟩ := hI
      obtain ⟨x, hx⟩ : ∃ x, ord[k]? = some x := ⟨_, List.getElem?_eq_getElem hk⟩
      obtain ⟨x0, x1, x2⟩ := hP.get k x (by omega) hx
      obtain ⟨f, hf⟩ : ∃ f, g.Units[x.toNat]? = some f := ⟨_, List.getElem?_eq_getElem (by omega)⟩
      obtain ⟨F, q⟩ := f
      obtain ⟨t1, t2, t3, t4⟩ := hg.uu _ (List.mem_of_getElem? hf)
      have hin := (hg.un _ _ hf).inr
      have hW := prmU_get (nw := toP g.Inputs P) hx hf
      have K4 := grp_c (n := n + 46) (f := (F, q)) hP (g := g) ⟨by omega, by omega⟩ (by omega) (fun t ht => by
        have := hin t ht
        exact ⟨this.1, by omega⟩) (by omega) (fun t ht => by have := (t1 t ht).2; omega) (by omega)
      have B := (rn_small (nw := toP g.Inputs P) t1 t4 t3).1
      have K6 := lvalid_c (n := n + 92) (vars := g.Inputs + (k : Int)) (B.mono (by omega))
      by_cases c : OkFm (rnF (toP g.Inputs P) (F, q)) (g.Inputs + (k : Int))
      · rw [tv_t c] at K6
        refine .inl ⟨o ++ [rnF (toP g.Inputs P) (F, q)], gPm_r19_1 (by omega) hx hf (by omega) K4 ⟨by omega, by omega⟩ K6 rfl (by rw [e, List.length_take]; omega) ⟨by omega, by omega⟩, by rw [take_snoc hW, e], fun i f hi hf => ?_⟩
        by_cases e2 : i = k
        · subst e2; rw [hW] at hf; cases hf; exact c
        · exact hV i f (by omega) hf
      · rw [tv_f c] at K6
        exact .inr ⟨_, _, by simp, gPm_x19_1 (by omega) hx hf (by omega) K4 ⟨by omega, by omega⟩ K6 rfl, .inr ⟨fun h => c (h k _ hW), rfl, _, rfl⟩⟩)
    (fun o hI => by
      obtain ⟨e, hV⟩ := hI
      refine ⟨_, _, by simp, gPm_x19_2 (by omega), .inl ⟨fun i f hf => hV i f (by have := (List.getElem?_eq_some_iff.1 hf).1; omega) hf, rfl, ?_⟩⟩
      rw [e, List.take_of_length_le (by omega)])
  rcases h2 with ⟨a, rfl, rfl⟩ | ⟨a, rfl, o, rfl⟩
  · exact .inl ⟨a, h1⟩
  · exact .inr ⟨a, o, h1⟩
theorem gep_c (hg : GrOk g) {P : List Int} (hP : Perm2 g.Units.length ord P) :
    runL (n + 92) 83 [.sl 4 (g.Outputs.map formC), .clo 109 [.mem [.clo 107 [.mem (graphC g), .mem [.sl 1 (P.map intI64C)]]]]] [] = some (.own 0 (g.Outputs.map (rnF (toP g.Inputs P))).length, [(0, .row 29 4 ((g.Outputs.map (rnF (toP g.Inputs P))).map formC) 0)]) := by
  have i0 := hg.i0
  have i1 := hg.i1
  have hu := hg.u
  have hq := hg.o1
  have L1 := (loopG_I (O := tab (n + 92)) (P := Tryz.prog) (m := 0) (N := 22) (lives := livesOf 83) (r := 3) (C := gep_C3) (L := g.Outputs) (f := fun _ o f => o ++ [rnF (toP g.Inputs P) f]) (enc := fun i o => gep_h3 g.Outputs (.clo 107 [.mem (graphC g), .mem [.sl 1 (P.map intI64C)]]) o i) (exN := .exit 0) (out := fun o => gep_o3a o) (Inv := fun i o => o.length = i) [] rfl (by omega) (by simp)
    (fun i f o hi hI => by
      have hlt := (List.getElem?_eq_some_iff.1 hi).1
      obtain ⟨t1, t2, t3, t4⟩ := hg.oo f (List.mem_of_getElem? hi)
      have hin := (hg.ou f (List.mem_of_getElem? hi)).inr
      have K := grp_c (n := n + 44) (f := f) hP (g := g) ⟨by omega, by omega⟩ (by omega) (fun t ht => by
        have := hin t ht
        exact ⟨this.1, by omega⟩) (by omega) (fun t ht => by have := (t1 t ht).2; omega) (by omega)
      exact ⟨gep_r3_1 (n := n + 45) (by omega) hi (gp2_f1 (n := n + 45) K) (by omega) ⟨by omega, by omega⟩, by rw [List.length_append, hI]; rfl⟩)
    (fun o hI => gep_x3_1 (n := n + 45) (by omega))).1
  rw [foldI_snoc (rnF (toP g.Inputs P)), List.nil_append] at L1
  exact gep_f1 (n := n + 45) L1
theorem frn_c (hg : GrOk g) {P : List Int} (hP : Perm2 g.Units.length ord P) {f : Form} (h : TmB 2 f.1 ∧ Srt f.1 ∧ H f.2 ≤ 2 ∧ f.1.length ≤ 7) {N : Nat} (hin : InR N f.1) (hN : (N : Int) ≤ g.Inputs + (g.Units.length : Int)) :
    run (n + 3) 110 [formV f, .sl 1 ((toL g.Inputs P).map intI64C)] = some (formV (rnF (toP g.Inputs P) f)) := by
  have i0 := hg.i0
  obtain ⟨t1, t2, t3, t4⟩ := h
  exact rnd_c (fun t ht => by
    have := hin t ht
    exact ⟨this.1, toL_at hP (by omega) this.1 (by omega)⟩) (fun t ht => by
    have := hin t ht
    exact (toP_rg hP this.1 (by omega) (by omega)).1) (by omega) (fun t ht => by have := (t1 t ht).2; omega) (by omega)
theorem fpl_l18 (hg : GrOk g) (ho : ord.length = g.Units.length) {P : List Int} (hP : Perm2 g.Units.length ord P) :
    ∃ fz, loopG Tryz.prog (tab (n + 4)) 0 144 (livesOf 46) 18 fPm_C18 (fPm_h18 g ord (toL g.Inputs P) 0 0 []) = some (.exit 4, fPm_o18a g (toL g.Inputs P) fz (prmU (toP g.Inputs P) g.Units ord)) := by
  have i0 := hg.i0
  have i1 := hg.i1
  have hu := hg.u
  have hL := prmU_len (toP g.Inputs P) g.Units ord
  obtain ⟨b, h1, h2⟩ := loopG_R (β := Nat × List Form) (O := tab (n + 4)) (P := Tryz.prog) (m := 0) (N := 144) (lives := livesOf 46) (r := 18) (C := fPm_C18) (M := ord.length) (enc := fun k b => fPm_h18 g ord (toL g.Inputs P) k b.1 b.2) (exN := .exit 4) (out := fun b => fPm_o18a g (toL g.Inputs P) b.1 b.2)
    (fun k b => b.2 = (prmU (toP g.Inputs P) g.Units ord).take k) (0, []) (by rw [List.take_zero]) (by omega) (by simp)
    (fun k b hk hI => by
      obtain ⟨fz, o⟩ := b
      dsimp only at hI
      obtain ⟨x, hx⟩ : ∃ x, ord[k]? = some x := ⟨_, List.getElem?_eq_getElem hk⟩
      obtain ⟨x0, x1, x2⟩ := hP.get k x (by omega) hx
      obtain ⟨f, hf⟩ : ∃ f, g.Units[x.toNat]? = some f := ⟨_, List.getElem?_eq_getElem (by omega)⟩
      obtain ⟨F, q⟩ := f
      have K := frn_c (n := n) hg hP (hg.uu _ (List.mem_of_getElem? hf)) (hg.un _ _ hf).inr (by omega)
      exact ⟨(_, o ++ [rnF (toP g.Inputs P) (F, q)]), fPm_r18_1 (by omega) hx hf (by omega) K (by rw [hI, List.length_take]; omega) ⟨by omega, by omega⟩, by rw [take_snoc (prmU_get hx hf), hI]⟩)
    (fun b hI => fPm_x18_1 (by omega))
  rw [List.take_of_length_le (by omega)] at h2
  exact ⟨b.1, by rw [h1, h2]⟩
theorem fpl_l22 (hg : GrOk g) {P : List Int} (hP : Perm2 g.Units.length ord P) (fz : Nat) (W : List Form) :
    loopG Tryz.prog (tab (n + 4)) 0 144 (livesOf 46) 22 fPm_C22 (fPm_h22 g (toL g.Inputs P) 0 fz W []) = some (.exit 6, fPm_o22a g W (g.Outputs.map (rnF (toP g.Inputs P)))) := by
  have i0 := hg.i0
  have i1 := hg.i1
  have hu := hg.u
  have hq := hg.o1
  have hL : (g.Outputs.map (rnF (toP g.Inputs P))).length = g.Outputs.length := List.length_map _
  obtain ⟨b, h1, h2⟩ := loopG_R (β := Nat × List Form) (O := tab (n + 4)) (P := Tryz.prog) (m := 0) (N := 144) (lives := livesOf 46) (r := 22) (C := fPm_C22) (M := g.Outputs.length) (enc := fun k b => fPm_h22 g (toL g.Inputs P) k b.1 W b.2) (exN := .exit 6) (out := fun b => fPm_o22a g W b.2)
    (fun k b => b.2 = (g.Outputs.map (rnF (toP g.Inputs P))).take k) (fz, []) (by rw [List.take_zero]) (by omega) (by simp)
    (fun k b hk hI => by
      obtain ⟨fz, o⟩ := b
      dsimp only at hI
      obtain ⟨f, hf⟩ : ∃ f, g.Outputs[k]? = some f := ⟨_, List.getElem?_eq_getElem hk⟩
      obtain ⟨F, q⟩ := f
      have hm := List.mem_of_getElem? hf
      have K := frn_c (n := n) hg hP (hg.oo _ hm) (hg.ou _ hm).inr (by omega)
      have hW : (g.Outputs.map (rnF (toP g.Inputs P)))[k]? = some (rnF (toP g.Inputs P) (F, q)) := by rw [List.getElem?_map, hf]; rfl
      exact ⟨(_, o ++ [rnF (toP g.Inputs P) (F, q)]), fPm_r22_1 (by omega) hf K (by rw [hI, List.length_take]; omega) ⟨by omega, by omega⟩, by rw [take_snoc hW, hI]⟩)
    (fun b hI => fPm_x22_1 (by omega))
  rw [List.take_of_length_le (by omega)] at h2
  rw [h1, h2]
theorem perm_both (hg : GrOk g) (hm : ord.length ≤ 8) : ∃ (G : TGraph) (e : Int),
    run (n + 93) 45 [graphV g, .sl 1 (ord.map intI64C)] = some (.tup [graphV G, .lit (.int .i64 e)]) ∧
    run (n + 93) 46 [graphV g, .sl 1 (ord.map intI64C)] = some (.tup [graphV G, .lit (.int .i64 e)]) ∧
    ((e ≠ 0 ∧ G = ⟨0, [], []⟩) ∨ (e = 0 ∧ ∃ P, ord.length = g.Units.length ∧ Perm2 g.Units.length ord P ∧ PrmV g ord P ∧ G = prmG g ord P)) := by
  have i0 := hg.i0
  have i1 := hg.i1
  have hu := hg.u
  have K1 := gvalid_c (n := n + 87) (hg.bd.mono (by omega))
  have U1 := validG_c (n := n + 90) (hg.bd.mono (by omega))
  rw [tv_t hg.ok] at K1 U1
  by_cases ho : (ord.length : Int) = (g.Units.length : Int)
  · have ho2 : ord.length = g.Units.length := by omega
    have A5 := gpl_l5 (n := n) (g := g) (ord := ord) (by omega)
    have B5 := fpl_l5 (n := n + 89) hg ho2
    obtain ⟨A10, hE⟩ := gpl_l10 (n := n) (g := g) (ord := ord) (by omega)
    have B11 := fpl_l11 (n := n + 89) (ord := ord) (by omega) hg ho2
    cases hf : foldE (plS ord.length) 0 (List.replicate ord.length (-1)) ord with
    | error P =>
      rw [hf] at A10 B11
      refine ⟨⟨0, [], []⟩, 1, ?_, ?_, .inl ⟨by decide, rfl⟩⟩
      · rw [zero_gr]; exact gPm_f3 K1 rfl ho (by omega) A5 A10
      · rw [zero_gr]; exact fPm_f3 (n := n + 89) U1 rfl ho ⟨by omega, by omega⟩ (by omega) (by omega) B5 B11
    | ok P =>
      rw [hf] at A10 B11
      have hP := (hE P hf).fin
      rw [ho2] at hP
      obtain ⟨fz, B18⟩ := fpl_l18 (n := n + 89) hg ho2 hP
      have B22 := fpl_l22 (n := n + 89) hg hP fz (prmU (toP g.Inputs P) g.Units ord)
      have U2 := validG_c (n := n + 90) ((prm_bd hg ho2 P).1.mono (by omega))
      rcases gpl_l19 (n := n) hg ho2 hP with ⟨hV, A19⟩ | ⟨hV, o, A19⟩
      · rw [tv_t ((prm_ok hg ho2 hP).2 hV)] at U2
        exact ⟨prmG g ord P, 0, gPm_f5 K1 rfl ho (by omega) A5 A10 A19 (gep_c hg hP), fPm_f5 (n := n + 89) U1 rfl ho ⟨by omega, by omega⟩ (by omega) (by omega) B5 B11 B18 B22 U2 rfl, .inr ⟨rfl, P, ho2, hP, hV, rfl⟩⟩
      · rw [tv_f (fun h => hV ((prm_ok hg ho2 hP).1 h))] at U2
        refine ⟨⟨0, [], []⟩, 9, ?_, ?_, .inl ⟨by decide, rfl⟩⟩
        · rw [zero_gr]; exact gPm_f4 K1 rfl ho (by omega) A5 A10 A19
        · rw [zero_gr]; exact fPm_f4 (n := n + 89) U1 rfl ho ⟨by omega, by omega⟩ (by omega) (by omega) B5 B11 B18 B22 U2 rfl
  · refine ⟨⟨0, [], []⟩, 1, ?_, ?_, .inl ⟨by decide, rfl⟩⟩
    · rw [zero_gr]; exact gPm_f2 K1 rfl ho
    · rw [zero_gr]; exact fPm_f2 (n := n + 89) U1 rfl ho
end
theorem perm_true {n : Nat} {bs ord at_ : List Int} (hbs : ∀ x ∈ bs, 0 ≤ x ∧ x < 256) (hat : ∀ x ∈ at_, 0 ≤ x ∧ x < 256) : gpl n [.sl 1 (bs.map intU8C), .sl 1 (ord.map intI64C), .sl 1 (at_.map intU8C)] = some (.lit (.bool true)) := by
  by_cases c1 : 400 < (bs.length : Int)
  · exact gpl_f1 c1
  by_cases c2 : 8 < (ord.length : Int)
  · exact gpl_f2 c1 c2
  by_cases c3 : 40 < (at_.length : Int)
  · exact gpl_f3 c1 c2 c3
  obtain ⟨g, K4, hg⟩ := small15_c (n := n + 88) ⟨by omega, hbs⟩ (by omega)
  have i0 := hg.i0
  have i1 := hg.i1
  have hu := hg.u
  have hq := hg.o1
  have K5 := cpy_f1 (n := n + 93) (a0 := g) (by omega) (by omega)
  obtain ⟨G, e, K6, K7, hG⟩ := perm_both (n := n) (ord := ord) hg (by omega)
  rcases hG with ⟨he, rfl⟩ | ⟨rfl, P, ho, hP, hV, rfl⟩
  · have hB : BdG 17179869184 ⟨0, [], []⟩ := ⟨by simp, by simp, fun f hf => (by cases hf), fun f hf => (by cases hf)⟩
    exact gpl_f6 c1 c2 c3 K4 K5 (by omega) K6 K7 rfl (rEq_same (n := n + 91) hB) rfl he
  · obtain ⟨bd, lu, lo⟩ := prm_bd hg ho P
    have ok := (prm_ok hg ho hP).2 hV
    have K9 := rEq_same (n := n + 91) (bd.mono (by omega))
    obtain ⟨X, K16, hX, hXb⟩ := point_c (n := n + 91) (bs := at_) ⟨by omega, hat⟩ (by omega) (I := g.Inputs) (by omega) (by omega)
    have lU : (prmG g ord P).Units.length = g.Units.length := by show (prmU _ _ _).length = _; rw [prmU_len, ho]
    have hb : bndV 21 7 2 ((prmG g ord P).Units.length + 1) ≤ 100000000 := Nat.le_trans (bndV_mono 21 7 2 (j := 5) (by omega)) (by decide)
    have O1 := fouts_c (n := n + 87) (g := prmG g ord P) (X := X) (a := 21) (l := 7) (b := 2) ok bd (by omega) lu lo hX hXb hb
    have hb2 : bndV 2 7 2 (g.Units.length + 1) ≤ 100000000 := Nat.le_trans hg.bnd (by omega)
    have O2 := fouts_c (n := n + 87) (g := g) (X := X) (a := 2) (l := 7) (b := 2) hg.ok hg.bd (by omega) hg.lu hg.lo hX hXb hb2
    have e : ((prmG g ord P).Outputs.map fun f => evV (valV (prmG g ord P).Units X) f) = g.Outputs.map fun f => evV (valV g.Units X) f := by
      show List.map (fun f => evV (valV (prmU (toP g.Inputs P) g.Units ord) X) f) (g.Outputs.map (rnF (toP g.Inputs P))) = _
      rw [List.map_map]
      apply List.map_congr_left
      intro f hf
      have hI : ((g.Inputs.toNat : Nat) : Int) = g.Inputs := by omega
      have hin := (hg.ou f hf).inr
      have B := hg.ok.back hX
      rw [show X.length = g.Inputs.toNat from by omega] at B
      have R := prm_out (I := g.Inputs.toNat) (m := g.Units.length) (U := g.Units) (ord := ord) (P := P) (X := X) hP rfl ho (by omega) B (fun f hf => (hg.uu f hf).2.1) (by rw [hI]; exact hV.in hg) (f := f) (fun t ht => by
        have := hin t ht
        omega)
      rw [hI] at R
      exact R
    rw [e] at O1
    have Q := sal_same (n := n + 92) (L := g.Outputs.map fun f => evV (valV g.Units X) f) (by rw [List.length_map]; omega) (fun q hq => by
      obtain ⟨f, hf, rfl⟩ := List.mem_map.1 hq
      have := O2.2 f hf
      omega)
    exact gpl_f7 c1 c2 c3 K4 K5 (by omega) K6 K7 rfl K9 rfl rfl K16 (sme_f1 O1.1 O2.1 rfl rfl Q)
end Go.Proofs.YtlpmemelhlnfbaaGreatDoor
