import Derived.Test.YtlpmemelhlnfbaaGreatDoorGA26
import Derived.Test.YtlpmemelhlnfbaaGreatDoorGA17
import Derived.Test.YtlpmemelhlnfbaaGreatDoorGA28
import Derived.Test.YtlpmemelhlnfbaaGreatDoorRows
import Derived.Test.YtlpmemelhlnfbaaGreatDoorGA16
import Derived.Deep.Slices
import Derived.ChangeArms
import Derived.ChangeSlices
import Derived.DataReads
import Derived.OpenShut
set_option linter.all false
set_option maxRecDepth 100000
set_option maxHeartbeats 6400000
namespace Go.Proofs.YtlpmemelhlnfbaaGreatDoor
open Go.RowKit
attribute [local irreducible] run runL loopG exec
def toH (v w : Int) : Int := if v < w then w + 1 else w
def two (v : Int) : List (Int × Rat) := [(v, 1), (v + 1, 1)]
def hlv (v : Int) (f : Form) : Form := (addV (rst (rnF (toH v) f).1 v) (sclV (two v) (cof (rnF (toH v) f).1 v)), (rnF (toH v) f).2)
theorem toH_inj {v u w : Int} (h : toH v u = toH v w) : u = w := by
  unfold toH at h
  split at h <;> split at h <;> omega
theorem toH_v (v : Int) : toH v v = v := by unfold toH; rw [if_neg (by omega)]
theorem two_srt (v : Int) : Srt (two v) := ⟨by unfold two; simp; omega, fun t ht => by
  unfold two at ht
  simp at ht
  rcases ht with rfl | rfl <;> (show (1 : Rat) ≠ 0; decide)⟩
theorem hlv_cof {v : Int} {f : Form} (h : Srt f.1) : cof (rnF (toH v) f).1 v = cof f.1 v := by
  show cof (addV [] (rnT (toH v) f.1)) v = _
  have e := smc_rn (nw := toH v) (v := v) h fun t ht e => toH_inj e
  rw [toH_v] at e
  rw [(add_any Srt.nil).2, cof_nil, e]; grind
theorem hlv_srt {v : Int} {f : Form} : Srt (hlv v f).1 := (add_srt (rst_srt (rn_srt _ _)) (scl_srt (two_srt v)).1).1
theorem hlv_in {v : Int} {f : Form} {k : Nat} (hv : 0 ≤ v) (hk : v + 1 < (k : Int) + 1) (h : InR k f.1) : InR (k + 1) (hlv v f).1 := by
  refine InR.add (InR.rst (rn_inr fun t ht => ?_)) (InR.scl fun t ht => ?_)
  · have := h t ht
    unfold toH
    split <;> omega
  · unfold two at ht
    simp at ht
    rcases ht with rfl | rfl <;> simp <;> omega
theorem hlv_id {v : Int} {f : Form} {k : Nat} (hk : (k : Int) ≤ v) (hS : Srt f.1) (h : InR k f.1) : hlv v f = f := by
  have e1 : rnT (toH v) f.1 = f.1 := by
    unfold rnT
    rw [List.map_congr_left (g := id) fun t ht => ?_, List.map_id]
    have := h t ht
    unfold toH
    rw [if_neg (by omega)]; rfl
  have e2 : (rnF (toH v) f).1 = f.1 := by
    refine srt_ext (rn_srt _ _) hS fun u => ?_
    show cof (addV [] (rnT (toH v) f.1)) u = _
    rw [e1, (add_any Srt.nil).2, cof_nil]
    have : smc f.1 u = cof f.1 u := by
      have e := smc_rn (nw := fun w => w) (v := u) hS fun t ht e => e
      have e3 : rnT (fun w => w) f.1 = f.1 := by unfold rnT; exact List.map_id _
      rw [e3] at e
      exact e
    rw [this]; grind
  have e3 : cof f.1 v = 0 := cof_low fun t ht => by have := h t ht; omega
  have e4 : rst f.1 v = f.1 := by
    unfold rst
    rw [List.filter_eq_self]
    intro t ht
    have := h t ht
    simp; omega
  have e5 : sclV (two v) 0 = [] := by
    unfold sclV two
    simp [put1]
  show (addV (rst (rnF (toH v) f).1 v) (sclV (two v) (cof (rnF (toH v) f).1 v)), f.2) = f
  rw [e2, e3, e4, e5]
  rfl
theorem evS_rnH {X Y : List Rat} {v : Int} {p : Rat} : ∀ {F : List (Int × Rat)}, Srt F → (∀ t ∈ F, t.1 ≠ v → Y.getD (toH v t.1).toNat 0 = X.getD t.1.toNat 0) → Y.getD v.toNat 0 = p → evS Y (rnT (toH v) F) = evS X (rst F v) + cof F v * p
  | [], _, _, _ => by
    show (0 : Rat) = evS X [] + cof [] v * p
    rw [cof_nil, evS]; grind
  | t :: F, h, hr, hp => by
    have ih := evS_rnH (X := X) h.tail (fun u hu => hr u (by simp [hu])) hp
    show t.2 * Y.getD (toH v t.1).toNat 0 + evS Y (rnT (toH v) F) = _
    by_cases e : t.1 = v
    · have e2 : cof F v = 0 := h.head.cof (by omega)
      rw [ih, e2, rst_eq e, cof_hd e.symm, e, toH_v, hp]; grind
    · rw [ih, rst_ne e, cof_tl (fun e2 => e e2.symm), hr t (by simp) e, evS]; grind
theorem evV_hlv {X Y : List Rat} {v : Int} {f : Form} (hv : 0 ≤ v) (hS : Srt f.1) (hr : ∀ t ∈ f.1, t.1 ≠ v → Y.getD (toH v t.1).toNat 0 = X.getD t.1.toNat 0) (hs : Y.getD v.toNat 0 + Y.getD (v.toNat + 1) 0 = X.getD v.toNat 0) : evV Y (hlv v f) = evV X f := by
  rw [evV_eq, evV_eq]
  show f.2 + evS Y (addV (rst (rnF (toH v) f).1 v) (sclV (two v) (cof (rnF (toH v) f).1 v))) = _
  have h1 := evS_rst (X := Y) (v := v) (rn_srt (toH v) f)
  have h2 : evS Y (rnF (toH v) f).1 = evS X (rst f.1 v) + cof f.1 v * Y.getD v.toNat 0 := by
    show evS Y (addV [] (rnT (toH v) f.1)) = _
    rw [evS_any Srt.nil, evS_rnH hS hr rfl, evS]; grind
  have h3 : evS Y (two v) = X.getD v.toNat 0 := by
    unfold two
    rw [evS, evS, evS, show (v + 1).toNat = v.toNat + 1 from by omega, ← hs]; grind
  rw [evS_any (rst_srt (rn_srt _ _)), evS_scl, h3, hlv_cof hS, evS_rst (X := X) (v := v) hS]
  rw [hlv_cof hS] at h1
  grind
structure RelH (v : Nat) (X Y : List Rat) : Prop where
  lt : v < X.length
  len : Y.length = X.length + 1
  lo : ∀ k, k < v → Y.getD k 0 = X.getD k 0
  eq : Y.getD v 0 + Y.getD (v + 1) 0 = X.getD v 0
  hi : ∀ k, v < k → Y.getD (k + 1) 0 = X.getD k 0
theorem RelH.ev {v : Nat} {X Y : List Rat} {f : Form} (h : RelH v X Y) (hS : Srt f.1) (hb : ∀ t ∈ f.1, 0 ≤ t.1) : evV Y (hlv v f) = evV X f := by
  refine evV_hlv (by omega) hS (fun t ht e => ?_) ?_
  · have := hb t ht
    unfold toH
    split
    · rw [show (t.1 + 1).toNat = t.1.toNat + 1 from by omega]
      exact h.hi _ (by omega)
    · exact h.lo _ (by omega)
  · rw [Int.toNat_natCast]; exact h.eq
theorem RelH.step {v : Nat} {X Y : List Rat} {f : Form} (h : RelH v X Y) (hS : Srt f.1) (hb : ∀ t ∈ f.1, 0 ≤ t.1) : RelH v (X ++ [max0 (evV X f)]) (Y ++ [max0 (evV Y (hlv v f))]) := by
  have h1 := h.lt
  have h2 := h.len
  rw [h.ev hS hb]
  refine ⟨by rw [List.length_append]; omega, by rw [List.length_append, List.length_append, h2]; rfl, fun k hk => ?_, ?_, fun k hk => ?_⟩
  · rw [getD_app, getD_app, if_neg (by omega), if_neg (by omega)]; exact h.lo k hk
  · rw [getD_app, getD_app, getD_app, if_neg (by omega), if_neg (by omega), if_neg (by omega)]; exact h.eq
  · rw [getD_app, getD_app, h2]
    by_cases e : k = X.length
    · rw [if_pos (by omega), if_pos e]
    · rw [if_neg (by omega), if_neg e]; exact h.hi k hk
theorem RelH.val {v : Nat} : ∀ {U : List Form} {X Y : List Rat}, RelH v X Y → (∀ f ∈ U, Srt f.1 ∧ ∀ t ∈ f.1, 0 ≤ t.1) → RelH v (valV U X) (valV (U.map (hlv v)) Y)
  | [], X, Y, h, _ => h
  | f :: U, X, Y, h, hU => by
    rw [List.map_cons, valV_step, valV_step]
    exact RelH.val (h.step (hU f (by simp)).1 (hU f (by simp)).2) fun g hg => hU g (by simp [hg])
theorem valV_app (B : List Form) : ∀ (A : List Form) (X : List Rat), valV (A ++ B) X = valV B (valV A X)
  | [], X => rfl
  | f :: A, X => by rw [List.cons_append, valV_step, valV_step, valV_app B A]
def hlU (v : Int) (c : Rat) (U : List Form) (j : Nat) (f : Form) : List Form := U.take j ++ [scf c f, scf c f] ++ (U.drop (j + 1)).map (hlv v)
def hlG (g : TGraph) (c : Rat) (j : Nat) (f : Form) : TGraph := ⟨g.Inputs, hlU (g.Inputs + (j : Int)) c g.Units j f, g.Outputs.map (hlv (g.Inputs + (j : Int)))⟩
theorem evV_scf {c : Rat} {f : Form} {X : List Rat} : evV X (scf c f) = c * evV X f := by
  rw [evV_eq, evV_eq]
  show f.2 * c + evS X (sclV f.1 c) = _
  rw [evS_scl]; grind
theorem half_rel {I j : Nat} {U : List Form} {X : List Rat} {c : Rat} {f : Form} (hc : c + c = 1) (hX : X.length = I) (hB : Back I U) (hS : ∀ f ∈ U, Srt f.1) (hf : U[j]? = some f) :
    RelH (I + j) (valV U X) (valV (hlU ((I : Int) + (j : Int)) c U j f) X) := by
  have hj := (List.getElem?_eq_some_iff.1 hf).1
  have hbj := hB j f hf
  have hU : U = U.take j ++ f :: U.drop (j + 1) := by
    have e := List.take_append_drop j U
    rw [List.drop_eq_getElem_cons hj, (List.getElem?_eq_some_iff.1 hf).2] at e
    exact e.symm
  obtain ⟨R, hR, hRl⟩ := valV_ext (U.take j) X
  have hZl : (valV (U.take j) X).length = I + j := by rw [hR, List.length_append, hRl, List.length_take]; omega
  have e1 : valV U X = valV (U.drop (j + 1)) (valV (U.take j) X ++ [max0 (evV (valV (U.take j) X) f)]) := by
    conv => lhs; rw [hU]
    rw [valV_app, valV_step]
  have hc0 : 0 < c := by grind
  generalize hZ : valV (U.take j) X = Z at hZl e1
  have a1 : max0 (evV Z (scf c f)) = c * max0 (evV Z f) := by rw [evV_scf, max0_mul hc0]
  have a2 : max0 (evV (Z ++ [max0 (evV Z (scf c f))]) (scf c f)) = c * max0 (evV Z f) := by
    rw [evV_scf, evV_app (by rw [hZl]; exact hbj), max0_mul hc0]
  have e2 : valV (hlU ((I : Int) + (j : Int)) c U j f) X = valV ((U.drop (j + 1)).map (hlv ((I : Int) + (j : Int)))) (Z ++ [c * max0 (evV Z f)] ++ [c * max0 (evV Z f)]) := by
    unfold hlU
    rw [valV_app, valV_app, hZ, valV_step, valV_step, a2, a1]
    rfl
  rw [e1, e2, show (I : Int) + (j : Int) = ((I + j : Nat) : Int) from by omega]
  refine RelH.val ⟨by rw [List.length_append]; simp; omega, by simp, fun k hk => ?_, ?_, fun k hk => ?_⟩ fun g hg => ?_
  · rw [getD_app, getD_app, getD_app, List.length_append, if_neg (by simp; omega), if_neg (by omega), if_neg (by omega)]
  · have hl : (Z ++ [c * max0 (evV Z f)]).length = I + j + 1 := by rw [List.length_append, hZl]; rfl
    rw [getD_app (X := Z ++ [c * max0 (evV Z f)]) (k := I + j), if_neg (by omega), getD_app (X := Z ++ [c * max0 (evV Z f)]) (k := I + j + 1), if_pos (by omega), getD_app (X := Z) (x := c * max0 (evV Z f)), if_pos (by omega), getD_app (X := Z) (x := max0 (evV Z f)), if_pos (by omega)]
    grind
  · rw [getD_app, getD_app, getD_app, List.length_append, List.length_singleton, if_neg (by omega), if_neg (by omega), if_neg (by omega)]
    rw [List.getD_eq_getElem?_getD, List.getD_eq_getElem?_getD, List.getElem?_eq_none (by omega), List.getElem?_eq_none (by omega)]
  · have hm := List.mem_of_mem_drop hg
    obtain ⟨i, hi⟩ := List.mem_iff_getElem?.1 hm
    exact ⟨hS g hm, fun t ht => (hB i g hi t ht).1⟩
theorem hlU_lo {v : Int} {c : Rat} {U : List Form} {j i : Nat} {f : Form} (hj : j < U.length) (hi : i < j) : (hlU v c U j f)[i]? = U[i]? := by
  unfold hlU
  rw [List.append_assoc, List.getElem?_append_left (by rw [List.length_take]; omega), List.getElem?_take, if_pos hi]
theorem hlU_eq {v : Int} {c : Rat} {U : List Form} {j : Nat} {f : Form} (hj : j < U.length) : (hlU v c U j f)[j]? = some (scf c f) ∧ (hlU v c U j f)[j + 1]? = some (scf c f) := by
  unfold hlU
  rw [List.append_assoc]
  constructor
  · rw [List.getElem?_append_right (by rw [List.length_take]; omega), List.length_take, show j - min j U.length = 0 from by omega]; rfl
  · rw [List.getElem?_append_right (by rw [List.length_take]; omega), List.length_take, show j + 1 - min j U.length = 1 from by omega]; rfl
theorem hlU_hi {v : Int} {c : Rat} {U : List Form} {j i : Nat} {f : Form} (hj : j < U.length) (hi : j < i) : (hlU v c U j f)[i + 1]? = (U[i]?).map (hlv v) := by
  unfold hlU
  rw [List.getElem?_append_right (by rw [List.length_append, List.length_take]; simp; omega), List.length_append, List.length_take, List.getElem?_map, List.getElem?_drop]
  simp only [List.length_cons, List.length_nil]
  rw [show j + 1 + (i + 1 - (min j U.length + (0 + 1 + 1))) = i from by omega]
theorem hlU_len {v : Int} {c : Rat} {U : List Form} {j : Nat} {f : Form} (hj : j < U.length) : (hlU v c U j f).length = U.length + 1 := by
  unfold hlU
  rw [List.length_append, List.length_append, List.length_take, List.length_map, List.length_drop]
  simp only [List.length_cons, List.length_nil]
  omega
theorem hlv_bd {v : Int} {f : Form} (h : TmB 2 f.1 ∧ Srt f.1 ∧ H f.2 ≤ 2 ∧ f.1.length ≤ 7) : BdF 67 (hlv v f) ∧ (hlv v f).1.length ≤ 9 := by
  obtain ⟨t1, t2, t3, t4⟩ := h
  obtain ⟨a, b, d⟩ := rn_bd (nw := toH v) t1 t4 t3
  have hc : H (cof (rnF (toH v) f).1 v) ≤ 21 := cof_H (fun t ht => (a t ht).2) (by omega)
  have h1 : TmB 21 (rst (rnF (toH v) f).1 v) := fun t ht => a t (rst_mem ht)
  have h2 : TmB 1 (two v) := fun t ht => by
    unfold two at ht
    simp at ht
    rcases ht with rfl | rfl <;> exact ⟨by show (1 : Rat) ≠ 0; decide, by show H 1 ≤ 1; decide⟩
  have l1 := rst_len (rnF (toH v) f).1 v
  have l2 := sclV_len (cof (rnF (toH v) f).1 v) (two v)
  have l3 := addV_len (sclV (two v) (cof (rnF (toH v) f).1 v)) (rst (rnF (toH v) f).1 v)
  have l4 : (two v).length = 2 := rfl
  have hm : 23 * (sclV (two v) (cof (rnF (toH v) f).1 v)).length ≤ 23 * 2 := Nat.mul_le_mul_left _ (by omega)
  have h3 : TmB 67 (hlv v f).1 := TmB.mono (h1.add (h2.scl hc)) (by omega)
  have h5 : (hlv v f).1.length ≤ 9 := show (addV (rst (rnF (toH v) f).1 v) (sclV (two v) (cof (rnF (toH v) f).1 v))).length ≤ 9 by omega
  exact ⟨h3.bd (by omega) (show H f.2 ≤ 67 by omega), h5⟩
theorem hscf_bd {c : Rat} {f : Form} (hc : H c ≤ 2) (h : TmB 2 f.1 ∧ Srt f.1 ∧ H f.2 ≤ 2 ∧ f.1.length ≤ 7) : BdF 67 (scf c f) ∧ (scf c f).1.length ≤ 9 := by
  obtain ⟨t1, t2, t3, t4⟩ := h
  obtain ⟨a, b⟩ := scf_bd hc t1 t4 t3
  exact ⟨a.mono (by omega), by omega⟩
theorem BdF.up {b : Nat} {f : Form} (h : BdF 2 f) (hb : 2 ≤ b) : BdF b f := h.mono hb
theorem hlG_bd {g : TGraph} {c : Rat} {j : Nat} {f : Form} (hg : GrOk g) (hc : H c ≤ 2) (hf : g.Units[j]? = some f) (huu : ∀ f ∈ g.Units, TmB 2 f.1 ∧ Srt f.1 ∧ H f.2 ≤ 2 ∧ f.1.length ≤ 7) (hoo : ∀ f ∈ g.Outputs, TmB 2 f.1 ∧ Srt f.1 ∧ H f.2 ≤ 2 ∧ f.1.length ≤ 7) :
    BdG 67 (hlG g c j f) ∧ (∀ e ∈ (hlG g c j f).Units, e.1.length ≤ 9) ∧ ∀ e ∈ (hlG g c j f).Outputs, e.1.length ≤ 9 := by
  have hu := hg.u
  have hq := hg.o1
  have hj := (List.getElem?_eq_some_iff.1 hf).1
  have hL := hlU_len (v := g.Inputs + (j : Int)) (c := c) (f := f) hj
  have hU : ∀ k ∈ (hlG g c j f).Units, BdF 67 k ∧ k.1.length ≤ 9 := fun k hk => by
    rcases List.mem_append.1 (show k ∈ hlU _ _ _ _ _ from hk) with h1 | h1
    · rcases List.mem_append.1 h1 with h2 | h2
      · obtain ⟨t1, t2, t3, t4⟩ := huu k (List.mem_of_mem_take h2)
        exact ⟨(TmB.bd t1 (by omega) t3).mono (by omega), by omega⟩
      · simp at h2
        subst h2
        exact hscf_bd hc (huu f (List.mem_of_getElem? hf))
    · obtain ⟨f0, h0, rfl⟩ := List.mem_map.1 h1
      exact hlv_bd (huu f0 (List.mem_of_mem_drop h0))
  have hO : ∀ k ∈ (hlG g c j f).Outputs, BdF 67 k ∧ k.1.length ≤ 9 := fun k hk => by
    obtain ⟨f0, h0, rfl⟩ := List.mem_map.1 (show k ∈ g.Outputs.map _ from hk)
    exact hlv_bd (hoo f0 h0)
  exact ⟨⟨by show (hlU _ _ _ _ _).length ≤ _; omega, by show (g.Outputs.map _).length ≤ _; rw [List.length_map]; omega, fun e he => (hU e he).1, fun e he => (hO e he).1⟩, fun e he => (hU e he).2, fun e he => (hO e he).2⟩
theorem InR.mono {k l : Nat} {F : List (Int × Rat)} (h : InR k F) (hl : k ≤ l) : InR l F := fun t ht => by
  have := h t ht
  omega
theorem hlG_ok {g : TGraph} {c : Rat} {j : Nat} {f : Form} (hg : GrOk g) (hf : g.Units[j]? = some f) : OkGr (hlG g c j f) := by
  have h1 := hg.i0
  have h2 := hg.i1
  have h3 := hg.u
  have h4 := hg.o0
  have h5 := hg.o1
  have hj := (List.getElem?_eq_some_iff.1 hf).1
  have hL := hlU_len (v := g.Inputs + (j : Int)) (c := c) (f := f) hj
  have hS : ∀ {k : Nat} {e : Form}, InR (g.Inputs.toNat + k) e.1 → Srt e.1 → OkFm e (g.Inputs + (k : Int)) := fun {k e} a b => by
    have := okF_of (vars := g.Inputs + (k : Int)) b fun t ht => by
      have := a t ht
      omega
    exact this
  refine ⟨by show 1 ≤ g.Inputs; omega, by show g.Inputs ≤ 256; omega, ?_, ?_, ?_, fun i _ e he => ?_, fun e he => ?_⟩
  · show ((hlU _ _ _ _ _).length : Int) ≤ 1024; omega
  · show (1 : Int) ≤ ((g.Outputs.map _).length : Int); rw [List.length_map]; omega
  · show ((g.Outputs.map _).length : Int) ≤ 256; rw [List.length_map]; omega
  · replace he : (hlU (g.Inputs + (j : Int)) c g.Units j f)[i]? = some e := he
    show OkFm e (g.Inputs + (i : Int))
    have hfu := hg.un j f hf
    obtain ⟨q1, q2⟩ := hlU_eq (v := g.Inputs + (j : Int)) (c := c) (f := f) hj
    by_cases c1 : i < j
    · rw [hlU_lo hj c1] at he
      have := hg.un i e he
      exact hS this.inr this.srt
    by_cases c2 : i = j
    · subst c2
      rw [q1] at he
      cases he
      exact hS (scf_in hfu.inr) (scf_srt hfu.srt)
    by_cases c3 : i = j + 1
    · subst c3
      rw [q2] at he
      cases he
      exact hS ((scf_in hfu.inr).mono (by omega)) (scf_srt hfu.srt)
    · rw [show i = (i - 1) + 1 from by omega, hlU_hi hj (by omega)] at he
      obtain ⟨f0, h0, rfl⟩ := Option.map_eq_some_iff.1 he
      have hi := (List.getElem?_eq_some_iff.1 h0).1
      have := hlv_in (v := g.Inputs + (j : Int)) (k := g.Inputs.toNat + (i - 1)) (by omega) (by omega) (hg.un _ f0 h0).inr
      rw [show g.Inputs.toNat + (i - 1) + 1 = g.Inputs.toNat + i from by omega] at this
      exact hS this hlv_srt
  · obtain ⟨f0, h0, rfl⟩ := List.mem_map.1 (show e ∈ g.Outputs.map (hlv (g.Inputs + (j : Int))) from he)
    have := hlv_in (v := g.Inputs + (j : Int)) (k := g.Inputs.toNat + g.Units.length) (by omega) (by omega) (hg.ou f0 h0).inr
    show OkFm _ (g.Inputs + ((hlU _ _ _ _ _).length : Int))
    rw [hL]
    exact hS (by rwa [← Nat.add_assoc]) hlv_srt
theorem hlG_out {g : TGraph} {c : Rat} {j : Nat} {f : Form} {X : List Rat} (hg : GrOk g) (hc : c + c = 1) (hX : (X.length : Int) = g.Inputs) (hf : g.Units[j]? = some f) :
    ((hlG g c j f).Outputs.map fun e => evV (valV (hlG g c j f).Units X) e) = g.Outputs.map fun e => evV (valV g.Units X) e := by
  have hi0 := hg.i0
  have B := hg.ok.back hX
  rw [show X.length = g.Inputs.toNat from by omega] at B
  have hR := half_rel (I := g.Inputs.toNat) (X := X) hc (by omega) B (fun f hf => by
    obtain ⟨i, hi⟩ := List.mem_iff_getElem?.1 hf
    exact (hg.un i f hi).srt) hf
  rw [show ((g.Inputs.toNat : Nat) : Int) = g.Inputs from by omega] at hR
  show List.map (fun e => evV (valV (hlU (g.Inputs + (j : Int)) c g.Units j f) X) e) (g.Outputs.map (hlv (g.Inputs + (j : Int)))) = _
  rw [List.map_map]
  apply List.map_congr_left
  intro e he
  have h1 := hg.ou e he
  have := hR.ev (f := e) h1.srt fun t ht => (h1.inr t ht).1
  rw [show ((g.Inputs.toNat + j : Nat) : Int) = g.Inputs + (j : Int) from by omega] at this
  exact this
end Go.Proofs.YtlpmemelhlnfbaaGreatDoor
set_option linter.all false
set_option maxRecDepth 100000
set_option maxHeartbeats 6400000
namespace Go.Proofs.YtlpmemelhlnfbaaGreatDoor
open Go.RowKit
attribute [local irreducible] run runL loopG exec ghl
def hfQ : Rat := fracQ 1 2
theorem hf_two : hfQ + hfQ = 1 := by decide +kernel
theorem hf_H : H hfQ ≤ 2 := by decide +kernel
theorem one_scl (w : Int) : sclV [(w, 1)] 1 = [(w, 1)] := by
  unfold sclV put1
  simp
theorem two_add (v : Int) : addV [(v, 1)] [(v + 1, 1)] = two v := by
  show plusV false [(v, 1)] (v + 1) 1 = _
  rw [plusV_lt (by dsimp only; omega) (.inr (by dsimp only; omega))]
  unfold put1 two
  rw [if_neg (show ¬ (1 : Rat) = 0 by decide)]
  show [(v, 1)] ++ put1 (v + 1) 1 = _
  unfold put1
  rw [if_neg (show ¬ (1 : Rat) = 0 by decide)]
  rfl
theorem two_mrg (v : Int) : mergeV [(v, 1)] [(v + 1, 1)] 1 = two v := by
  rw [merge_add (one_srt (by decide)) (one_srt (by decide)), one_scl, two_add]
def hlL (v : Int) (k : Nat) : List Int := (List.range k).map fun i : Nat => toH v (i : Int)
theorem hlL_at {v w : Int} {k : Nat} (h0 : 0 ≤ w) (h1 : w < (k : Int)) : (hlL v k)[w.toNat]? = some (toH v w) := by
  unfold hlL
  rw [List.getElem?_map, List.getElem?_range (by omega), Option.map_some, show ((w.toNat : Nat) : Int) = w from by omega]
theorem hlL_len (v : Int) (k : Nat) : (hlL v k).length = k := by unfold hlL; rw [List.length_map, List.length_range]
theorem toH_rg {v w : Int} (h : 0 ≤ w) : 0 ≤ toH v w := by unfold toH; split <;> omega
section
variable {n : Nat} {g : TGraph} {j : Nat}
theorem rnh_bd {v : Int} {f : Form} (h : TmB 2 f.1 ∧ Srt f.1 ∧ H f.2 ≤ 2 ∧ f.1.length ≤ 7) : TmB 21 (rnF (toH v) f).1 ∧ (rnF (toH v) f).1.length ≤ 7 ∧ H (rnF (toH v) f).2 ≤ 2 := rn_bd h.1 h.2.2.2 h.2.2.1
theorem fhl_c {f : Form} {v : Int} {k : Nat} (h : TmB 2 f.1 ∧ Srt f.1 ∧ H f.2 ≤ 2 ∧ f.1.length ≤ 7) (hin : InR k f.1) :
    run (n + 3) 110 [formV f, .sl 1 ((hlL v k).map intI64C)] = some (formV (rnF (toH v) f)) ∧
    run (n + 3) 117 [formV (rnF (toH v) f), .lit (.int .i64 v), formV (two v, 0)] = some (formV (hlv v f)) := by
  obtain ⟨a, b, d⟩ := rnh_bd (v := v) h
  obtain ⟨t1, t2, t3, t4⟩ := h
  refine ⟨rnd_c (fun t ht => by
    have := hin t ht
    exact ⟨this.1, hlL_at this.1 this.2⟩) (fun t ht => toH_rg (hin t ht).1) (by omega) (fun t ht => by have := (t1 t ht).2; omega) (by omega), ?_⟩
  have K := fsbG_c (n := n) (f := rnF (toH v) f) (g := (two v, 0)) (v := v) (rn_srt _ _) (a.mono (by omega)) (fun t ht => by
    unfold two at ht
    simp at ht
    rcases ht with rfl | rfl <;> exact ⟨by show (1 : Rat) ≠ 0; decide, by show H 1 ≤ 100; decide⟩) (by omega) (by show H 0 ≤ 100; decide) (by omega) (by show 2 ≤ 100; omega)
  have e : (rnF (toH v) f).2 + ((two v, 0) : Form).2 * cof (rnF (toH v) f).1 v = (rnF (toH v) f).2 := by show _ + 0 * _ = _; rw [Rat.zero_mul, Rat.add_zero]
  rw [e] at K
  exact K
theorem grh_c {f : Form} {v : Int} {k : Nat} (h : TmB 2 f.1 ∧ Srt f.1 ∧ H f.2 ≤ 2 ∧ f.1.length ≤ 7) (hin : InR k f.1) (hk : k ≤ 1000) :
    run (n + 46) 108 [formV f, .clo 112 [.mem [.lit (.int .i64 v)]]] = some (formV (rnF (toH v) f)) := by
  obtain ⟨t1, t2, t3, t4⟩ := h
  have L1 := (loopG_I (O := tab (n + 46)) (P := Tryz.prog) (m := 0) (N := 36) (lives := livesOf 108) (r := 3) (C := grh_C3) (L := f.1) (f := fun _ o (t : Int × Rat) => o ++ [(toH v t.1, t.2)]) (enc := fun i o => grh_h3 f v o i) (exN := .exit 0) (out := fun o => grh_o3a f o) (Inv := fun i o => o.length = i) [] rfl (by omega) (by simp)
    (fun i t o hi hI => by
      obtain ⟨w, q⟩ := t
      have hlt := (List.getElem?_eq_some_iff.1 hi).1
      have := hin _ (List.mem_of_getElem? hi)
      dsimp only at this
      have K : run (n + 45) 112 [.lit (.int .i64 w), .mem [.lit (.int .i64 v)]] = some (.lit (.int .i64 (toH v w))) := by
        unfold toH
        by_cases c : v < w
        · rw [if_pos c]; exact gh2_f1 c ⟨by omega, by omega⟩
        · rw [if_neg c]; exact gh2_f2 c
      exact ⟨grh_r3_1 (by omega) hi K (by omega) ⟨by omega, by omega⟩, by rw [List.length_append, hI]; rfl⟩)
    (fun o hI => grh_x3_1 (by omega))).1
  rw [foldI_snoc (fun t : Int × Rat => (toH v t.1, t.2)), List.nil_append] at L1
  have K := lmk_ok (n := n) (L := rnT (toH v) f.1) (a1 := f.2) (b := 900) (by rw [rnT_len]; omega) (fun t ht => by
    obtain ⟨u, hu, rfl⟩ := rnT_mem ht
    have := (t1 u hu).2
    dsimp only
    omega) (by omega) (by omega) (fun t ht => by
    obtain ⟨u, hu, rfl⟩ := rnT_mem ht
    exact toH_rg (hin u hu).1)
  exact grh_f1 L1 K
theorem gh1_c {f : Form} {v : Int} {k : Nat} (h : TmB 2 f.1 ∧ Srt f.1 ∧ H f.2 ≤ 2 ∧ f.1.length ≤ 7) (hin : InR k f.1) (hk : k ≤ 1000) (hv : 0 ≤ v ∧ v ≤ 1000) :
    run (n + 47) 111 [formV f, .mem [.lit (.int .i64 v)]] = some (formV (hlv v f)) := by
  have K1 := grh_c (n := n) (v := v) h hin hk
  obtain ⟨a, b, d⟩ := rnh_bd (v := v) h
  have e1 : (ofQ 1 : Rat) = 1 := by decide +kernel
  have V (w : Int) : run (n + 46) 82 [.lit (.int .i64 w), ratV (ofQ 1)] = some (formV ([(w, ofQ 1)], 0)) := by rw [gvr_f1 (n := n + 46) (a0 := w) (a1 := ofQ 1)]; simp
  rw [e1] at V
  have A := padd_c (n := n + 44) (f := ([(v, 1)], 0)) (g := ([(v + 1, 1)], 0)) (b := 1) (fun t ht => by rw [List.mem_singleton.1 ht]; show H 1 ≤ 1; decide) (fun t ht => by rw [List.mem_singleton.1 ht]; show H 1 ≤ 1; decide) (by omega) (by show H 0 ≤ 1000000; decide) (by show H 0 ≤ 1000000; decide) (by simp) (by simp)
  dsimp only at A
  rw [two_mrg, Rat.add_zero] at A
  have K := lsb_c (n := n + 44) (f := rnF (toH v) f) (g := (two v, 0)) (v := v) (b := 21) (rn_srt _ _) (fun t ht => (a t ht).2) (fun t ht => by
    unfold two at ht
    simp at ht
    rcases ht with rfl | rfl <;> (show H 1 ≤ 21; decide)) (by omega) (by omega) (by omega) (by show H 0 ≤ 1000000; decide) (by omega) (by show 2 ≤ 1000000; omega)
  have e : (rnF (toH v) f).2 + ((two v, 0) : Form).2 * cof (rnF (toH v) f).1 v = (rnF (toH v) f).2 := by show _ + 0 * _ = _; rw [Rat.zero_mul, Rat.add_zero]
  have e2 : mergeV (rst (rnF (toH v) f).1 v) ((two v, 0) : Form).1 (cof (rnF (toH v) f).1 v) = (hlv v f).1 := merge_add (rst_srt (rn_srt _ _)) (two_srt v)
  rw [e, e2] at K
  exact gh1_f1 K1 (by rw [e1]; exact V v) ⟨by omega, by omega⟩ (by rw [e1]; exact V (v + 1)) A K
theorem geh_c (hg : GrOk g) {v : Int} (hv : 0 ≤ v ∧ v ≤ 1000) :
    runL (n + 48) 83 [.sl 4 (g.Outputs.map formC), .clo 111 [.mem [.lit (.int .i64 v)]]] [] = some (.own 0 (g.Outputs.map (hlv v)).length, [(0, .row 29 4 ((g.Outputs.map (hlv v)).map formC) 0)]) := by
  have i1 := hg.i1
  have hu := hg.u
  have hq := hg.o1
  have L1 := (loopG_I (O := tab (n + 48)) (P := Tryz.prog) (m := 0) (N := 22) (lives := livesOf 83) (r := 3) (C := geh_C3) (L := g.Outputs) (f := fun _ o f => o ++ [hlv v f]) (enc := fun i o => geh_h3 g.Outputs v o i) (exN := .exit 0) (out := fun o => geh_o3a o) (Inv := fun i o => o.length = i) [] rfl (by omega) (by simp)
    (fun i f o hi hI => by
      have hlt := (List.getElem?_eq_some_iff.1 hi).1
      have hm := List.mem_of_getElem? hi
      have K := gh1_c (n := n) (hg.oo f hm) (hg.ou f hm).inr (by omega) hv
      exact ⟨geh_r3_1 (by omega) hi K (by omega) ⟨by omega, by omega⟩, by rw [List.length_append, hI]; rfl⟩)
    (fun o hI => geh_x3_1 (by omega))).1
  rw [foldI_snoc (hlv v), List.nil_append] at L1
  exact geh_f1 L1
theorem scf_one {f : Form} (h : Srt f.1) : scf 1 f = f := by
  unfold scf
  rw [Rat.mul_one]
  have : sclV f.1 1 = f.1 := by
    have hS := h.2
    generalize f.1 = F at hS
    clear h
    induction F with
    | nil => rfl
    | cons t F ih =>
      show put1 t.1 (t.2 * 1) ++ sclV F 1 = _
      rw [ih fun u hu => hS u (by simp [hu]), Rat.mul_one, put_one (hS t (by simp))]
  rw [this]
theorem gHv_l (hg : GrOk g) {f : Form} (hf : g.Units[j]? = some f) :
    loopG Tryz.prog (tab (n + 49)) 0 85 (livesOf 47) 12 gHv_C12 (gHv_h12 g (j : Int) 0 (scf hfQ f) []) = some (.exit 0, gHv_o12a g (j : Int) (hlU (g.Inputs + (j : Int)) hfQ g.Units j f)) := by
  have i0 := hg.i0
  have i1 := hg.i1
  have hu := hg.u
  have hj := (List.getElem?_eq_some_iff.1 hf).1
  have hL := hlU_len (v := g.Inputs + (j : Int)) (c := hfQ) (f := f) hj
  obtain ⟨q1, q2⟩ := hlU_eq (v := g.Inputs + (j : Int)) (c := hfQ) (f := f) hj
  obtain ⟨b, h1, h2⟩ := loopG_R (β := List Form) (O := tab (n + 49)) (P := Tryz.prog) (m := 0) (N := 85) (lives := livesOf 47) (r := 12) (C := gHv_C12) (M := g.Units.length) (enc := fun i o => gHv_h12 g (j : Int) i (scf hfQ f) o) (exN := .exit 0) (out := fun o => gHv_o12a g (j : Int) o)
    (fun i o => o = (hlU (g.Inputs + (j : Int)) hfQ g.Units j f).take (if i ≤ j then i else i + 1)) [] (by rw [if_pos (by omega), List.take_zero]) (by omega) (by simp)
    (fun i o hi hI => by
      obtain ⟨e, he⟩ : ∃ e, g.Units[i]? = some e := ⟨_, List.getElem?_eq_getElem hi⟩
      have hl : o.length ≤ 100 := by rw [hI, List.length_take]; omega
      by_cases c : i = j
      · subst c
        rw [hf] at he
        cases he
        obtain ⟨t1, t2, t3, t4⟩ := hg.uu f (List.mem_of_getElem? hf)
        have hs := hscf_bd hf_H (hg.uu f (List.mem_of_getElem? hf))
        have e1 : (ofQ 1 : Rat) = 1 := by decide +kernel
        have K := pscl_c (n := n + 46) (f := scf hfQ f) (c := ofQ 1) (b := 67) hs.1.t (by omega) (by have := hs.1.k; omega) (by rw [e1]; show H 1 ≤ 1000000; decide) (by have := hs.2; omega)
        rw [merge_scl, e1] at K
        have e2 := scf_one (scf_srt (c := hfQ) t2)
        have e3 : ((sclV (scf hfQ f).1 1, (scf hfQ f).2 * 1) : Form) = scf hfQ f := e2
        rw [e3] at K
        refine ⟨o ++ [scf hfQ f, scf hfQ f], gHv_r12_1 (F4 := f.1) (q4 := f.2) (by omega) hf rfl (by rw [e1]; exact K) (by omega) ⟨by omega, by omega⟩, ?_⟩
        rw [if_neg (by omega), hI, if_pos (by omega), show i + 1 + 1 = (i + 1) + 1 from rfl, take_snoc q2, take_snoc q1, List.append_assoc]
        rfl
      · have hm := List.mem_of_getElem? he
        have K := gh1_c (n := n + 1) (v := g.Inputs + (j : Int)) (hg.uu e hm) (hg.un _ _ he).inr (by omega) ⟨by omega, by omega⟩
        refine ⟨o ++ [hlv (g.Inputs + (j : Int)) e], gHv_r12_2 (F4 := e.1) (q4 := e.2) (by omega) he (by omega) K (by omega) ⟨by omega, by omega⟩, ?_⟩
        by_cases c2 : i < j
        · have e1 := hlU_lo (v := g.Inputs + (j : Int)) (c := hfQ) (f := f) hj c2
          rw [he] at e1
          rw [hlv_id (k := g.Inputs.toNat + i) (by omega) (hg.un _ _ he).srt (hg.un _ _ he).inr, if_pos (by omega), hI, if_pos (by omega), take_snoc e1]
        · have e1 := hlU_hi (v := g.Inputs + (j : Int)) (c := hfQ) (f := f) hj (show j < i by omega)
          rw [he] at e1
          rw [if_neg (by omega), hI, if_neg (by omega), take_snoc e1])
    (fun o hI => gHv_x12_1 (by omega))
  rw [if_neg (by omega), List.take_of_length_le (by omega)] at h2
  rw [h1, h2]
theorem fHv_l8 (hg : GrOk g) (hj : j < g.Units.length) :
    loopG Tryz.prog (tab (n + 4)) 0 148 (livesOf 48) 8 fHv_C8 (fHv_h8 g (j : Int) (List.replicate ((g.Inputs + (g.Units.length : Int)).toNat) 0) 0) = some (.exit 0, fHv_o8a g (j : Int) (hlL (g.Inputs + (j : Int)) (g.Inputs.toNat + g.Units.length))) := by
  have i0 := hg.i0
  have i1 := hg.i1
  have hu := hg.u
  have hL := hlL_len (g.Inputs + (j : Int)) (g.Inputs.toNat + g.Units.length)
  obtain ⟨b, h, _⟩ := loopG_R (β := Unit) (O := tab (n + 4)) (P := Tryz.prog) (m := 0) (N := 148) (lives := livesOf 48) (r := 8) (C := fHv_C8) (M := (hlL (g.Inputs + (j : Int)) (g.Inputs.toNat + g.Units.length)).length) (enc := fun i _ => fHv_h8 g (j : Int) (fillL (hlL (g.Inputs + (j : Int)) (g.Inputs.toNat + g.Units.length)) i) i) (exN := .exit 0) (out := fun _ => fHv_o8a g (j : Int) (hlL (g.Inputs + (j : Int)) (g.Inputs.toNat + g.Units.length))) (fun _ _ => True) () trivial (by omega) (by simp)
    (fun i _ hi _ => by
      have hl := fill_len (L := hlL (g.Inputs + (j : Int)) (g.Inputs.toNat + g.Units.length)) (i := i) (by omega)
      have e1 := hlL_at (v := g.Inputs + (j : Int)) (w := (i : Int)) (k := g.Inputs.toNat + g.Units.length) (by omega) (by omega)
      rw [Int.toNat_natCast] at e1
      have e := fill_set e1
      by_cases c : g.Inputs + (j : Int) < (i : Int)
      · have R := fHv_r8_1 (n := n) (a0 := g) (a1 := (j : Int)) (i_8 := i) (out_8 := fillL (hlL (g.Inputs + (j : Int)) (g.Inputs.toNat + g.Units.length)) i) (by omega) (by omega) ⟨by omega, by omega⟩ c ⟨by omega, by omega⟩
        unfold toH at e
        rw [if_pos c] at e
        rw [List.set_set, e] at R
        exact ⟨(), R, trivial⟩
      · have R := fHv_r8_2 (n := n) (a0 := g) (a1 := (j : Int)) (i_8 := i) (out_8 := fillL (hlL (g.Inputs + (j : Int)) (g.Inputs.toNat + g.Units.length)) i) (by omega) (by omega) ⟨by omega, by omega⟩ c ⟨by omega, by omega⟩
        unfold toH at e
        rw [if_neg c] at e
        rw [e] at R
        exact ⟨(), R, trivial⟩)
    (fun _ _ => by
      have R := fHv_x8_1 (n := n) (a0 := g) (a1 := (j : Int)) (i_8 := (hlL (g.Inputs + (j : Int)) (g.Inputs.toNat + g.Units.length)).length) (out_8 := hlL (g.Inputs + (j : Int)) (g.Inputs.toNat + g.Units.length)) (by omega)
      rw [fill_all]
      exact R)
  rw [fill_0, hL, show g.Inputs.toNat + g.Units.length = (g.Inputs + (g.Units.length : Int)).toNat from by omega] at h
  rw [h, show g.Inputs.toNat + g.Units.length = (g.Inputs + (g.Units.length : Int)).toNat from by omega]
theorem fHv_l19 (hg : GrOk g) (hj : j < g.Units.length) (A : List Form) (hA : A.length ≤ 100) :
    ∃ fz, loopG Tryz.prog (tab (n + 4)) 0 148 (livesOf 48) 19 fHv_C19 (fHv_h19 g (j : Int) (hlL (g.Inputs + (j : Int)) (g.Inputs.toNat + g.Units.length)) ((j : Int) + 1) 0 (two (g.Inputs + (j : Int)), 0) A) = some (.exit 2, fHv_o19a g (j : Int) (hlL (g.Inputs + (j : Int)) (g.Inputs.toNat + g.Units.length)) fz (two (g.Inputs + (j : Int)), 0) (A ++ (g.Units.drop (j + 1)).map (hlv (g.Inputs + (j : Int))))) := by
  have i0 := hg.i0
  have i1 := hg.i1
  have hu := hg.u
  have hD : ((g.Units.drop (j + 1)).map (hlv (g.Inputs + (j : Int)))).length = g.Units.length - (j + 1) := by rw [List.length_map, List.length_drop]
  obtain ⟨b, h1, h2⟩ := loopG_R (β := Nat × List Form) (O := tab (n + 4)) (P := Tryz.prog) (m := 0) (N := 148) (lives := livesOf 48) (r := 19) (C := fHv_C19) (M := g.Units.length - (j + 1)) (enc := fun k b => fHv_h19 g (j : Int) (hlL (g.Inputs + (j : Int)) (g.Inputs.toNat + g.Units.length)) ((j : Int) + 1 + (k : Int)) b.1 (two (g.Inputs + (j : Int)), 0) b.2) (exN := .exit 2) (out := fun b => fHv_o19a g (j : Int) (hlL (g.Inputs + (j : Int)) (g.Inputs.toNat + g.Units.length)) b.1 (two (g.Inputs + (j : Int)), 0) b.2)
    (fun k b => b.2 = A ++ ((g.Units.drop (j + 1)).map (hlv (g.Inputs + (j : Int)))).take k) (0, A) (by rw [List.take_zero, List.append_nil]) (by omega) (by simp)
    (fun k b hk hI => by
      obtain ⟨fz, o⟩ := b
      dsimp only at hI
      obtain ⟨f, hf⟩ : ∃ f, g.Units[j + 1 + k]? = some f := ⟨_, List.getElem?_eq_getElem (by omega)⟩
      obtain ⟨F, q⟩ := f
      have hm := List.mem_of_getElem? hf
      have hin := (hg.un _ _ hf).inr
      obtain ⟨K1, K2⟩ := fhl_c (n := n) (v := g.Inputs + (j : Int)) (k := g.Inputs.toNat + g.Units.length) (hg.uu _ hm) (hin.mono (by omega))
      have hW : ((g.Units.drop (j + 1)).map (hlv (g.Inputs + (j : Int))))[k]? = some (hlv (g.Inputs + (j : Int)) (F, q)) := by rw [List.getElem?_map, List.getElem?_drop, hf]; rfl
      have R := fHv_r19_1 (n := n) (a0 := g) (a1 := (j : Int)) (i_19 := (j : Int) + 1 + (k : Int)) (fz_19 := fz) (out2_19 := o) (by omega) (by rw [show ((j : Int) + 1 + (k : Int)).toNat = j + 1 + k from by omega]; exact hf) (by omega) K1 ⟨by omega, by omega⟩ K2 (by rw [hI, List.length_append, List.length_take]; omega) ⟨by omega, by omega⟩
      rw [show (j : Int) + 1 + (k : Int) + 1 = (j : Int) + 1 + ((k + 1 : Nat) : Int) from by omega] at R
      exact ⟨(_, o ++ [hlv (g.Inputs + (j : Int)) (F, q)]), R, by rw [take_snoc hW, hI, List.append_assoc]⟩)
    (fun b hI => fHv_x19_1 (by omega))
  rw [List.take_of_length_le (by omega)] at h2
  rw [show (j : Int) + 1 + ((0 : Nat) : Int) = (j : Int) + 1 from by omega] at h1
  exact ⟨b.1, by rw [h1, h2]⟩
theorem fHv_l23 (hg : GrOk g) (hj : j < g.Units.length) (fz : Nat) (A : List Form) :
    loopG Tryz.prog (tab (n + 4)) 0 148 (livesOf 48) 23 fHv_C23 (fHv_h23 g (j : Int) (hlL (g.Inputs + (j : Int)) (g.Inputs.toNat + g.Units.length)) 0 fz (two (g.Inputs + (j : Int)), 0) A []) = some (.exit 4, fHv_o23a g A (g.Outputs.map (hlv (g.Inputs + (j : Int))))) := by
  have i0 := hg.i0
  have i1 := hg.i1
  have hu := hg.u
  have hq := hg.o1
  have hL : (g.Outputs.map (hlv (g.Inputs + (j : Int)))).length = g.Outputs.length := List.length_map _
  obtain ⟨b, h1, h2⟩ := loopG_R (β := Nat × List Form) (O := tab (n + 4)) (P := Tryz.prog) (m := 0) (N := 148) (lives := livesOf 48) (r := 23) (C := fHv_C23) (M := g.Outputs.length) (enc := fun k b => fHv_h23 g (j : Int) (hlL (g.Inputs + (j : Int)) (g.Inputs.toNat + g.Units.length)) k b.1 (two (g.Inputs + (j : Int)), 0) A b.2) (exN := .exit 4) (out := fun b => fHv_o23a g A b.2)
    (fun k b => b.2 = (g.Outputs.map (hlv (g.Inputs + (j : Int)))).take k) (fz, []) (by rw [List.take_zero]) (by omega) (by simp)
    (fun k b hk hI => by
      obtain ⟨fz, o⟩ := b
      dsimp only at hI
      obtain ⟨f, hf⟩ : ∃ f, g.Outputs[k]? = some f := ⟨_, List.getElem?_eq_getElem hk⟩
      obtain ⟨F, q⟩ := f
      have hm := List.mem_of_getElem? hf
      obtain ⟨K1, K2⟩ := fhl_c (n := n) (v := g.Inputs + (j : Int)) (hg.oo _ hm) (hg.ou _ hm).inr
      have hW : (g.Outputs.map (hlv (g.Inputs + (j : Int))))[k]? = some (hlv (g.Inputs + (j : Int)) (F, q)) := by rw [List.getElem?_map, hf]; rfl
      exact ⟨(_, o ++ [hlv (g.Inputs + (j : Int)) (F, q)]), fHv_r23_1 (by omega) hf K1 ⟨by omega, by omega⟩ K2 (by rw [hI, List.length_take]; omega) ⟨by omega, by omega⟩, by rw [take_snoc hW, hI]⟩)
    (fun b hI => fHv_x23_1 (by omega))
  rw [List.take_of_length_le (by omega)] at h2
  rw [h1, h2]
theorem halve_both (hg : GrOk g) {a : Int} : ∃ (G : TGraph) (e : Int),
    run (n + 49) 47 [graphV g, .lit (.int .i64 a)] = some (.tup [graphV G, .lit (.int .i64 e)]) ∧
    run (n + 49) 48 [graphV g, .lit (.int .i64 a)] = some (.tup [graphV G, .lit (.int .i64 e)]) ∧
    ((e ≠ 0 ∧ G = ⟨0, [], []⟩) ∨ (e = 0 ∧ ∃ j f, g.Units[j]? = some f ∧ G = hlG g hfQ j f)) := by
  have i0 := hg.i0
  have i1 := hg.i1
  have hu := hg.u
  have K1 := gvalid_c (n := n + 42) (hg.bd.mono (by omega))
  have U1 := validG_c (n := n + 45) (hg.bd.mono (by omega))
  rw [tv_t hg.ok] at K1 U1
  by_cases c1 : a < 0
  · refine ⟨⟨0, [], []⟩, 2, ?_, ?_, .inl ⟨by decide, rfl⟩⟩
    · rw [zero_gr]; exact gHv_f3 (gck_f3 (n := n + 42) K1 rfl rfl c1) (by decide)
    · rw [zero_gr]; exact fHv_f1 (n := n + 45) (unt_f2 (n := n + 45) U1 rfl c1) (by decide)
  by_cases c2 : (g.Units.length : Int) ≤ a
  · refine ⟨⟨0, [], []⟩, 2, ?_, ?_, .inl ⟨by decide, rfl⟩⟩
    · rw [zero_gr]; exact gHv_f3 (gck_f4 (n := n + 42) K1 rfl rfl c1 c2) (by decide)
    · rw [zero_gr]; exact fHv_f1 (n := n + 45) (unt_f3 (n := n + 45) U1 rfl c1 c2) (by decide)
  obtain ⟨j, rfl⟩ : ∃ j : Nat, a = (j : Int) := ⟨a.toNat, by omega⟩
  obtain ⟨f, hf⟩ : ∃ f, g.Units[j]? = some f := ⟨_, List.getElem?_eq_getElem (by omega)⟩
  have hm := List.mem_of_getElem? hf
  obtain ⟨t1, t2, t3, t4⟩ := hg.uu f hm
  have hc := hf_H
  have hf' : g.Units[((j : Nat) : Int).toNat]? = some (f.1, f.2) := by rw [Int.toNat_natCast]; exact hf
  refine ⟨hlG g hfQ j f, 0, ?_, ?_, .inr ⟨rfl, j, f, hf, rfl⟩⟩
  · have T := pscl_c (n := n + 46) (f := f) (c := hfQ) (b := 2) (fun t ht => (t1 t ht).2) (by omega) (by omega) (by omega) (by omega)
    rw [merge_scl] at T
    exact gHv_f2 (r4 := scf hfQ f) (gck_f5 (n := n + 42) K1 rfl rfl c1 c2) rfl (by omega) ⟨by omega, by omega⟩ (pfr_half (n := n + 38)) hf' (by omega) T (gHv_l hg hf) (geh_c hg ⟨by omega, by omega⟩)
  · have V := fun v => var_c (n := n + 48) v
    have A := add_c (n := n + 46) (f := ([(g.Inputs + (j : Int), 1)], 0)) (g := ([(g.Inputs + (j : Int) + 1, 1)], 0)) (m := 1) (b := 1) (fun t ht => by rw [List.mem_singleton.1 ht]; exact ⟨by show (1 : Rat) ≠ 0; decide, by show H 1 ≤ 1; decide⟩) (by simp) (fun t ht => by rw [List.mem_singleton.1 ht]; exact ⟨by show (1 : Rat) ≠ 0; decide, by show H 1 ≤ 1; decide⟩) (by simp) (by simp) (by show H 0 ≤ 1000000; decide) (by show H 0 ≤ 1000000; decide)
    dsimp only at A
    rw [two_add, Rat.add_zero] at A
    have S := scale_c (n := n + 47) (f := f) (c := hfQ) (t1.mono (by omega)) (by omega) (by omega) (by omega)
    obtain ⟨fz, B19⟩ := fHv_l19 (n := n + 45) hg (j := j) (by omega) (g.Units.take j ++ [scf hfQ f, scf hfQ f]) (by rw [List.length_append, List.length_take]; simp; omega)
    have B23 := fHv_l23 (n := n + 45) hg (j := j) (by omega) fz (hlU (g.Inputs + (j : Int)) hfQ g.Units j f)
    have htk : (g.Units.take ((j : Nat) : Int).toNat).length ≤ 1000 := by rw [List.length_take]; omega
    exact fHv_f3 (n := n + 45) (r5 := scf hfQ f) (unt_f4 (n := n + 45) U1 rfl c1 c2) rfl (by omega) ⟨by omega, by omega⟩ (by omega) (by omega) (fHv_l8 (n := n + 45) hg (by omega)) ⟨by omega, by omega⟩ (V _) ⟨by omega, by omega⟩ (V _) A hf' (by omega) S ⟨by omega, by omega, by omega⟩ (by omega) (by omega) ⟨by omega, by omega⟩ (by rw [Int.toNat_natCast]; exact B19) B23
end
theorem halve_true {n : Nat} {bs at_ : List Int} {a : Int} (hbs : ∀ x ∈ bs, 0 ≤ x ∧ x < 256) (hat : ∀ x ∈ at_, 0 ≤ x ∧ x < 256) : ghl n [.sl 1 (bs.map intU8C), .lit (.int .i64 a), .sl 1 (at_.map intU8C)] = some (.lit (.bool true)) := by
  by_cases c1 : 400 < (bs.length : Int)
  · exact ghl_f1 c1
  by_cases c3 : 40 < (at_.length : Int)
  · exact ghl_f2 c1 c3
  obtain ⟨g, K4, hg⟩ := small15_c (n := n + 44) ⟨by omega, hbs⟩ (by omega)
  have i0 := hg.i0
  have i1 := hg.i1
  have hu := hg.u
  have hq := hg.o1
  have K5 := cpy_f1 (n := n + 49) (a0 := g) (by omega) (by omega)
  obtain ⟨G, e, K6, K7, hG⟩ := halve_both (n := n) (a := a) hg
  rcases hG with ⟨he, rfl⟩ | ⟨rfl, j, f, hf, rfl⟩
  · have hB : BdG 17179869184 ⟨0, [], []⟩ := ⟨by simp, by simp, fun f hf => (by cases hf), fun f hf => (by cases hf)⟩
    exact ghl_f5 c1 c3 K4 K5 K6 K7 rfl (rEq_same (n := n + 47) hB) rfl he
  · obtain ⟨bd, lu, lo⟩ := hlG_bd hg hf_H hf hg.uu hg.oo
    have ok := hlG_ok (c := hfQ) hg hf
    have K9 := rEq_same (n := n + 47) (bd.mono (by omega))
    have K11 := validG_c (n := n + 47) (bd.mono (by omega))
    rw [tv_t ok] at K11
    obtain ⟨X, K16, hX, hXb⟩ := point_c (n := n + 47) (bs := at_) ⟨by omega, hat⟩ (by omega) (I := g.Inputs) (by omega) (by omega)
    have lU : (hlG g hfQ j f).Units.length = g.Units.length + 1 := hlU_len (List.getElem?_eq_some_iff.1 hf).1
    have hb : bndV 67 9 2 ((hlG g hfQ j f).Units.length + 1) ≤ 100000000 := Nat.le_trans (bndV_mono 67 9 2 (j := 6) (by omega)) (by decide)
    have O1 := fouts_c (n := n + 43) (g := hlG g hfQ j f) (X := X) (a := 67) (l := 9) (b := 2) ok bd (by omega) lu lo hX hXb hb
    have hb2 : bndV 2 7 2 (g.Units.length + 1) ≤ 100000000 := Nat.le_trans hg.bnd (by omega)
    have O2 := fouts_c (n := n + 43) (g := g) (X := X) (a := 2) (l := 7) (b := 2) hg.ok hg.bd (by omega) hg.lu hg.lo hX hXb hb2
    rw [hlG_out hg hf_two hX hf] at O1
    have Q := sal_same (n := n + 48) (L := g.Outputs.map fun f => evV (valV g.Units X) f) (by rw [List.length_map]; omega) (fun q hq => by
      obtain ⟨f, hf, rfl⟩ := List.mem_map.1 hq
      have := O2.2 f hf
      omega)
    exact ghl_f6 c1 c3 K4 K5 K6 K7 rfl K9 rfl rfl K11 rfl K16 (sme_f1 O1.1 O2.1 rfl rfl Q)
end Go.Proofs.YtlpmemelhlnfbaaGreatDoor
set_option linter.all false
namespace Go.Proofs.YtlpmemelhlnfbaaGreatDoor
open Go.ChangeShapes Go.WideShapes Go.RowKit Go.Deep
def okT : Nat → Nat → Prop := fun _ _ => True
theorem bulk_one_le {H : Type} (d : DataW H) : 1 ≤ Rows.uptoBulk d := by
  cases d with
  | lit l => cases l <;> simp [Rows.uptoBulk]
  | nil => simp [Rows.uptoBulk]
  | ptr d => simp [Rows.uptoBulk]
  | slice elems spare => simp [Rows.uptoBulk]
  | agg parts => simp [Rows.uptoBulk]
  | iface t d => simp [Rows.uptoBulk]
  | map entries => simp [Rows.uptoBulk]
  | held h => simp [Rows.uptoBulk]
theorem bulk_part_le {H : Type} {d : DataW H} {l : List (DataW H)} (h : d ∈ l) : Rows.uptoBulk d ≤ Rows.uptoBulkAll l := by
  induction l with
  | nil => cases h
  | cons x r ih =>
    simp only [Rows.uptoBulkAll]
    cases List.mem_cons.1 h with
    | inl e => subst e; omega
    | inr e => have := ih e; omega
theorem bulk_length_le {H : Type} (l : List (DataW H)) : l.length ≤ Rows.uptoBulkAll l := by
  induction l with
  | nil => simp [Rows.uptoBulkAll]
  | cons x r ih => have := bulk_one_le x; simp only [Rows.uptoBulkAll, List.length_cons]; omega
theorem bulk_slice {H : Type} {d : DataW H} {l r : List (DataW H)} (h : d ∈ l) : Rows.uptoBulk d ≤ Rows.uptoBulk (.slice l r) := by
  have := bulk_part_le h
  simp only [Rows.uptoBulk]
  omega
theorem bulk_slice_len {H : Type} (l r : List (DataW H)) : l.length ≤ Rows.uptoBulk (.slice l r) := by
  have := bulk_length_le l
  simp only [Rows.uptoBulk]
  omega
def Opens (w : World) (t : TypeId) (A : Nat → List AV → Prop) : Prop :=
  ∀ (H : Type) (enc : TypeId × Value → H) (base : Nat) (spare : Nat → Bool) (held : Bool) (fuel : Nat) (cs : List Value) (x : DataW H × List MemPlace), DataW.trod enc Tryz.prog w base spare held fuel t cs = some x → ∃ us, A (Rows.uptoBulk x.1) us ∧ RV (RepT w okT) us cs
def Up1 (A : Nat → List AV → Prop) : Prop := ∀ N M us, N ≤ M → A N us → A M us
theorem Opens.mono {w : World} {t : TypeId} {A B : Nat → List AV → Prop} (h : Opens w t A) (hA : ∀ N us, A N us → B N us) : Opens w t B := fun H enc base spare held fuel cs x hx => by
  obtain ⟨us, h1, h2⟩ := h H enc base spare held fuel cs x hx
  exact ⟨us, hA _ _ h1, h2⟩
theorem rvq1 {R : AV → Value → Prop} {a : AV} {v : Value} (h : R a v) : RV R [a] [v] := ⟨rfl, fun i d hi => by
  match i, hi with
  | 0, hi => cases hi; exact ⟨v, rfl, h⟩
  | i + 1, hi => simp at hi⟩
section
variable {w : World}
theorem op_int {t : TypeId} {k : IntKind} (ht : Tryz.prog.underlying t = some (.int k)) : Opens w t (fun _ us => ∃ z, us = [.lit (.int k z)] ∧ (Lit.int k z).wf = true) := fun H enc base spare held fuel cs x hx => by
  obtain ⟨n, rfl, rfl, hw⟩ := DataW.trod_int ht hx
  exact ⟨_, ⟨n, rfl, hw⟩, rvq1 (.lit _)⟩
theorem addr_at {b o i : Nat} : (⟨b, o, none⟩ : Addr).add i = ⟨b, o + i, none⟩ := by
  unfold Addr.add
  split
  · rename_i h; subst h; rfl
  · rfl
theorem op_sl {t e : TypeId} {k : Nat} {A : Nat → List AV → Prop} (ht : Tryz.prog.underlying t = some (.slice e)) (hk : Tryz.prog.cellsOf e = k) (h0k : 0 < k) (he : Opens w e A) (hA : Up1 A) :
    Opens w t (fun N us => ∃ es : List (List AV), us = [.sl k es] ∧ es.length ≤ N ∧ ∀ e ∈ es, A N e) := fun H enc base spare held fuel cs x hx => by
  rcases open_slice ht hx with ⟨rfl, _⟩ | ⟨a, len, cap, m, n, D, Pl, rfl, _, hl, hm, hmm, hxe, hi⟩
  · exact ⟨_, ⟨[], rfl, by simp, fun e he => by cases he⟩, rvq1 (.nil none 0)⟩
  · have hlm : len ≤ m := by rw [hmm]; split <;> omega
    have hb : ∀ i, i < len → Rows.uptoBulk (D i) ≤ Rows.uptoBulk x.1 := fun i hil => by
      subst hxe
      exact bulk_slice (List.mem_map.2 ⟨i, List.mem_range.2 hil, rfl⟩)
    have hbl : len ≤ Rows.uptoBulk x.1 := by
      subst hxe
      have := bulk_slice_len ((List.range len).map D) ((List.range (m - len)).map fun j => D (len + j))
      rw [List.length_map, List.length_range] at this
      exact this
    obtain ⟨U, hU⟩ := choose_lt (n := len) (p := fun i (u : List AV) => A (Rows.uptoBulk x.1) u ∧ ∃ cs', RV (RepT w okT) u cs' ∧ w.cells? base (a.add (i * k)) k = some cs') (fun i hil => by
      obtain ⟨cs', h1, h2⟩ := hi i (by omega)
      rw [hk] at h1
      obtain ⟨u, hu, hr⟩ := he H enc base spare held _ _ _ h2
      exact ⟨u, hA _ _ _ (hb i hil) hu, cs', hr, h1⟩)
    refine ⟨[.sl k ((List.range len).map U)], ⟨_, rfl, by rw [List.length_map, List.length_range]; exact hbl, fun e he => ?_⟩, ?_⟩
    · obtain ⟨i, hir, rfl⟩ := List.mem_map.1 he
      exact (hU i (List.mem_range.1 hir)).1
    · by_cases h0 : len = 0
      · subst h0; exact rvq1 (.nil (some a) cap)
      · have hz := (hU 0 (by omega)).2.choose_spec.2
        obtain ⟨_, hz1, hz2⟩ := World.cells?_some hz
        have hz3 := hz2 0 h0k
        rw [List.getElem?_eq_getElem (by omega)] at hz3
        have hs0 := World.cell?_spot hz3
        obtain ⟨b, o, sp⟩ := a
        have hsp : sp = none := by
          simp [Addr.add] at hs0
          exact hs0
        subst hsp
        have key : ∀ (i j : Nat) (e : List AV) (d : AV), ((List.range len).map U)[i]? = some e → e[j]? = some d → ∃ u, w.cell? ⟨b, o + i * k + j, none⟩ = some u ∧ RepT w okT d u := fun i j e d hie hjd => by
          have hil : i < len := by have := (List.getElem?_eq_some_iff.1 hie).1; rw [List.length_map, List.length_range] at this; exact this
          rw [List.getElem?_map, List.getElem?_range hil] at hie
          cases hie
          obtain ⟨_, cs', hr, hc⟩ := hU i hil
          obtain ⟨_, q1, q2⟩ := World.cells?_some hc
          obtain ⟨u, g1, g2⟩ := hr.2 j d hjd
          have hj : j < k := by
            have := (List.getElem?_eq_some_iff.1 g1).1
            omega
          have := q2 j hj
          rw [addr_at, addr_at] at this
          exact ⟨u, this.trans g1, g2⟩
        have R := RepT.sl (w := w) (ok := okT) (k := k) (b := b) (o := o) (c := cap) (es := (List.range len).map U) (fun e he => by
            obtain ⟨i, hir, rfl⟩ := List.mem_map.1 he
            obtain ⟨_, cs', hr, hc⟩ := hU i (List.mem_range.1 hir)
            obtain ⟨_, q1, _⟩ := World.cells?_some hc
            have := hr.1
            omega) (by rw [List.length_map, List.length_range]; exact hl) (fun i j e d he hd => by
            obtain ⟨u, h1, _⟩ := key i j e d he hd
            exact ⟨trivial, by rw [h1]; rfl⟩) (fun i j e d he hd => by
            obtain ⟨u, h1, h2⟩ := key i j e d he hd
            rw [h1]
            exact h2)
        rw [List.length_map, List.length_range] at R
        exact rvq1 R
theorem list_of {α : Type} {enc : α → List AV} {ok : α → Prop} : ∀ {es : List (List AV)}, (∀ e ∈ es, ∃ x, e = enc x ∧ ok x) → ∃ L : List α, es = L.map enc ∧ ∀ x ∈ L, ok x
  | [], _ => ⟨[], rfl, fun x hx => by cases hx⟩
  | e :: es, h => by
    obtain ⟨x, rfl, hx⟩ := h e (List.mem_cons_self ..)
    obtain ⟨L, rfl, hL⟩ := list_of fun e he => h e (List.mem_cons_of_mem _ he)
    exact ⟨x :: L, rfl, fun y hy => by
      rcases List.mem_cons.1 hy with rfl | hy
      · exact hx
      · exact hL y hy⟩
theorem op_list {α : Type} {t e : TypeId} {k : Nat} {enc : α → List AV} {ok : Nat → α → Prop} (ht : Tryz.prog.underlying t = some (.slice e)) (hk : Tryz.prog.cellsOf e = k) (h0k : 0 < k) (he : Opens w e (fun N us => ∃ x, us = enc x ∧ ok N x)) (hm : ∀ N M x, N ≤ M → ok N x → ok M x) :
    Opens w t (fun N us => ∃ L : List α, us = [.sl k (L.map enc)] ∧ L.length ≤ N ∧ ∀ x ∈ L, ok N x) :=
  (op_sl ht hk h0k he (fun N M us hN ⟨x, h1, h2⟩ => ⟨x, h1, hm N M x hN h2⟩)).mono fun N us ⟨es, h1, h2, h3⟩ => by
    obtain ⟨L, rfl, hL⟩ := list_of h3
    exact ⟨L, h1, by simpa using h2, hL⟩
def okInt (k : IntKind) (_ : Nat) (z : Int) : Prop := (Lit.int k z).wf = true
theorem okInt.up {k : IntKind} {N M : Nat} {z : Int} (hN : N ≤ M) (h : okInt k N z) : okInt k M z := h
def okBool (_ : Nat) (_ : Bool) : Prop := True
theorem okBool.up {N M : Nat} {b : Bool} (hN : N ≤ M) (h : okBool N b) : okBool M b := h
theorem op_intO {t : TypeId} {k : IntKind} (ht : Tryz.prog.underlying t = some (.int k)) : Opens w t (fun N us => ∃ z, us = [.lit (.int k z)] ∧ okInt k N z) := op_int ht
def okNat (N : Nat) (l : List Nat) : Prop := Lim l ∧ l.length ≤ N
theorem okNat.up {N M : Nat} {l : List Nat} (hN : N ≤ M) (h : okNat N l) : okNat M l := ⟨h.1, Nat.le_trans h.2 hN⟩
def okRaw (N : Nat) (r : Raw) : Prop := okNat N r.l1 ∧ okNat N r.l2
theorem okRaw.up {N M : Nat} {r : Raw} (hN : N ≤ M) (h : okRaw N r) : okRaw M r := ⟨h.1.up hN, h.2.up hN⟩
theorem arg_one {d : AV} {v : Value} (hv : v.cells = #[v]) (h : RV (RepT w okT) [d] v.cells.toList) : RepT w okT d v := by
  rw [hv] at h
  obtain ⟨u, h1, h2⟩ := h.2 0 d rfl
  cases h1
  exact h2
theorem rvs_nil {R : AV → Value → Prop} : RV R [] [] := ⟨rfl, fun i d hi => by simp at hi⟩
theorem rvs_cons {R : AV → Value → Prop} {a : AV} {v : Value} {l : List AV} {vs : List Value} (h : R a v) (hl : RV R l vs) : RV R (a :: l) (v :: vs) := ⟨by simp [hl.1], fun i d hi => by
  match i, hi with
  | 0, hi => cases hi; exact ⟨v, rfl, h⟩
  | i + 1, hi => exact hl.2 i d (by simpa using hi)⟩
end
end Go.Proofs.YtlpmemelhlnfbaaGreatDoor
set_option linter.all false
set_option maxRecDepth 100000
namespace Go.Proofs.YtlpmemelhlnfbaaGreatDoor
open Go.ChangeShapes Go.WideShapes Go.RowKit Go.Deep
section
variable {w : World}
def okO_Luint8 (N : Nat) (L : List (Int)) : Prop := L.length ≤ N ∧ ∀ x ∈ L, okInt .u8 N x
theorem okO_Luint8.up {N M : Nat} {L : List (Int)} (hN : N ≤ M) (h : okO_Luint8 N L) : okO_Luint8 M L := ⟨Nat.le_trans h.1 hN, fun x hx => okInt.up hN (h.2 x hx)⟩
theorem cO_Luint8E : Tryz.prog.cellsOf 5 = 1 := by kernel_rfl
theorem op_Luint8 : Opens w 35 (fun N us => ∃ L : List (Int), us = [.sl 1 (L.map intU8C)] ∧ okO_Luint8 N L) :=
  (op_list (α := Int) (enc := intU8C) (ok := okInt .u8) Tryz.underlying35 cO_Luint8E (by omega) (op_intO Tryz.underlying5) (fun N M x h g => okInt.up h g)).mono fun N us ⟨L, h1, h2, h3⟩ => ⟨L, h1, h2, h3⟩
def okO_Lint (N : Nat) (L : List (Int)) : Prop := L.length ≤ N ∧ ∀ x ∈ L, okInt .i64 N x
theorem okO_Lint.up {N M : Nat} {L : List (Int)} (hN : N ≤ M) (h : okO_Lint N L) : okO_Lint M L := ⟨Nat.le_trans h.1 hN, fun x hx => okInt.up hN (h.2 x hx)⟩
end
end Go.Proofs.YtlpmemelhlnfbaaGreatDoor
