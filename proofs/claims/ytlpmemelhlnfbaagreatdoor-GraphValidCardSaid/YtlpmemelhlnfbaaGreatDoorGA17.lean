import Derived.Test.YtlpmemelhlnfbaaGreatDoorGA5
import Derived.Test.YtlpmemelhlnfbaaGreatDoorGA10
import Derived.Test.YtlpmemelhlnfbaaGreatDoorGA16
import Derived.Test.YtlpmemelhlnfbaaGreatDoorGA12
import Derived.Test.YtlpmemelhlnfbaaGreatDoorGA15
import Derived.Test.YtlpmemelhlnfbaaGreatDoorGA8
set_option linter.all false
set_option maxRecDepth 100000
set_option maxHeartbeats 6400000
namespace Go.Proofs.YtlpmemelhlnfbaaGreatDoor
open Go.RowKit
noncomputable def gxlT (n : Nat) : FuncId → Option Orc := ext (tab (n + 10)) 18 (.pure awG)
noncomputable def gxl (n : Nat) (args : List AV) : Option AV := fnP Tryz.prog (gxlT n) (livesOf 5) big (fnOf 5) args
end Go.Proofs.YtlpmemelhlnfbaaGreatDoor
set_option linter.all false
set_option maxRecDepth 100000
set_option maxHeartbeats 6400000
namespace Go.Proofs.YtlpmemelhlnfbaaGreatDoor
open Go.RowKit
end Go.Proofs.YtlpmemelhlnfbaaGreatDoor
set_option linter.all false
set_option maxRecDepth 100000
set_option maxHeartbeats 6400000
namespace Go.Proofs.YtlpmemelhlnfbaaGreatDoor
open Go.RowKit
open Lib (decDigits)
attribute [local irreducible] run runL loopG exec gxl
theorem vtxt_len {f : Form} (hf : TxB f) : (txt f).length ≤ 700000 := by
  have h := txL_len (l := f.1) (a := []) hf.t
  have hm : f.1.length * 6703 ≤ 100 * 6703 := Nat.mul_le_mul_right _ hf.l
  have hk := absT_len2 hf.k
  have hj := jn_len (txL f.1) (ngT f.2) (absT f.2)
  simp only [List.length_nil, Nat.zero_add] at h
  have h2 : (txL f.1).length ≤ f.1.length * 6703 := h
  unfold txt
  split <;> omega
theorem dd_len {u : Nat} (h : u < 1000000000) : (decDigits u).length ≤ 100 := by
  have h2 : (lmb u).length ≤ 2 := lmb_len_le (Nat.lt_of_lt_of_le h (by decide))
  have := dd_small h2
  omega
theorem nl_len {A : List (List UInt8)} {m : Nat} (h : ∀ a ∈ A, a.length + 1 ≤ m) : (nl A).length ≤ A.length * m := by
  induction A with
  | nil => exact Nat.zero_le _
  | cons a A ih =>
    have h1 := h a (by simp)
    have h2 := ih fun x hx => h x (by simp [hx])
    rw [nl_cons, List.length_append, List.length_cons, List.length_cons, Nat.add_mul]
    omega
theorem lnUs_len (I : Int) : ∀ (U : List Form) (j : Nat), (lnUs I j U).length = U.length
  | [], _ => rfl
  | _ :: U, j => by rw [lnUs, List.length_cons, List.length_cons, lnUs_len I U]
theorem lnOs_len : ∀ (U : List Form) (j : Nat), (lnOs j U).length = U.length
  | [], _ => rfl
  | _ :: U, j => by rw [lnOs, List.length_cons, List.length_cons, lnOs_len U]
theorem lnU_len {I : Int} {j : Nat} {f : Form} (hI : 0 ≤ I ∧ I ≤ 1000) (hj : j ≤ 1000) (hf : TxB f) : (lnU I j f).length + 1 ≤ 700201 := by
  have h1 := vtxt_len hf
  have h2 := dd_len (u := (I + (j : Int)).toNat) (by omega)
  unfold lnU midU
  simp only [List.length_cons, List.length_append, List.length_nil]
  omega
theorem lnO_len {j : Nat} {f : Form} (hj : j ≤ 1000) (hf : TxB f) : (lnO j f).length + 1 ≤ 700201 := by
  have h1 := vtxt_len hf
  have h2 := dd_len (u := j) (by omega)
  unfold lnO
  simp only [List.length_cons, List.length_append, List.length_nil]
  omega
theorem lnH_len {I : Int} (hI : 0 ≤ I ∧ I ≤ 1000) : (lnH I).length + 1 ≤ 700201 := by
  have h2 := dd_len (u := I.toNat) (by omega)
  unfold lnH
  simp only [List.length_cons, List.length_append, List.length_nil]
  omega
theorem lnUs_all {I : Int} (hI : 0 ≤ I ∧ I ≤ 1000) : ∀ {U : List Form} {j : Nat}, j + U.length ≤ 1000 → (∀ f ∈ U, TxB f) → ∀ a ∈ lnUs I j U, a.length + 1 ≤ 700201
  | [], _, _, _, a, h => by cases h
  | f :: U, j, hj, hU, a, h => by
    rw [List.length_cons] at hj
    rcases List.mem_cons.1 h with h | h
    · rw [h]; exact lnU_len hI (by omega) (hU f (by simp))
    · exact lnUs_all hI (by omega) (fun u hu => hU u (by simp [hu])) a h
theorem lnOs_all : ∀ {U : List Form} {j : Nat}, j + U.length ≤ 1000 → (∀ f ∈ U, TxB f) → ∀ a ∈ lnOs j U, a.length + 1 ≤ 700201
  | [], _, _, _, a, h => by cases h
  | f :: U, j, hj, hU, a, h => by
    rw [List.length_cons] at hj
    rcases List.mem_cons.1 h with h | h
    · rw [h]; exact lnO_len (by omega) (hU f (by simp))
    · exact lnOs_all (by omega) (fun u hu => hU u (by simp [hu])) a h
section
variable {n : Nat}
theorem vbw_c {a s : List UInt8} (hl : a.length + s.length ≤ 90000000) : ∃ r : Int, runL (n + 1) 69 [.ptr 0 0, .lit (.string (bs s))] [.box 88 [.ptr 0 0, .own 1 (bs a).size] false, .row 5 1 (strEls (bs a)) 0] = some (.tup [.lit (.int .i64 r), .lit .nilIface], [(0, .box 88 [.ptr 0 0, .own 2 (bs (a ++ s)).size] false), (2, .row 5 1 (strEls (bs (a ++ s))) 0)]) := by
  have h := bws_1 (n := n) (a := bs a) (s := bs s) (roomy_s (by rw [bs_size, bs_size]; omega) (by omega))
  have h2 : (bs a).size + (bs s).size = (bs (a ++ s)).size := by rw [bs_size, bs_size, bs_size, List.length_append]
  rw [bs_app, h2] at h
  exact ⟨_, h⟩
theorem vbw0_c {s : List UInt8} (hl : s.length ≤ 90000000) : ∃ r : Int, runL (n + 1) 69 [.ptr 0 0, .lit (.string (bs s))] [.box 88 [.lit (.pointer none), .nl 1] false] = some (.tup [.lit (.int .i64 r), .lit .nilIface], [(0, .box 88 [.ptr 0 0, .own 1 (bs s).size] false), (1, .row 5 1 (strEls (bs s)) 0)]) :=
  ⟨_, bws_0 (n := n) (s := bs s) (roomy_s (by rw [bs_size]; omega) (by omega))⟩
theorem sz2 {a b : List UInt8} (h : a.length + b.length ≤ 900000000) : (bs a).size + (bs b).size ≤ 9000000000000000000 := by rw [bs_size, bs_size]; omega
variable {g : TGraph}
def gU (g : TGraph) (i : Nat) : List UInt8 := nl (lnH g.Inputs :: lnUs g.Inputs 0 (g.Units.take i))
def gO (g : TGraph) (i : Nat) : List UInt8 := nl ((lnH g.Inputs :: lnUs g.Inputs 0 g.Units) ++ lnOs 0 (g.Outputs.take i))
theorem gU_step {i : Nat} {f : Form} (hx : g.Units[i]? = some f) : gU g (i + 1) = gU g i ++ (lnU g.Inputs i f ++ [10]) := by
  have hi := (List.getElem?_eq_some_iff.1 hx).1
  have htk : g.Units.take (i + 1) = g.Units.take i ++ [f] := by rw [List.take_add_one, hx]; rfl
  unfold gU
  rw [htk, lnUs_snoc, List.length_take, Nat.min_eq_left (by omega), ← List.cons_append, nl_snoc, Nat.zero_add]
theorem gO_step {i : Nat} {f : Form} (hx : g.Outputs[i]? = some f) : gO g (i + 1) = gO g i ++ (lnO i f ++ [10]) := by
  have hi := (List.getElem?_eq_some_iff.1 hx).1
  have htk : g.Outputs.take (i + 1) = g.Outputs.take i ++ [f] := by rw [List.take_add_one, hx]; rfl
  unfold gO
  rw [htk, lnOs_snoc, List.length_take, Nat.min_eq_left (by omega), ← List.append_assoc, nl_snoc, Nat.zero_add]
structure GTx (g : TGraph) : Prop where
  i : 0 ≤ g.Inputs ∧ g.Inputs ≤ 1000
  lu : g.Units.length ≤ 10
  lo : g.Outputs.length ≤ 10
  u : ∀ f ∈ g.Units, TxB f
  o : ∀ f ∈ g.Outputs, TxB f
theorem gU_len (h : GTx g) (i : Nat) : (gU g i).length ≤ 12 * 700201 := by
  have hl := h.lu
  have h1 := nl_len (A := lnH g.Inputs :: lnUs g.Inputs 0 (g.Units.take i)) (m := 700201) fun a ha => by
    rcases List.mem_cons.1 ha with e | e
    · rw [e]; exact lnH_len h.i
    · exact lnUs_all h.i (by rw [List.length_take]; omega) (fun f hf => h.u f (List.mem_of_mem_take hf)) a e
  rw [List.length_cons, lnUs_len, List.length_take] at h1
  exact Nat.le_trans h1 (Nat.mul_le_mul_right _ (by omega))
theorem gO_len (h : GTx g) (i : Nat) : (gO g i).length ≤ 24 * 700201 := by
  have hl := h.lu
  have hl2 := h.lo
  have h1 := nl_len (A := (lnH g.Inputs :: lnUs g.Inputs 0 g.Units) ++ lnOs 0 (g.Outputs.take i)) (m := 700201) fun a ha => by
    rcases List.mem_append.1 ha with ha | ha
    · rcases List.mem_cons.1 ha with e | e
      · rw [e]; exact lnH_len h.i
      · exact lnUs_all h.i (by omega) h.u a e
    · exact lnOs_all (by rw [List.length_take]; omega) (fun f hf => h.o f (List.mem_of_mem_take hf)) a ha
  rw [List.length_append, List.length_cons, lnUs_len, lnOs_len, List.length_take] at h1
  exact Nat.le_trans h1 (Nat.mul_le_mul_right _ (by omega))
theorem gO_0 : gO g 0 = gU g g.Units.length := by
  unfold gO gU
  rw [List.take_length, List.take_zero]
  show nl (_ ++ []) = _
  rw [List.append_nil]
theorem gO_all : gO g g.Outputs.length = gtxt g := by
  unfold gO gtxt
  rw [List.take_length]
theorem gU_0 : gU g 0 = lnH g.Inputs ++ [10] := by
  unfold gU
  rw [List.take_zero]
  show nl [lnH g.Inputs] = _
  simp [nl]
def hd7 : List UInt8 := [105, 110, 112, 117, 116, 115, 32]
theorem vnum_c {z : Int} (h0 : 0 ≤ z) (h1 : z ≤ 100000) : run (n + 6) 94 [.lit (.int .i64 z)] = some (.lit (.string (bs (decDigits z.toNat)))) := by
  have K := fdg_c (n := n + 1) (K := z.toNat) (by have h2 : (lmb z.toNat).length ≤ 2 := lmb_len_le (by omega); omega)
  exact num15_f1 (n := n + 1) (by rw [wrapU64]; omega) (k_ofu (z := z) (by omega) (by omega)) K
theorem gtx_c (h : GTx g) (hv : run (n + 7) 41 [graphV g] = some (.lit (.bool true))) : run (n + 8) 28 [graphV g] = some (.lit (.string (bs (gtxt g)))) := by
  have hi := h.i
  have hlu := h.lu
  have hlo := h.lo
  have cx : (⟨#[120]⟩ : ByteArray) = bs [120] := rfl
  have cy : (⟨#[121]⟩ : ByteArray) = bs [121] := rfl
  have cm : (⟨#[32, 61, 32, 109, 97, 120, 40, 48, 44, 32]⟩ : ByteArray) = bs midU := rfl
  have ce : (⟨#[32, 61, 32]⟩ : ByteArray) = bs [32, 61, 32] := rfl
  have cp : (⟨#[41, 10]⟩ : ByteArray) = bs [41, 10] := rfl
  have cn : (⟨#[10]⟩ : ByteArray) = bs [10] := rfl
  have ch : (⟨#[105, 110, 112, 117, 116, 115, 32]⟩ : ByteArray) = bs hd7 := rfl
  have lm : midU.length = 10 := rfl
  have lh : hd7.length = 7 := rfl
  have hdd := dd_len (u := g.Inputs.toNat) (by omega)
  obtain ⟨r0, K6⟩ := vbw0_c (n := n + 6) (s := gU g 0) (by have := gU_len h 0; omega)
  obtain ⟨b1, L1, I1⟩ := loopG_R (β := Unit) (O := tab (n + 8)) (P := Tryz.prog) (m := 0) (N := 57) (lives := livesOf 28) (r := 6) (C := gtx_C6) (exN := .exit 0) (M := g.Units.length) (enc := fun i _ => gtx_h6 g i (bs (gU g i))) (out := fun _ => gtx_o6a g (bs (gU g g.Units.length))) (fun _ _ => True) () trivial (by omega) (by simp)
    (fun i _ hlt _ => by
      obtain ⟨f, hx⟩ : ∃ f, g.Units[i]? = some f := ⟨_, List.getElem?_eq_getElem hlt⟩
      have hf := h.u f (List.mem_of_getElem? hx)
      have hl1 := vtxt_len hf
      have hl2 := dd_len (u := (g.Inputs + (i : Int)).toNat) (by omega)
      have hl3 := gU_len h i
      have e := gU_step hx
      obtain ⟨r, W⟩ := vbw_c (n := n + 6) (a := gU g i) (s := lnU g.Inputs i f ++ [10]) (by have := lnU_len (j := i) hi (by omega) hf; simp only [List.length_append, List.length_cons, List.length_nil]; omega)
      rw [← e] at W
      have es : bs (lnU g.Inputs i f ++ [10]) = (((bs [120] ++ bs (decDigits (g.Inputs + (i : Int)).toNat)) ++ bs midU) ++ bs (txt f)) ++ bs [41, 10] := by
        rw [bs_app, bs_app, bs_app, bs_app]
        unfold lnU
        simp
      refine ⟨(), ?_, trivial⟩
      refine gtx_r6_1 (F3 := f.1) (q3 := f.2) (cat14 := bs (lnU g.Inputs i f ++ [10])) (r16 := 0) (by omega) hx ⟨by omega, by omega⟩ (k_itoa (by omega) (by omega)) (by rw [cx]; exact sz2 (by simp only [List.length_append, List.length_cons, List.length_nil]; omega)) rfl ?_ rfl (ltx_c (n := n) (f := f) hf) ?_ rfl ?_ (by rw [cx, cm, cp]; exact es) W ⟨by omega, by omega⟩
      · rw [cx, cm, bs_app]; exact sz2 (by simp only [List.length_append, List.length_cons, List.length_nil]; omega)
      · rw [cx, cm, bs_app, bs_app]; exact sz2 (by simp only [List.length_append, List.length_cons, List.length_nil]; omega)
      · rw [cx, cm, cp, bs_app, bs_app, bs_app]; exact sz2 (by simp only [List.length_append, List.length_cons, List.length_nil]; omega))
    (fun _ _ => gtx_x6_1 (by omega))
  obtain ⟨b2, L2, I2⟩ := loopG_R (β := Unit) (O := tab (n + 8)) (P := Tryz.prog) (m := 0) (N := 57) (lives := livesOf 28) (r := 11) (C := gtx_C11) (exN := .exit 2) (M := g.Outputs.length) (enc := fun i _ => gtx_h11 g i (bs (gO g i))) (out := fun _ => gtx_o11a (bs (gO g g.Outputs.length))) (fun _ _ => True) () trivial (by omega) (by simp)
    (fun i _ hlt _ => by
      obtain ⟨f, hx⟩ : ∃ f, g.Outputs[i]? = some f := ⟨_, List.getElem?_eq_getElem hlt⟩
      have hf := h.o f (List.mem_of_getElem? hx)
      have hl1 := vtxt_len hf
      have hl2 := dd_len (u := i) (by omega)
      have hl3 := gO_len h i
      have e := gO_step hx
      obtain ⟨r, W⟩ := vbw_c (n := n + 6) (a := gO g i) (s := lnO i f ++ [10]) (by have := lnO_len (j := i) (by omega) hf; simp only [List.length_append, List.length_cons, List.length_nil]; omega)
      rw [← e] at W
      have es : bs (lnO i f ++ [10]) = (((bs [121] ++ bs (decDigits i)) ++ bs [32, 61, 32]) ++ bs (txt f)) ++ bs [10] := by
        rw [bs_app, bs_app, bs_app, bs_app]
        unfold lnO
        simp
      have kI := k_itoa (v := (i : Int)) (by omega) (by omega)
      rw [Int.toNat_natCast] at kI
      refine ⟨(), ?_, trivial⟩
      refine gtx_r11_1 (F6 := f.1) (q6 := f.2) (cat26 := bs (lnO i f ++ [10])) (r28 := 0) (by omega) hx kI (by rw [cy]; exact sz2 (by simp only [List.length_append, List.length_cons, List.length_nil]; omega)) rfl ?_ rfl (ltx_c (n := n) (f := f) hf) ?_ rfl ?_ (by rw [cy, ce, cn]; exact es) W ⟨by omega, by omega⟩
      · rw [cy, ce, bs_app]; exact sz2 (by simp only [List.length_append, List.length_cons, List.length_nil]; omega)
      · rw [cy, ce, bs_app, bs_app]; exact sz2 (by simp only [List.length_append, List.length_cons, List.length_nil]; omega)
      · rw [cy, ce, cn, bs_app, bs_app, bs_app]; exact sz2 (by simp only [List.length_append, List.length_cons, List.length_nil]; omega))
    (fun _ _ => gtx_x11_1 (by omega))
  rw [gO_0] at L2
  rw [gO_all] at L2
  have hne : gtxt g ≠ [] := fun e => by
    have := congrArg List.length e
    unfold gtxt at this
    rw [List.cons_append, nl_cons, List.length_append, List.length_cons] at this
    simp at this
  have hgl := gO_len h g.Outputs.length
  rw [gO_all] at hgl
  have Z := bstr_c (n := n + 1) hne (by omega)
  rw [gU_0] at K6 L1
  have e0 : bs (lnH g.Inputs ++ [10]) = (bs hd7 ++ bs (decDigits g.Inputs.toNat)) ++ bs [10] := by rw [bs_app, bs_app]; rfl
  exact gtx_f2 (cat2 := bs (lnH g.Inputs ++ [10])) (r4 := 0) hv rfl (k_itoa (by omega) (by omega)) (by rw [ch]; exact sz2 (by omega)) rfl (by rw [ch, cn, bs_app]; exact sz2 (by simp only [List.length_append, List.length_cons, List.length_nil]; omega)) (by rw [ch, cn]; exact e0) K6 L1 L2 Z
theorem gtf_c (h : GTx g) (hv : run (n + 6) 25 [graphV g] = some (.lit (.bool true))) : run (n + 7) 29 [graphV g] = some (.lit (.string (bs (gtxt g)))) := by
  have hi := h.i
  have hlu := h.lu
  have hlo := h.lo
  have cx : (⟨#[120]⟩ : ByteArray) = bs [120] := rfl
  have cy : (⟨#[121]⟩ : ByteArray) = bs [121] := rfl
  have cm : (⟨#[32, 61, 32, 109, 97, 120, 40, 48, 44, 32]⟩ : ByteArray) = bs midU := rfl
  have ce : (⟨#[32, 61, 32]⟩ : ByteArray) = bs [32, 61, 32] := rfl
  have cp : (⟨#[41, 10]⟩ : ByteArray) = bs [41, 10] := rfl
  have cn : (⟨#[10]⟩ : ByteArray) = bs [10] := rfl
  have ch : (⟨#[105, 110, 112, 117, 116, 115, 32]⟩ : ByteArray) = bs hd7 := rfl
  have lm : midU.length = 10 := rfl
  have lh : hd7.length = 7 := rfl
  have hdd := dd_len (u := g.Inputs.toNat) (by omega)
  obtain ⟨b1, L1, I1⟩ := loopG_R (β := Unit) (O := tab (n + 7)) (P := Tryz.prog) (m := 0) (N := 60) (lives := livesOf 29) (r := 5) (C := gtf_C5) (exN := .exit 0) (M := g.Units.length) (enc := fun i _ => gtf_h5 g (bs (gU g i)) i) (out := fun _ => gtf_o5a g (bs (gU g g.Units.length))) (fun _ _ => True) () trivial (by omega) (by simp)
    (fun i _ hlt _ => by
      obtain ⟨f, hx⟩ : ∃ f, g.Units[i]? = some f := ⟨_, List.getElem?_eq_getElem hlt⟩
      have hf := h.u f (List.mem_of_getElem? hx)
      have hl1 := vtxt_len hf
      have hl2 := dd_len (u := (g.Inputs + (i : Int)).toNat) (by omega)
      have hl3 := gU_len h i
      have hl4 := lnU_len (j := i) hi (by omega) hf
      have e := gU_step hx
      have es : bs (lnU g.Inputs i f ++ [10]) = (((bs [120] ++ bs (decDigits (g.Inputs + (i : Int)).toNat)) ++ bs midU) ++ bs (txt f)) ++ bs [41, 10] := by
        rw [bs_app, bs_app, bs_app, bs_app]
        unfold lnU
        simp
      refine ⟨(), ?_, trivial⟩
      refine gtf_r5_1 (F3 := f.1) (q3 := f.2) (cat16 := bs (lnU g.Inputs i f ++ [10])) (by omega) ⟨by omega, by omega⟩ (vnum_c (by omega) (by omega)) (by rw [cx]; exact sz2 (by simp only [List.length_append, List.length_cons, List.length_nil]; omega)) rfl ?_ rfl hx (ftx_c (n := n) (f := f) hf) ?_ rfl ?_ (by rw [cx, cm, cp]; exact es) (sz2 (by simp only [List.length_append, List.length_cons, List.length_nil]; omega)) (by rw [e, bs_app]) ⟨by omega, by omega⟩
      · rw [cx, cm, bs_app]; exact sz2 (by simp only [List.length_append, List.length_cons, List.length_nil]; omega)
      · rw [cx, cm, bs_app, bs_app]; exact sz2 (by simp only [List.length_append, List.length_cons, List.length_nil]; omega)
      · rw [cx, cm, cp, bs_app, bs_app, bs_app]; exact sz2 (by simp only [List.length_append, List.length_cons, List.length_nil]; omega))
    (fun _ _ => gtf_x5_1 (by omega))
  obtain ⟨b2, L2, I2⟩ := loopG_R (β := Unit) (O := tab (n + 7)) (P := Tryz.prog) (m := 0) (N := 60) (lives := livesOf 29) (r := 9) (C := gtf_C9) (exN := .exit 2) (M := g.Outputs.length) (enc := fun i _ => gtf_h9 g (bs (gO g i)) i) (out := fun _ => gtf_o9a (bs (gO g g.Outputs.length))) (fun _ _ => True) () trivial (by omega) (by simp)
    (fun i _ hlt _ => by
      obtain ⟨f, hx⟩ : ∃ f, g.Outputs[i]? = some f := ⟨_, List.getElem?_eq_getElem hlt⟩
      have hf := h.o f (List.mem_of_getElem? hx)
      have hl1 := vtxt_len hf
      have hl2 := dd_len (u := i) (by omega)
      have hl3 := gO_len h i
      have hl4 := lnO_len (j := i) (by omega) hf
      have e := gO_step hx
      have es : bs (lnO i f ++ [10]) = (((bs [121] ++ bs (decDigits i)) ++ bs [32, 61, 32]) ++ bs (txt f)) ++ bs [10] := by
        rw [bs_app, bs_app, bs_app, bs_app]
        unfold lnO
        simp
      have kI := vnum_c (n := n) (z := (i : Int)) (by omega) (by omega)
      rw [Int.toNat_natCast] at kI
      refine ⟨(), ?_, trivial⟩
      refine gtf_r9_1 (F6 := f.1) (q6 := f.2) (cat31 := bs (lnO i f ++ [10])) (by omega) kI (by rw [cy]; exact sz2 (by simp only [List.length_append, List.length_cons, List.length_nil]; omega)) rfl ?_ rfl hx (ftx_c (n := n) (f := f) hf) ?_ rfl ?_ (by rw [cy, ce, cn]; exact es) (sz2 (by simp only [List.length_append, List.length_cons, List.length_nil]; omega)) (by rw [e, bs_app]) ⟨by omega, by omega⟩
      · rw [cy, ce, bs_app]; exact sz2 (by simp only [List.length_append, List.length_cons, List.length_nil]; omega)
      · rw [cy, ce, bs_app, bs_app]; exact sz2 (by simp only [List.length_append, List.length_cons, List.length_nil]; omega)
      · rw [cy, ce, cn, bs_app, bs_app, bs_app]; exact sz2 (by simp only [List.length_append, List.length_cons, List.length_nil]; omega))
    (fun _ _ => gtf_x9_1 (by omega))
  rw [gO_0] at L2
  rw [gO_all] at L2
  rw [gU_0] at L1
  have e0 : bs (lnH g.Inputs ++ [10]) = (bs hd7 ++ bs (decDigits g.Inputs.toNat)) ++ bs [10] := by rw [bs_app, bs_app]; rfl
  exact gtf_f2 (cat2 := bs (lnH g.Inputs ++ [10])) hv rfl (vnum_c (by omega) (by omega)) (by rw [ch]; exact sz2 (by omega)) rfl (by rw [ch, cn, bs_app]; exact sz2 (by simp only [List.length_append, List.length_cons, List.length_nil]; omega)) (by rw [ch, cn]; exact e0) L1 L2
end
end Go.Proofs.YtlpmemelhlnfbaaGreatDoor
set_option linter.all false
set_option maxRecDepth 100000
set_option maxHeartbeats 6400000
namespace Go.Proofs.YtlpmemelhlnfbaaGreatDoor
open Go.RowKit
section
variable {a0 : TGraphR} {r : Bool} {n : Nat}
theorem gVs_f1 (K1 : run (n + 5) 41 [graphRV a0] = some (.lit (.bool r))) (C2 : r = false) :
    run (n + 6) 42 [graphRV a0] = some (.lit (.int .i64 0)) := by
  simp only [graphRV] at K1
  unfold run fnP
  simp +decide [Tryz.f42, K1, C2]
theorem gVs_f2 (K1 : run (n + 5) 41 [graphRV a0] = some (.lit (.bool r))) (C2 : r = true) (W3 : InI (a0.Inputs + (a0.Units.length : Int))) :
    run (n + 6) 42 [graphRV a0] = some (.lit (.int .i64 (a0.Inputs + (a0.Units.length : Int)))) := by
  simp only [graphRV] at K1
  have W3_ : IntKind.i64.wrap (a0.Inputs + (a0.Units.length : Int)) = a0.Inputs + (a0.Units.length : Int) := wr64 W3.1 W3.2
  unfold run fnP
  simp +decide [Tryz.f42, K1, C2, W3_]
end
section
variable {a0 : TGraphR} {r : Bool} {n : Nat}
theorem rVs_f1 (K1 : run (n + 2) 25 [graphRV a0] = some (.lit (.bool r))) (C2 : r = false) :
    run (n + 3) 43 [graphRV a0] = some (.lit (.int .i64 0)) := by
  simp only [graphRV] at K1
  unfold run fnP
  simp +decide [Tryz.f43, K1, C2]
theorem rVs_f2 (K1 : run (n + 2) 25 [graphRV a0] = some (.lit (.bool r))) (C2 : r = true) (W3 : InI (a0.Inputs + (a0.Units.length : Int))) :
    run (n + 3) 43 [graphRV a0] = some (.lit (.int .i64 (a0.Inputs + (a0.Units.length : Int)))) := by
  simp only [graphRV] at K1
  have W3_ : IntKind.i64.wrap (a0.Inputs + (a0.Units.length : Int)) = a0.Inputs + (a0.Units.length : Int) := wr64 W3.1 W3.2
  unfold run fnP
  simp +decide [Tryz.f43, K1, C2, W3_]
end
end Go.Proofs.YtlpmemelhlnfbaaGreatDoor
set_option linter.all false
set_option maxRecDepth 100000
set_option maxHeartbeats 6400000
namespace Go.Proofs.YtlpmemelhlnfbaaGreatDoor
open Go.RowKit
section
variable {r2 : Bool} {a1 : Raw} {a0 : Raw} {r : Bool} {n : Nat}
theorem smR_f1 (C1 : a0.s = a1.s) (K2 : run n 208 [natA a0.l1, natA a1.l1] = some (.lit (.bool r))) (C3 : r = true) (K4 : run n 208 [natA a0.l2, natA a1.l2] = some (.lit (.bool r2))) :
    run (n + 1) 172 [.agg [.lit (.bool a0.s), natA a0.l1, natA a0.l2], .agg [.lit (.bool a1.s), natA a1.l1, natA a1.l2]] = some (.lit (.bool r2)) := by
  have C1_ : (a0.s == a1.s) = true := by rw [C1]; simp
  have C1_n : (a0.s != a1.s) = false := by rw [C1]; simp
  unfold run fnP
  simp +decide [Tryz.f172, C1_, C1_n, C1, K2, C3, K4]
theorem smR_f2 (C1 : a0.s = a1.s) (K2 : run n 208 [natA a0.l1, natA a1.l1] = some (.lit (.bool r))) (C3 : r = false) :
    run (n + 1) 172 [.agg [.lit (.bool a0.s), natA a0.l1, natA a0.l2], .agg [.lit (.bool a1.s), natA a1.l1, natA a1.l2]] = some (.lit (.bool false)) := by
  have C1_ : (a0.s == a1.s) = true := by rw [C1]; simp
  have C1_n : (a0.s != a1.s) = false := by rw [C1]; simp
  unfold run fnP
  simp +decide [Tryz.f172, C1_, C1_n, C1, K2, C3]
theorem smR_f3 (C1 : ¬ a0.s = a1.s) :
    run (n + 1) 172 [.agg [.lit (.bool a0.s), natA a0.l1, natA a0.l2], .agg [.lit (.bool a1.s), natA a1.l1, natA a1.l2]] = some (.lit (.bool false)) := by
  have C1_ : (a0.s == a1.s) = false := by simpa using C1
  have C1_n : (a0.s != a1.s) = true := by simpa using C1
  unfold run fnP
  simp +decide [Tryz.f172, C1_, C1_n]
end
noncomputable def lqR_C4 : Code := (loopsOf (bodyOf Tryz.f106)).getD 0 .skip
def lqR_h4 (a0 : FormR) (a1 : FormR) (i_4 : Nat) : St :=
  ⟨[(3, .ptr 0 0), (23, .sl 4 (a0.1.map termRC)), (24, .lit (.int .i64 (a0.1.length : Int))), (25, .lit (.int .i64 (i_4 : Int)))],
   [(0, some (.box 29 [.sl 4 (a1.1.map termRC), .lit (.bool a1.2.s), natA a1.2.l1, natA a1.2.l2] false))], 1⟩
def lqR_o4a  : St :=
  ⟨[(4, .lit (.bool false))],
   [], 0⟩
def lqR_o4b  : St :=
  ⟨[(4, .any)],
   [], 0⟩
section
variable {r10 : Bool} {r9 : Raw} {v5 : Int} {i_4 : Nat} {v6 : Int} {r8 : Raw} {a1 : FormR} {a0 : FormR} {n : Nat} {r : Bool}
theorem lqR_r4_1 (C1 : (i_4 : Int) < (a0.1.length : Int)) (E2 : a0.1[i_4]? = some (v5, r8)) (E3 : a1.1[i_4]? = some (v6, r9)) (C4 : v5 = v6) (K5 : run (n + 1) 172 [.agg [.lit (.bool r8.s), natA r8.l1, natA r8.l2], .agg [.lit (.bool r9.s), natA r9.l1, natA r9.l2]] = some (.lit (.bool r10))) (C6 : r10 = true) (W7 : InI ((i_4 : Int) + 1)) :
    Cont 0 (exec Tryz.prog (tab (n + 2)) 0 52 (livesOf 106) big lqR_C4) (livesOf 106 4) (lqR_h4 a0 a1 i_4) (lqR_h4 a0 a1 (i_4 + 1)) := by
  have C1_ : i_4 < a0.1.length := by omega
  obtain ⟨EL2, EG2⟩ := List.getElem?_eq_some_iff.1 E2
  obtain ⟨EL3, EG3⟩ := List.getElem?_eq_some_iff.1 E3
  have C4_ : (v5 == v6) = true := by rw [C4]; simp
  have C4_n : (v5 != v6) = false := by rw [C4]; simp
  have W7_ : IntKind.i64.wrap ((i_4 : Int) + 1) = (i_4 : Int) + 1 := wr64 W7.1 W7.2
  unfold Cont
  simp +decide [lqR_h4, loopsOf, Tryz.f106, lqR_C4, C1, C1_, EL2, EG2, E2, EL3, EG3, E3, C4_, C4_n, K5, C6, W7_]
theorem lqR_x4_1 (C1 : (i_4 : Int) < (a0.1.length : Int)) (E2 : a0.1[i_4]? = some (v5, r8)) (E3 : a1.1[i_4]? = some (v6, r9)) (C4 : ¬ v5 = v6) :
    Leave 0 (exec Tryz.prog (tab (n + 2)) 0 52 (livesOf 106) big lqR_C4) (livesOf 106 (outOf 4)) (lqR_h4 a0 a1 i_4) (.ret) (lqR_o4a ) := by
  have C1_ : i_4 < a0.1.length := by omega
  obtain ⟨EL2, EG2⟩ := List.getElem?_eq_some_iff.1 E2
  obtain ⟨EL3, EG3⟩ := List.getElem?_eq_some_iff.1 E3
  have C4_ : (v5 == v6) = false := by simpa using C4
  have C4_n : (v5 != v6) = true := by simpa using C4
  unfold Leave
  simp +decide [lqR_h4, loopsOf, Tryz.f106, lqR_o4a, lqR_C4, C1, C1_, EL2, EG2, E2, EL3, EG3, E3, C4_, C4_n]
theorem lqR_x4_2 (C1 : (i_4 : Int) < (a0.1.length : Int)) (E2 : a0.1[i_4]? = some (v5, r8)) (E3 : a1.1[i_4]? = some (v6, r9)) (C4 : v5 = v6) (K5 : run (n + 1) 172 [.agg [.lit (.bool r8.s), natA r8.l1, natA r8.l2], .agg [.lit (.bool r9.s), natA r9.l1, natA r9.l2]] = some (.lit (.bool r10))) (C6 : r10 = false) :
    Leave 0 (exec Tryz.prog (tab (n + 2)) 0 52 (livesOf 106) big lqR_C4) (livesOf 106 (outOf 4)) (lqR_h4 a0 a1 i_4) (.ret) (lqR_o4a ) := by
  have C1_ : i_4 < a0.1.length := by omega
  obtain ⟨EL2, EG2⟩ := List.getElem?_eq_some_iff.1 E2
  obtain ⟨EL3, EG3⟩ := List.getElem?_eq_some_iff.1 E3
  have C4_ : (v5 == v6) = true := by rw [C4]; simp
  have C4_n : (v5 != v6) = false := by rw [C4]; simp
  unfold Leave
  simp +decide [lqR_h4, loopsOf, Tryz.f106, lqR_o4a, lqR_C4, C1, C1_, EL2, EG2, E2, EL3, EG3, E3, C4_, C4_n, K5, C6]
theorem lqR_x4_3 (C1 : ¬ (i_4 : Int) < (a0.1.length : Int)) :
    Leave 0 (exec Tryz.prog (tab (n + 2)) 0 52 (livesOf 106) big lqR_C4) (livesOf 106 (outOf 4)) (lqR_h4 a0 a1 i_4) (.exit 0) (lqR_o4b ) := by
  have C1_ : ¬ i_4 < a0.1.length := by omega
  unfold Leave
  simp +decide [lqR_h4, loopsOf, Tryz.f106, lqR_o4b, lqR_C4, C1, C1_]
theorem lqR_f1 (C1 : ¬ (a0.1.length : Int) = (a1.1.length : Int)) :
    run (n + 2) 106 [.agg [.sl 4 (a0.1.map termRC), .lit (.bool a0.2.s), natA a0.2.l1, natA a0.2.l2], .agg [.sl 4 (a1.1.map termRC), .lit (.bool a1.2.s), natA a1.2.l1, natA a1.2.l2]] = some (.lit (.bool false)) := by
  have C1_ : ((a0.1.length : Int) == (a1.1.length : Int)) = false := by simpa using C1
  have C1_n : ((a0.1.length : Int) != (a1.1.length : Int)) = true := by simpa using C1
  unfold run fnP
  simp +decide [Tryz.f106, C1_, C1_n]
theorem lqR_f2 (C1 : (a0.1.length : Int) = (a1.1.length : Int)) (K2 : run (n + 1) 172 [.agg [.lit (.bool a0.2.s), natA a0.2.l1, natA a0.2.l2], .agg [.lit (.bool a1.2.s), natA a1.2.l1, natA a1.2.l2]] = some (.lit (.bool r))) (C3 : r = false) :
    run (n + 2) 106 [.agg [.sl 4 (a0.1.map termRC), .lit (.bool a0.2.s), natA a0.2.l1, natA a0.2.l2], .agg [.sl 4 (a1.1.map termRC), .lit (.bool a1.2.s), natA a1.2.l1, natA a1.2.l2]] = some (.lit (.bool false)) := by
  have C1_ : ((a0.1.length : Int) == (a1.1.length : Int)) = true := by rw [C1]; simp
  have C1_n : ((a0.1.length : Int) != (a1.1.length : Int)) = false := by rw [C1]; simp
  unfold run fnP
  simp +decide [Tryz.f106, C1_, C1_n, K2, C3]
theorem lqR_f3 (C1 : (a0.1.length : Int) = (a1.1.length : Int)) (K2 : run (n + 1) 172 [.agg [.lit (.bool a0.2.s), natA a0.2.l1, natA a0.2.l2], .agg [.lit (.bool a1.2.s), natA a1.2.l1, natA a1.2.l2]] = some (.lit (.bool r))) (C3 : r = true) (L4 : loopG Tryz.prog (tab (n + 2)) 0 52 (livesOf 106) 4 lqR_C4 (lqR_h4 a0 a1 0) = some (.ret, lqR_o4a )) :
    run (n + 2) 106 [.agg [.sl 4 (a0.1.map termRC), .lit (.bool a0.2.s), natA a0.2.l1, natA a0.2.l2], .agg [.sl 4 (a1.1.map termRC), .lit (.bool a1.2.s), natA a1.2.l1, natA a1.2.l2]] = some (.lit (.bool false)) := by
  have C1_ : ((a0.1.length : Int) == (a1.1.length : Int)) = true := by rw [C1]; simp
  have C1_n : ((a0.1.length : Int) != (a1.1.length : Int)) = false := by rw [C1]; simp
  unfold run fnP
  simp +decide [Tryz.f106, C1_, C1_n, K2, C3]
  rw [loopX_G (C' := lqR_C4) (e := (lqR_h4 a0 a1 0)) ?_ ?_, L4]
  rotate_left
  · kernel_rfl
  · simp +decide [lqR_h4, C1_, C1_n, K2, C3]
  simp +decide [lqR_o4a, C1_, C1_n, K2, C3]
theorem lqR_f4 (C1 : (a0.1.length : Int) = (a1.1.length : Int)) (K2 : run (n + 1) 172 [.agg [.lit (.bool a0.2.s), natA a0.2.l1, natA a0.2.l2], .agg [.lit (.bool a1.2.s), natA a1.2.l1, natA a1.2.l2]] = some (.lit (.bool r))) (C3 : r = true) (L4 : loopG Tryz.prog (tab (n + 2)) 0 52 (livesOf 106) 4 lqR_C4 (lqR_h4 a0 a1 0) = some (.exit 0, lqR_o4b )) :
    run (n + 2) 106 [.agg [.sl 4 (a0.1.map termRC), .lit (.bool a0.2.s), natA a0.2.l1, natA a0.2.l2], .agg [.sl 4 (a1.1.map termRC), .lit (.bool a1.2.s), natA a1.2.l1, natA a1.2.l2]] = some (.lit (.bool true)) := by
  have C1_ : ((a0.1.length : Int) == (a1.1.length : Int)) = true := by rw [C1]; simp
  have C1_n : ((a0.1.length : Int) != (a1.1.length : Int)) = false := by rw [C1]; simp
  unfold run fnP
  simp +decide [Tryz.f106, C1_, C1_n, K2, C3]
  rw [loopX_G (C' := lqR_C4) (e := (lqR_h4 a0 a1 0)) ?_ ?_, L4]
  rotate_left
  · kernel_rfl
  · simp +decide [lqR_h4, C1_, C1_n, K2, C3]
  simp +decide [lqR_o4b, C1_, C1_n, K2, C3]
end
noncomputable def eqf_C4 : Code := (loopsOf (bodyOf Tryz.f105)).getD 0 .skip
def eqf_h4 (a0 : List FormR) (a1 : List FormR) (i_4 : Nat) : St :=
  ⟨[(1, .sl 4 (a1.map formRC)), (2, .clo 106 []), (15, .sl 4 (a0.map formRC)), (16, .lit (.int .i64 (a0.length : Int))), (17, .lit (.int .i64 (i_4 : Int)))],
   [], 0⟩
def eqf_o4a  : St :=
  ⟨[(6, .lit (.bool false))],
   [], 0⟩
def eqf_o4b  : St :=
  ⟨[(6, .any)],
   [], 0⟩
section
variable {F6 : List (Int × Raw)} {F5 : List (Int × Raw)} {r9 : Bool} {i_4 : Nat} {r8 : Raw} {a1 : List FormR} {a0 : List FormR} {n : Nat} {r7 : Raw}
theorem eqf_r4_1 (C1 : (i_4 : Int) < (a0.length : Int)) (E2 : a0[i_4]? = some (F5, r7)) (E3 : a1[i_4]? = some (F6, r8)) (K4 : run (n + 2) 106 [.agg [.sl 4 (F5.map termRC), .lit (.bool r7.s), natA r7.l1, natA r7.l2], .agg [.sl 4 (F6.map termRC), .lit (.bool r8.s), natA r8.l1, natA r8.l2]] = some (.lit (.bool r9))) (C5 : r9 = true) (W6 : InI ((i_4 : Int) + 1)) :
    Cont 0 (exec Tryz.prog (tab (n + 3)) 0 32 (livesOf 105) big eqf_C4) (livesOf 105 4) (eqf_h4 a0 a1 i_4) (eqf_h4 a0 a1 (i_4 + 1)) := by
  have C1_ : i_4 < a0.length := by omega
  obtain ⟨EL2, EG2⟩ := List.getElem?_eq_some_iff.1 E2
  obtain ⟨EL3, EG3⟩ := List.getElem?_eq_some_iff.1 E3
  have W6_ : IntKind.i64.wrap ((i_4 : Int) + 1) = (i_4 : Int) + 1 := wr64 W6.1 W6.2
  unfold Cont
  simp +decide [eqf_h4, loopsOf, Tryz.f105, eqf_C4, C1, C1_, EL2, EG2, E2, EL3, EG3, E3, K4, C5, W6_]
theorem eqf_x4_1 (C1 : (i_4 : Int) < (a0.length : Int)) (E2 : a0[i_4]? = some (F5, r7)) (E3 : a1[i_4]? = some (F6, r8)) (K4 : run (n + 2) 106 [.agg [.sl 4 (F5.map termRC), .lit (.bool r7.s), natA r7.l1, natA r7.l2], .agg [.sl 4 (F6.map termRC), .lit (.bool r8.s), natA r8.l1, natA r8.l2]] = some (.lit (.bool r9))) (C5 : r9 = false) :
    Leave 0 (exec Tryz.prog (tab (n + 3)) 0 32 (livesOf 105) big eqf_C4) (livesOf 105 (outOf 4)) (eqf_h4 a0 a1 i_4) (.ret) (eqf_o4a ) := by
  have C1_ : i_4 < a0.length := by omega
  obtain ⟨EL2, EG2⟩ := List.getElem?_eq_some_iff.1 E2
  obtain ⟨EL3, EG3⟩ := List.getElem?_eq_some_iff.1 E3
  unfold Leave
  simp +decide [eqf_h4, loopsOf, Tryz.f105, eqf_o4a, eqf_C4, C1, C1_, EL2, EG2, E2, EL3, EG3, E3, K4, C5]
theorem eqf_x4_2 (C1 : ¬ (i_4 : Int) < (a0.length : Int)) :
    Leave 0 (exec Tryz.prog (tab (n + 3)) 0 32 (livesOf 105) big eqf_C4) (livesOf 105 (outOf 4)) (eqf_h4 a0 a1 i_4) (.exit 0) (eqf_o4b ) := by
  have C1_ : ¬ i_4 < a0.length := by omega
  unfold Leave
  simp +decide [eqf_h4, loopsOf, Tryz.f105, eqf_o4b, eqf_C4, C1, C1_]
theorem eqf_f1 (C1 : ¬ (a0.length : Int) = (a1.length : Int)) :
    run (n + 3) 105 [.sl 4 (a0.map formRC), .sl 4 (a1.map formRC), .clo 106 []] = some (.lit (.bool false)) := by
  have C1_ : ((a0.length : Int) == (a1.length : Int)) = false := by simpa using C1
  have C1_n : ((a0.length : Int) != (a1.length : Int)) = true := by simpa using C1
  unfold run fnP
  simp +decide [Tryz.f105, C1_, C1_n]
theorem eqf_f2 (C1 : (a0.length : Int) = (a1.length : Int)) (L2 : loopG Tryz.prog (tab (n + 3)) 0 32 (livesOf 105) 4 eqf_C4 (eqf_h4 a0 a1 0) = some (.ret, eqf_o4a )) :
    run (n + 3) 105 [.sl 4 (a0.map formRC), .sl 4 (a1.map formRC), .clo 106 []] = some (.lit (.bool false)) := by
  have C1_ : ((a0.length : Int) == (a1.length : Int)) = true := by rw [C1]; simp
  have C1_n : ((a0.length : Int) != (a1.length : Int)) = false := by rw [C1]; simp
  unfold run fnP
  simp +decide [Tryz.f105, C1_, C1_n]
  rw [loopX_G (C' := eqf_C4) (e := (eqf_h4 a0 a1 0)) ?_ ?_, L2]
  rotate_left
  · kernel_rfl
  · simp +decide [eqf_h4, C1_, C1_n]
  simp +decide [eqf_o4a, C1_, C1_n]
theorem eqf_f3 (C1 : (a0.length : Int) = (a1.length : Int)) (L2 : loopG Tryz.prog (tab (n + 3)) 0 32 (livesOf 105) 4 eqf_C4 (eqf_h4 a0 a1 0) = some (.exit 0, eqf_o4b )) :
    run (n + 3) 105 [.sl 4 (a0.map formRC), .sl 4 (a1.map formRC), .clo 106 []] = some (.lit (.bool true)) := by
  have C1_ : ((a0.length : Int) == (a1.length : Int)) = true := by rw [C1]; simp
  have C1_n : ((a0.length : Int) != (a1.length : Int)) = false := by rw [C1]; simp
  unfold run fnP
  simp +decide [Tryz.f105, C1_, C1_n]
  rw [loopX_G (C' := eqf_C4) (e := (eqf_h4 a0 a1 0)) ?_ ?_, L2]
  rotate_left
  · kernel_rfl
  · simp +decide [eqf_h4, C1_, C1_n]
  simp +decide [eqf_o4b, C1_, C1_n]
end
section
variable {r2 : Bool} {a1 : TGraphR} {a0 : TGraphR} {r : Bool} {n : Nat}
theorem gqR_f1 (C1 : a0.Inputs = a1.Inputs) (K2 : run (n + 2) 105 [.sl 4 (a0.Units.map formRC), .sl 4 (a1.Units.map formRC), .clo 106 []] = some (.lit (.bool r))) (C3 : r = true) (K4 : run (n + 2) 105 [.sl 4 (a0.Outputs.map formRC), .sl 4 (a1.Outputs.map formRC), .clo 106 []] = some (.lit (.bool r2))) :
    run (n + 3) 44 [graphRV a0, graphRV a1] = some (.lit (.bool r2)) := by
  have C1_ : (a0.Inputs == a1.Inputs) = true := by rw [C1]; simp
  have C1_n : (a0.Inputs != a1.Inputs) = false := by rw [C1]; simp
  unfold run fnP
  simp +decide [Tryz.f44, C1_, C1_n, K2, C3, K4]
theorem gqR_f2 (C1 : a0.Inputs = a1.Inputs) (K2 : run (n + 2) 105 [.sl 4 (a0.Units.map formRC), .sl 4 (a1.Units.map formRC), .clo 106 []] = some (.lit (.bool r))) (C3 : r = false) :
    run (n + 3) 44 [graphRV a0, graphRV a1] = some (.lit (.bool false)) := by
  have C1_ : (a0.Inputs == a1.Inputs) = true := by rw [C1]; simp
  have C1_n : (a0.Inputs != a1.Inputs) = false := by rw [C1]; simp
  unfold run fnP
  simp +decide [Tryz.f44, C1_, C1_n, K2, C3]
theorem gqR_f3 (C1 : ¬ a0.Inputs = a1.Inputs) :
    run (n + 3) 44 [graphRV a0, graphRV a1] = some (.lit (.bool false)) := by
  have C1_ : (a0.Inputs == a1.Inputs) = false := by simpa using C1
  have C1_n : (a0.Inputs != a1.Inputs) = true := by simpa using C1
  unfold run fnP
  simp +decide [Tryz.f44, C1_, C1_n]
end
end Go.Proofs.YtlpmemelhlnfbaaGreatDoor
