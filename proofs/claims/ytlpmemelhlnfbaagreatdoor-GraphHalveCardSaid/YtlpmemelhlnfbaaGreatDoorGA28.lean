import Derived.Test.YtlpmemelhlnfbaaGreatDoorGA26
import Derived.Test.YtlpmemelhlnfbaaGreatDoorGA27
import Derived.Test.YtlpmemelhlnfbaaGreatDoorGA17
import Derived.Test.YtlpmemelhlnfbaaGreatDoorGA18
import Derived.Test.YtlpmemelhlnfbaaGreatDoorGA19
import Derived.Test.YtlpmemelhlnfbaaGreatDoorGA22
set_option linter.all false
set_option maxRecDepth 100000
set_option maxHeartbeats 6400000
namespace Go.Proofs.YtlpmemelhlnfbaaGreatDoor
open Go.RowKit
attribute [local irreducible] run runL loopG exec gls
theorem fea_same {n : Nat} {L : List Form} (hl : L.length ≤ 100000000) (hB : ∀ f ∈ L, BdF 17179869184 f) : run (n + 1) 90 [.sl 4 (L.map formC), .sl 4 (L.map formC)] = some (.lit (.bool true)) := by
  refine fea_f3 rfl (loopG_I (O := tab (n + 1)) (P := Tryz.prog) (m := 0) (N := 27) (lives := livesOf 90) (r := 4) (C := fea_C4) (L := L) (f := fun _ (b : Unit) _ => b) (enc := fun i _ => fea_h4 L L i) (exN := .exit 0) (out := fun _ => fea_o4b) (Inv := fun _ _ => True) () trivial (by omega) (by simp)
    (fun i f b hi hI => by
      have hlt := (List.getElem?_eq_some_iff.1 hi).1
      have hf := hB f (List.mem_of_getElem? hi)
      have K := feq_c (n := n) hf hf
      rw [tv_t rfl] at K
      exact ⟨fea_r4_1 (by omega) hi hi K rfl ⟨by omega, by omega⟩, trivial⟩)
    (fun b hI => fea_x4_2 (by omega))).1
theorem rEq_same {n : Nat} {g : TGraph} (hB : BdG 17179869184 g) : run (n + 2) 24 [graphV g, graphV g] = some (.lit (.bool true)) :=
  rEq_f1 rfl (fea_same (n := n) hB.lu hB.u) rfl (fea_same (n := n) hB.lo hB.o)
section
variable {n : Nat} {g : TGraph} {j : Int} {c : Raw}
theorem GrOk.uu (hg : GrOk g) : ∀ f ∈ g.Units, TmB 2 f.1 ∧ Srt f.1 ∧ H f.2 ≤ 2 ∧ f.1.length ≤ 7 := fun f hf => by
  obtain ⟨i, hi⟩ := List.mem_iff_getElem?.1 hf
  have h := hg.un i f hi
  exact ⟨h.tm, h.srt, h.k, hg.lu f hf⟩
theorem GrOk.oo (hg : GrOk g) : ∀ f ∈ g.Outputs, TmB 2 f.1 ∧ Srt f.1 ∧ H f.2 ≤ 2 ∧ f.1.length ≤ 7 := fun f hf => ⟨(hg.ou f hf).tm, (hg.ou f hf).srt, (hg.ou f hf).k, hg.lo f hf⟩
theorem zero_gr : graphV ⟨0, [], []⟩ = .agg [.lit (.int .i64 0), .sl 4 [], .sl 4 []] := by simp
end
end Go.Proofs.YtlpmemelhlnfbaaGreatDoor
set_option linter.all false
set_option maxRecDepth 100000
set_option maxHeartbeats 6400000
namespace Go.Proofs.YtlpmemelhlnfbaaGreatDoor
open Go.RowKit
attribute [local irreducible] run runL loopG exec gpl
theorem foldI_snoc {α β : Type} (g : α → β) : ∀ (R : List α) (i : Nat) (o : List β), foldI (fun _ o x => o ++ [g x]) i o R = o ++ R.map g
  | [], i, o => by simp [foldI]
  | x :: R, i, o => by rw [foldI, foldI_snoc g R]; simp
theorem rnT_mem {nw : Int → Int} {F : List (Int × Rat)} {t : Int × Rat} (h : t ∈ rnT nw F) : ∃ u ∈ F, t = (nw u.1, u.2) := by
  obtain ⟨u, hu, rfl⟩ := List.mem_map.1 h
  exact ⟨u, hu, rfl⟩
theorem rnd_c {n : Nat} {f : Form} {T : List Int} {nw : Int → Int} (hT : ∀ t ∈ f.1, 0 ≤ t.1 ∧ T[t.1.toNat]? = some (nw t.1)) (h0 : ∀ t ∈ f.1, 0 ≤ nw t.1) (hl : f.1.length ≤ 1000) (hb : ∀ t ∈ f.1, H t.2 ≤ 900) (hk : H f.2 ≤ 900) :
    run (n + 3) 110 [formV f, .sl 1 (T.map intI64C)] = some (formV (rnF nw f)) := by
  have L1 := (loopG_I (O := tab (n + 3)) (P := Tryz.prog) (m := 0) (N := 43) (lives := livesOf 110) (r := 3) (C := rnd_C3) (L := f.1) (f := fun _ o (t : Int × Rat) => o ++ [(nw t.1, t.2)]) (enc := fun i o => rnd_h3 f T o i) (exN := .exit 0) (out := fun o => rnd_o3a f o) (Inv := fun i o => o.length = i) [] rfl (by omega) (by simp)
    (fun i t o hi hI => by
      obtain ⟨v, q⟩ := t
      have hlt := (List.getElem?_eq_some_iff.1 hi).1
      obtain ⟨a, b⟩ := hT _ (List.mem_of_getElem? hi)
      exact ⟨rnd_r3_1 (by omega) hi b a (by omega) ⟨by omega, by omega⟩, by rw [List.length_append, hI]; rfl⟩)
    (fun o hI => rnd_x3_1 (by omega))).1
  rw [foldI_snoc (fun t : Int × Rat => (nw t.1, t.2)), List.nil_append] at L1
  have K := fmk_ok (n := n) (L := rnT nw f.1) (a1 := f.2) (b := 900) (by rw [rnT_len]; exact hl) (fun t ht => by
    obtain ⟨u, hu, rfl⟩ := rnT_mem ht
    exact hb u hu) (by omega) (by omega) (fun t ht => by
    obtain ⟨u, hu, rfl⟩ := rnT_mem ht
    exact h0 u hu)
  exact rnd_f1 L1 K
def fillL (L : List Int) (i : Nat) : List Int := L.take i ++ List.replicate (L.length - i) 0
theorem fill_set {L : List Int} {i : Nat} {y : Int} (h : L[i]? = some y) : (fillL L i).set i y = fillL L (i + 1) := by
  have hl := (List.getElem?_eq_some_iff.1 h).1
  unfold fillL
  rw [List.set_append_right _ _ (by rw [List.length_take]; omega), List.length_take, show i - min i L.length = 0 from by omega, show L.length - i = (L.length - (i + 1)) + 1 from by omega, List.replicate_succ, List.set_cons_zero, List.take_add_one, h, List.append_assoc]
  rfl
theorem fill_len {L : List Int} {i : Nat} (h : i ≤ L.length) : (fillL L i).length = L.length := by
  unfold fillL
  rw [List.length_append, List.length_take, List.length_replicate]; omega
theorem fill_0 (L : List Int) : fillL L 0 = List.replicate L.length 0 := by
  unfold fillL
  rw [List.take_zero, List.nil_append, Nat.sub_zero]
theorem fill_all (L : List Int) : fillL L L.length = L := by
  unfold fillL
  rw [List.take_length, Nat.sub_self, List.replicate_zero, List.append_nil]
theorem take_snoc {α : Type} {L : List α} {k : Nat} {x : α} (h : L[k]? = some x) : L.take (k + 1) = L.take k ++ [x] := by rw [List.take_add_one, h]; rfl
section
variable {n : Nat} {g : TGraph} {ord : List Int}
def PrmV (g : TGraph) (ord P : List Int) : Prop := ∀ (k : Nat) (f : Form), (prmU (toP g.Inputs P) g.Units ord)[k]? = some f → OkFm f (g.Inputs + (k : Int))
theorem PrmV.in (hg : GrOk g) {P : List Int} (h : PrmV g ord P) : ∀ k f, (prmU (toP g.Inputs P) g.Units ord)[k]? = some f → InR (g.Inputs.toNat + k) f.1 := fun k f hf t ht => by
  obtain ⟨i, hi⟩ := List.mem_iff_getElem?.1 ht
  have h1 := h k f hf i (List.getElem?_eq_some_iff.1 hi).1 t.1 t.2 hi
  have h2 := hg.i0
  have h3 := h1.2.1
  exact ⟨h1.1, by omega⟩
end
end Go.Proofs.YtlpmemelhlnfbaaGreatDoor
