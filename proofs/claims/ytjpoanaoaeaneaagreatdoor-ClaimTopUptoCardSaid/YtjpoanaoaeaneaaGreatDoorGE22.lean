import Derived.Test.YtjpoanaoaeaneaaGreatDoorGE16
import Derived.Test.YtjpoanaoaeaneaaGreatDoorGE19
import Derived.Test.YtjpoanaoaeaneaaGreatDoorGE17
import Derived.Test.YtjpoanaoaeaneaaGreatDoorGE20
import Derived.Test.YtjpoanaoaeaneaaGreatDoorGE21
import Derived.Test.YtjpoanaoaeaneaaGreatDoorRows
import Derived.Deep.Slices
import Derived.ChangeArms
import Derived.ChangeSlices
import Derived.DataReads
import Derived.OpenShut
import Derived.Lib.LaidTab
import Derived.Stop.LaidErr
import Derived.Shelf.Vars
import Derived.Handed
import Derived.ChangeOld
import Derived.Stop.Joined
import Derived.Deep.DeepWitnessRowRef
set_option linter.all false
set_option maxRecDepth 100000
set_option maxHeartbeats 6400000
namespace Go.Proofs.YtjpoanaoaeaneaaGreatDoor
open Go.RowKit
end Go.Proofs.YtjpoanaoaeaneaaGreatDoor
set_option linter.all false
set_option maxRecDepth 100000
set_option maxHeartbeats 6400000
namespace Go.Proofs.YtjpoanaoaeaneaaGreatDoor
open Go.RowKit
attribute [local irreducible] run runL loopG exec
end Go.Proofs.YtjpoanaoaeaneaaGreatDoor
set_option linter.all false
set_option maxRecDepth 100000
set_option maxHeartbeats 6400000
namespace Go.Proofs.YtjpoanaoaeaneaaGreatDoor
open Go.RowKit
attribute [local irreducible] run runL loopG exec
theorem ofm1 : ofQ (-1) = -1 := by decide +kernel
theorem of1 : ofQ 1 = 1 := by decide +kernel
structure SB (m j : Nat) (f : Form) : Prop where
  s : Srt f.1
  t : TmB m f.1
  k : H f.2 ≤ m
  l : f.1.length ≤ j
theorem SB.bd {m k : Nat} {f : Form} (h : SB m k f) (hm : m ≤ 17179869184) (hk : k ≤ 100000000) : BdF 17179869184 f := ⟨by have := h.l; omega, fun t ht => by have := (h.t t ht).2; omega, by have := h.k; omega⟩
theorem SB.mono {m k m' k' : Nat} {f : Form} (h : SB m k f) (hm : m ≤ m') (hk : k ≤ k') : SB m' k' f := ⟨h.s, TmB.mono h.t hm, by have := h.k; omega, by have := h.l; omega⟩
def subF (f g : Form) : Form := (addV f.1 (sclV g.1 (-1)), f.2 - g.2)
def varF (v : Int) : Form := ([(v, ofQ 1)], 0)
def numF (q : Rat) : Form := ([], q)
theorem sub_sb {m k b j : Nat} {f g : Form} (hf : SB m k f) (hg : SB b j g) : SB (m + (b + 2) * (j + 1)) (k + j) (subF f g) := by
  have h1 : H (-1) ≤ 1 := by decide +kernel
  have tS := TmB.scl hg.t h1
  have lS := sclV_len (-1) g.1
  have lA := addV_len (sclV g.1 (-1)) f.1
  have tA : TmB (m + (b + 2) * (sclV g.1 (-1)).length) (addV f.1 (sclV g.1 (-1))) := TmB.add hf.t tS
  have hl := hg.l
  have hm : (b + 2) * (sclV g.1 (-1)).length ≤ (b + 2) * j := Nat.mul_le_mul_left _ (by omega)
  have hm1 : (b + 2) * (j + 1) = (b + 2) * j + (b + 2) := Nat.mul_succ _ _
  have e : f.2 - g.2 = f.2 + g.2 * (-1) := by grind
  have ha := H_add f.2 (g.2 * (-1))
  have hb := H_mul g.2 (-1)
  have k1 := hf.k
  have k2 := hg.k
  refine ⟨(add_srt hf.s (scl_srt hg.s).1).1, TmB.mono tA (by omega), ?_, ?_⟩
  · show H (f.2 - g.2) ≤ _
    rw [e]; omega
  · show (addV f.1 (sclV g.1 (-1))).length ≤ _
    have := hf.l
    omega
theorem sub_both {n m k b j : Nat} {f g : Form} (hf : SB m k f) (hg : SB b j g) (hm : m ≤ 10000) (hb : b ≤ 1000) (hk : k ≤ 1000) (hj : j ≤ 100) :
    run (n + 2) 101 [formV f, formV g] = some (formV (subF f g)) ∧ run (n + 3) 104 [formV f, formV g] = some (formV (subF f g)) := by
  have h1 : H (-1) ≤ 1 := by decide +kernel
  have k1 := hf.k
  have k2 := hg.k
  have l1 := hf.l
  have l2 := hg.l
  have D := psub_c (n := n) (f := f) (g := g) (b := 10000) (fun t ht => by have := (hf.t t ht).2; omega) (fun t ht => by have := (hg.t t ht).2; omega) (by omega) (by omega) (by omega) (by omega) (by omega)
  rw [merge_add hf.s hg.s] at D
  have sc := scale_c (n := n + 1) (f := g) (c := ofQ (-1)) (TmB.mono hg.t (by omega)) (by omega) (by omega) (by rw [ofm1]; omega)
  rw [ofm1] at sc
  have lS := sclV_len (-1) g.1
  have tS := TmB.scl hg.t h1
  have hgm := H_mul g.2 (-1)
  have hmul : (b + 1 + 1) * ((sclV g.1 (-1)).length + 1) ≤ 1002 * 101 := Nat.mul_le_mul (by omega) (by omega)
  have fS := add_c (n := n) (f := f) (g := (sclV g.1 (-1), g.2 * (-1))) (m := m) (b := b + 1) tS (by dsimp only; omega) hf.t (by omega) (by dsimp only; omega) (by omega) (by dsimp only; omega)
  have fD := fsu_f1 (n := n) (a0 := f) (a1 := g) (by rw [ofm1]; exact sc) fS
  have eD : f.2 + g.2 * (-1) = f.2 - g.2 := by grind
  dsimp only at fD
  rw [eD] at fD
  exact ⟨D, fD⟩
theorem var_sb (v : Int) : SB 1 1 (varF v) := by
  have h1 : H (ofQ 1) ≤ 1 := by decide +kernel
  have h0 : ofQ 1 ≠ 0 := by rw [of1]; decide
  refine ⟨⟨by simp [varF], fun t ht => ?_⟩, fun t ht => ?_, by show H 0 ≤ 1; decide, by simp [varF]⟩
  · rw [List.mem_singleton.1 ht]; exact h0
  · rw [List.mem_singleton.1 ht]; exact ⟨h0, h1⟩
theorem num_sb {q : Rat} {m : Nat} (h : H q ≤ m) : SB m 0 (numF q) := ⟨Srt.nil, fun t ht => (by cases ht), h, by simp [numF]⟩
theorem num_e (q : Rat) : formV (numF q) = .agg [.sl 4 [], .lit (.bool (rawQ q).s), natA (rawQ q).l1, natA (rawQ q).l2] := by simp [numF]
theorem var_e (v : Int) : formV (varF v) = .agg [.sl 4 [[.lit (.int .i64 v), .lit (.bool (rawQ (ofQ 1)).s), natA (rawQ (ofQ 1)).l1, natA (rawQ (ofQ 1)).l2]], .lit (.bool false), .sl 1 [], .sl 1 []] := by simp [varF]
theorem cva_c {n : Nat} (v : Int) : run n 102 [.lit (.int .i64 v)] = some (formV (varF v)) := by rw [var_e]; exact cva_f1
theorem vr_c {n : Nat} (v : Int) : run n 105 [.lit (.int .i64 v)] = some (formV (varF v)) := by rw [var_e]; exact vr_f1
theorem nbr_c {n : Nat} (q : Rat) : run n 103 [ratV q] = some (formV (numF q)) := by rw [num_e]; exact nbr_f1
def goT (c : TClaim) (j : Nat) : Form := subF (subF (varF c.Target) (varF j)) (numF c.Margin)
def topL (c : TClaim) (i : Nat) : List Form := ((List.range i).filter fun j : Nat => decide ((j : Int) ≠ c.Target)).map (goT c)
def goalsF (c : TClaim) (z : Int) : List Form := if c.Kind = 1 then topL c z.toNat else c.Rows.map fun f => subF f (numF c.Margin)
theorem topL_same {c : TClaim} {i : Nat} (h : (i : Int) = c.Target) : topL c (i + 1) = topL c i := by
  unfold topL
  rw [List.range_succ, List.filter_append, List.map_append]
  simp [h]
theorem topL_next {c : TClaim} {i : Nat} (h : ¬ (i : Int) = c.Target) : topL c (i + 1) = topL c i ++ [goT c i] := by
  unfold topL
  rw [List.range_succ, List.filter_append, List.map_append]
  simp [h]
theorem topL_len (c : TClaim) (i : Nat) : (topL c i).length ≤ i := by
  unfold topL
  rw [List.length_map]
  exact Nat.le_trans (List.length_filter_le _ _) (Nat.le_of_eq List.length_range)
theorem SmFC.sb {f : Form} {z : Int} (h : SmFC f z) : SB 2 6 f := ⟨h.ok.srt.1, fun t ht => ⟨h.ok.srt.1.2 t ht, h.t t ht⟩, h.k, h.l⟩
theorem goT_sb {c : TClaim} (hm : H c.Margin ≤ 8) (j : Nat) : SB 20 2 (goT c j) := (sub_sb (sub_sb (var_sb _) (var_sb _)) (num_sb hm)).mono (by omega) (by omega)
theorem goals_sb {c : TClaim} {z : Int} (h : SmC c z) : ∀ f ∈ goalsF c z, SB 20 6 f := fun f hf => by
  unfold goalsF at hf
  split at hf
  · unfold topL at hf
    obtain ⟨j, _, rfl⟩ := List.mem_map.1 hf
    exact (goT_sb h.m j).mono (by omega) (by omega)
  · obtain ⟨g, hg, rfl⟩ := List.mem_map.1 hf
    exact (sub_sb (h.f g hg).sb (num_sb h.m)).mono (by omega) (by omega)
theorem goals_len {c : TClaim} {z : Int} (h : SmC c z) : (goalsF c z).length ≤ 256 := by
  have := h.z1
  unfold goalsF
  split
  · have := topL_len c z.toNat; omega
  · rw [List.length_map]; have := h.l; omega
section
variable {n : Nat} {c : TClaim} {z : Int}
theorem map_fold {α β : Type} (g : α → β) : ∀ (R : List α) (i : Nat) (o : List β), foldI (fun _ o x => o ++ [g x]) i o R = o ++ R.map g
  | [], _, o => by simp [foldI]
  | x :: R, i, o => by rw [foldI, map_fold g R]; simp
theorem cgoals_c (h : SmC c z) (hV : run (n + 4) 40 [claimV c, .lit (.int .i64 z)] = some (.lit (.bool true))) : run (n + 5) 37 [claimV c, .lit (.int .i64 z)] = some (.tup [.sl 4 ((goalsF c z).map formC), .lit (.int .i64 0)]) := by
  have z0 := h.z0
  have z1 := h.z1
  have hl := h.l
  have L := (loopG_I (O := tab (n + 5)) (P := Tryz.prog) (m := 0) (N := 56) (lives := livesOf 37) (r := 6) (C := cGo_C6) (exN := .exit 0) (L := c.Rows) (enc := fun i o => cGo_h6 c z o i) (f := fun _ o f => o ++ [subF f (numF c.Margin)]) (Inv := fun i o => o.length ≤ i ∧ i ≤ c.Rows.length) (out := fun o => cGo_o6a c z o) [] ⟨by simp, by omega⟩ (by omega) (by simp)
    (fun i f o hi hI => by
      have hlt := (List.getElem?_eq_some_iff.1 hi).1
      have K := (sub_both (n := n + 2) (h.f f (List.mem_of_getElem? hi)).sb (num_sb h.m) (by omega) (by omega) (by omega) (by omega)).1
      rw [num_e] at K
      exact ⟨cGo_r6_1 (by omega) hi K (by omega) ⟨by omega, by omega⟩, by rw [List.length_append, List.length_singleton]; omega, hlt⟩)
    (fun b hI => cGo_x6_1 (by omega))).1
  rw [map_fold] at L
  by_cases k1 : c.Kind = 1
  · have hr : c.Rows = [] := by rcases h.k with k | k; exact k.2.2.2; omega
    rw [hr] at L
    obtain ⟨o, L2, h1, h2⟩ := loopG_R (O := tab (n + 5)) (P := Tryz.prog) (m := 0) (N := 56) (lives := livesOf 37) (r := 12) (C := cGo_C12) (exN := .exit 2) (M := z.toNat) (enc := fun i o => cGo_h12 c z o i) (out := fun o => cGo_o12a o)
      (fun i o => o = topL c i ∧ i ≤ z.toNat) [] ⟨rfl, by omega⟩ (by omega) (fun h => by cases h)
      (fun i o hi hI => by
        obtain ⟨hI, hI2⟩ := hI
        have hlen := topL_len c i
        by_cases e : (i : Int) = c.Target
        · exact ⟨o, cGo_r12_2 (by omega) e ⟨by omega, by omega⟩, by rw [topL_same e]; exact hI, by omega⟩
        · refine ⟨o ++ [goT c i], ?_, by rw [topL_next e, hI], by omega⟩
          have K1 := (sub_both (n := n + 2) (var_sb c.Target) (var_sb (i : Int)) (by omega) (by omega) (by omega) (by omega)).1
          have K2 := (sub_both (n := n + 2) (sub_sb (var_sb c.Target) (var_sb (i : Int))) (num_sb h.m) (by omega) (by omega) (by omega) (by omega)).1
          rw [num_e] at K2
          exact cGo_r12_1 (by omega) e (cva_c _) (cva_c _) K1 K2 (by rw [hI]; omega) ⟨by omega, by omega⟩)
      (fun o hI => cGo_x12_1 (by omega))
    rw [h1] at L2
    have eg : goalsF c z = topL c z.toNat := if_pos k1
    rw [eg]
    exact cGo_f2 hV rfl L k1 L2
  · have eg : goalsF c z = c.Rows.map fun f => subF f (numF c.Margin) := if_neg k1
    rw [eg]
    rw [List.nil_append] at L
    exact cGo_f3 hV rfl L k1
theorem fgoals_c (h : SmC c z) (hV : run (n + 3) 41 [claimV c, .lit (.int .i64 z)] = some (.lit (.bool true))) : run (n + 4) 39 [claimV c, .lit (.int .i64 z)] = some (.tup [.sl 4 ((goalsF c z).map formC), .lit (.int .i64 0)]) := by
  have z0 := h.z0
  have z1 := h.z1
  have hl := h.l
  by_cases k2 : c.Kind = 2
  · have L := (loopG_I (O := tab (n + 4)) (P := Tryz.prog) (m := 0) (N := 59) (lives := livesOf 39) (r := 7) (C := fGo_C7) (exN := .exit 0) (L := c.Rows) (enc := fun i o => fGo_h7 c o i (numF c.Margin)) (f := fun _ o f => o ++ [subF f (numF c.Margin)]) (Inv := fun i o => o.length ≤ i ∧ i ≤ c.Rows.length) (out := fun o => fGo_o7a o) [] ⟨by simp, by omega⟩ (by omega) (by simp)
      (fun i f o hi hI => by
        have hlt := (List.getElem?_eq_some_iff.1 hi).1
        have K := (sub_both (n := n) (h.f f (List.mem_of_getElem? hi)).sb (num_sb h.m) (by omega) (by omega) (by omega) (by omega)).2
        exact ⟨fGo_r7_1 (by omega) hi K (by omega) ⟨by omega, by omega⟩, by rw [List.length_append, List.length_singleton]; omega, hlt⟩)
      (fun b hI => fGo_x7_1 (by omega))).1
    rw [map_fold, List.nil_append] at L
    have eg : goalsF c z = c.Rows.map fun f => subF f (numF c.Margin) := if_neg (by omega)
    rw [eg]
    exact fGo_f2 hV rfl (nbr_c _) k2 L
  · have k1 : c.Kind = 1 := by rcases h.k with k | k; exact k.1; omega
    obtain ⟨o, L2, h1, h2⟩ := loopG_R (O := tab (n + 4)) (P := Tryz.prog) (m := 0) (N := 59) (lives := livesOf 39) (r := 12) (C := fGo_C12) (exN := .exit 2) (M := z.toNat) (enc := fun i o => fGo_h12 c z o i (numF c.Margin)) (out := fun o => fGo_o12a o)
      (fun i o => o = topL c i ∧ i ≤ z.toNat) [] ⟨rfl, by omega⟩ (by omega) (fun h => by cases h)
      (fun i o hi hI => by
        obtain ⟨hI, hI2⟩ := hI
        have hlen := topL_len c i
        by_cases e : (i : Int) = c.Target
        · exact ⟨o, fGo_r12_2 (by omega) e ⟨by omega, by omega⟩, by rw [topL_same e]; exact hI, by omega⟩
        · refine ⟨o ++ [goT c i], ?_, by rw [topL_next e, hI], by omega⟩
          have K1 := (sub_both (n := n) (var_sb c.Target) (var_sb (i : Int)) (by omega) (by omega) (by omega) (by omega)).2
          have K2 := (sub_both (n := n) (sub_sb (var_sb c.Target) (var_sb (i : Int))) (num_sb h.m) (by omega) (by omega) (by omega) (by omega)).2
          exact fGo_r12_1 (by omega) e (vr_c _) (vr_c _) K1 K2 (by rw [hI]; omega) ⟨by omega, by omega⟩)
      (fun o hI => fGo_x12_1 (by omega))
    rw [h1] at L2
    have eg : goalsF c z = topL c z.toNat := if_pos k1
    rw [eg]
    exact fGo_f3 hV rfl (nbr_c _) k2 L2
end
end Go.Proofs.YtjpoanaoaeaneaaGreatDoor
set_option linter.all false
set_option maxRecDepth 100000
set_option maxHeartbeats 6400000
namespace Go.Proofs.YtjpoanaoaeaneaaGreatDoor
open Go.RowKit
theorem cGoR_f1 {n : Nat} {a0 : TClaimR} {a1 : Int} {r : Bool} (K1 : run (n + 4) 40 [claimRV a0, .lit (.int .i64 a1)] = some (.lit (.bool r))) (C2 : r = false) :
    run (n + 5) 37 [claimRV a0, .lit (.int .i64 a1)] = some (.tup [.sl 4 [], .lit (.int .i64 1)]) := by
  simp only [claimRV] at K1
  unfold run fnP
  simp +decide [Tryz.f37, K1, C2]
theorem fGoR_f1 {n : Nat} {a0 : TClaimR} {a1 : Int} {r : Bool} (K1 : run (n + 3) 41 [claimRV a0, .lit (.int .i64 a1)] = some (.lit (.bool r))) (C2 : r = false) :
    run (n + 4) 39 [claimRV a0, .lit (.int .i64 a1)] = some (.tup [.sl 4 [], .lit (.int .i64 1)]) := by
  simp only [claimRV] at K1
  unfold run fnP
  simp +decide [Tryz.f39, K1, C2]
end Go.Proofs.YtjpoanaoaeaneaaGreatDoor
set_option linter.all false
set_option maxRecDepth 100000
namespace Go.Proofs.YtjpoanaoaeaneaaGreatDoor
open Go.RowKit
theorem awake20_c : run 24 35 [] = some (.lit (.bool true)) := by kernel_rfl
end Go.Proofs.YtjpoanaoaeaneaaGreatDoor
set_option linter.all false
namespace Go.Proofs.YtjpoanaoaeaneaaGreatDoor
open Go.RowKit
def awG (args : List AV) : Option AV := match args with | [] => some (.lit (.bool true)) | _ => none
theorem con_awake : ∀ args r, awG args = some r → Con Tryz.prog 35 args r := fun args r hr => by
  unfold awG at hr
  split at hr
  · cases hr
    exact ((tab_ok 25).pure _ _ (tb_35 24)).2 _ _ awake20_c
  · cases hr
end Go.Proofs.YtjpoanaoaeaneaaGreatDoor
set_option linter.all false
set_option maxRecDepth 100000
set_option maxHeartbeats 6400000
namespace Go.Proofs.YtjpoanaoaeaneaaGreatDoor
open Go.RowKit
end Go.Proofs.YtjpoanaoaeaneaaGreatDoor
set_option linter.all false
set_option maxRecDepth 100000
set_option maxHeartbeats 6400000
namespace Go.Proofs.YtjpoanaoaeaneaaGreatDoor
open Go.RowKit
attribute [local irreducible] run runL loopG exec
structure SmF7 (F : Form) : Prop where
  l : F.1.length ≤ 8
  t : ∀ t ∈ F.1, H t.2 ≤ 2
  k : H F.2 ≤ 2
  ok : OkFm F 4611686018427387904
end Go.Proofs.YtjpoanaoaeaneaaGreatDoor
set_option linter.all false
namespace Go.Proofs.YtjpoanaoaeaneaaGreatDoor
open Go.ChangeShapes Go.WideShapes Go.RowKit Go.Deep
def okT : Nat → Nat → Prop := fun _ _ => True
theorem bulk_one_le {H : Type} (d : DataW H) : 1 ≤ Rows.uptoBulk d := by
  cases d with
  | lit l => cases l <;> simp [Rows.uptoBulk]
  | nil => simp [Rows.uptoBulk]
  | ptr d => simp [Rows.uptoBulk]
  | slice elems spare => simp [Rows.uptoBulk]
  | agg parts => simp [Rows.uptoBulk]
  | iface t d => simp [Rows.uptoBulk]
  | map entries => simp [Rows.uptoBulk]
  | held h => simp [Rows.uptoBulk]
theorem bulk_part_le {H : Type} {d : DataW H} {l : List (DataW H)} (h : d ∈ l) : Rows.uptoBulk d ≤ Rows.uptoBulkAll l := by
  induction l with
  | nil => cases h
  | cons x r ih =>
    simp only [Rows.uptoBulkAll]
    cases List.mem_cons.1 h with
    | inl e => subst e; omega
    | inr e => have := ih e; omega
theorem bulk_length_le {H : Type} (l : List (DataW H)) : l.length ≤ Rows.uptoBulkAll l := by
  induction l with
  | nil => simp [Rows.uptoBulkAll]
  | cons x r ih => have := bulk_one_le x; simp only [Rows.uptoBulkAll, List.length_cons]; omega
theorem bulk_agg {H : Type} {d : DataW H} {l : List (DataW H)} (h : d ∈ l) : Rows.uptoBulk d ≤ Rows.uptoBulk (.agg l) := by
  have := bulk_part_le h
  simp only [Rows.uptoBulk]
  omega
theorem bulk_slice {H : Type} {d : DataW H} {l r : List (DataW H)} (h : d ∈ l) : Rows.uptoBulk d ≤ Rows.uptoBulk (.slice l r) := by
  have := bulk_part_le h
  simp only [Rows.uptoBulk]
  omega
theorem bulk_slice_len {H : Type} (l r : List (DataW H)) : l.length ≤ Rows.uptoBulk (.slice l r) := by
  have := bulk_length_le l
  simp only [Rows.uptoBulk]
  omega
def Opens (w : World) (t : TypeId) (A : Nat → List AV → Prop) : Prop :=
  ∀ (H : Type) (enc : TypeId × Value → H) (base : Nat) (spare : Nat → Bool) (held : Bool) (fuel : Nat) (cs : List Value) (x : DataW H × List MemPlace), DataW.trod enc Tryz.prog w base spare held fuel t cs = some x → ∃ us, A (Rows.uptoBulk x.1) us ∧ RV (RepT w okT) us cs
def Up1 (A : Nat → List AV → Prop) : Prop := ∀ N M us, N ≤ M → A N us → A M us
theorem Opens.mono {w : World} {t : TypeId} {A B : Nat → List AV → Prop} (h : Opens w t A) (hA : ∀ N us, A N us → B N us) : Opens w t B := fun H enc base spare held fuel cs x hx => by
  obtain ⟨us, h1, h2⟩ := h H enc base spare held fuel cs x hx
  exact ⟨us, hA _ _ h1, h2⟩
theorem rvq1 {R : AV → Value → Prop} {a : AV} {v : Value} (h : R a v) : RV R [a] [v] := ⟨rfl, fun i d hi => by
  match i, hi with
  | 0, hi => cases hi; exact ⟨v, rfl, h⟩
  | i + 1, hi => simp at hi⟩
theorem rv_fld {R : AV → Value → Prop} {us bs : List AV} {cs : List Value} {o n : Nat} (h1 : RV R us ((cs.drop o).take n)) (h2 : RV R bs (cs.drop (o + n))) (hn : o + n ≤ cs.length) : RV R (us ++ bs) (cs.drop o) := by
  have l1 := h1.1
  have l2 := h2.1
  rw [List.length_take, List.length_drop] at l1
  rw [List.length_drop] at l2
  refine ⟨by rw [List.length_append, List.length_drop]; omega, fun i d hi => ?_⟩
  by_cases hl : i < us.length
  · rw [List.getElem?_append_left hl] at hi
    obtain ⟨u, h3, h4⟩ := h1.2 i d hi
    rw [List.getElem?_take, if_pos (by omega)] at h3
    exact ⟨u, h3, h4⟩
  · rw [List.getElem?_append_right (by omega)] at hi
    obtain ⟨u, h3, h4⟩ := h2.2 _ d hi
    refine ⟨u, ?_, h4⟩
    rw [List.getElem?_drop] at h3 ⊢
    rw [← h3]
    congr 1
    omega
theorem rv_end {R : AV → Value → Prop} {cs : List Value} {N : Nat} (h : cs.length = N) : RV R [] (cs.drop N) := by
  rw [List.drop_of_length_le (by omega)]
  exact ⟨rfl, fun i d hi => by simp at hi⟩
section
variable {w : World}
theorem op_int {t : TypeId} {k : IntKind} (ht : Tryz.prog.underlying t = some (.int k)) : Opens w t (fun _ us => ∃ z, us = [.lit (.int k z)] ∧ (Lit.int k z).wf = true) := fun H enc base spare held fuel cs x hx => by
  obtain ⟨n, rfl, rfl, hw⟩ := DataW.trod_int ht hx
  exact ⟨_, ⟨n, rfl, hw⟩, rvq1 (.lit _)⟩
theorem op_bool {t : TypeId} (ht : Tryz.prog.underlying t = some .bool) : Opens w t (fun _ us => ∃ b, us = [.lit (.bool b)]) := fun H enc base spare held fuel cs x hx => by
  obtain ⟨b, rfl, _⟩ := DataW.trod_bool ht hx
  exact ⟨_, ⟨b, rfl⟩, rvq1 (.lit _)⟩
theorem fldB {H : Type} {enc : TypeId × Value → H} {base : Nat} {spare : Nat → Bool} {held : Bool} {t : TypeId} {fs : Array Field} {fuel : Nat} {cs : List Value} {x : DataW H × List MemPlace} (hs : Tryz.prog.underlying t = some (.struct fs)) (h : DataW.trod enc Tryz.prog w base spare held fuel t cs = some x) :
    cs.length = Tryz.prog.cellsOf t ∧ ∀ (i : Nat) (f : Field) (T : TypeId) (o : Nat), fs[i]? = some f → f.type = T → f.offset = o → ∃ n y, DataW.trod enc Tryz.prog w base spare held n T ((cs.drop o).take (Tryz.prog.cellsOf T)) = some y ∧ Rows.uptoBulk y.1 ≤ Rows.uptoBulk x.1 := by
  obtain ⟨xs, n, _, hx, hl, hlen, hg⟩ := DataW.trod_struct hs h
  refine ⟨hl, fun i f T o hf hT ho => ⟨n, xs[i]'(by rw [hlen]; exact (Array.getElem?_eq_some_iff.1 hf).1), ?_, ?_⟩⟩
  · subst hT ho
    rw [hg i f hf]
    exact List.getElem?_eq_getElem _
  · subst hx
    exact bulk_agg (List.mem_map_of_mem (List.getElem_mem _))
theorem addr_at {b o i : Nat} : (⟨b, o, none⟩ : Addr).add i = ⟨b, o + i, none⟩ := by
  unfold Addr.add
  split
  · rename_i h; subst h; rfl
  · rfl
theorem op_sl {t e : TypeId} {k : Nat} {A : Nat → List AV → Prop} (ht : Tryz.prog.underlying t = some (.slice e)) (hk : Tryz.prog.cellsOf e = k) (h0k : 0 < k) (he : Opens w e A) (hA : Up1 A) :
    Opens w t (fun N us => ∃ es : List (List AV), us = [.sl k es] ∧ es.length ≤ N ∧ ∀ e ∈ es, A N e) := fun H enc base spare held fuel cs x hx => by
  rcases open_slice ht hx with ⟨rfl, _⟩ | ⟨a, len, cap, m, n, D, Pl, rfl, _, hl, hm, hmm, hxe, hi⟩
  · exact ⟨_, ⟨[], rfl, by simp, fun e he => by cases he⟩, rvq1 (.nil none 0)⟩
  · have hlm : len ≤ m := by rw [hmm]; split <;> omega
    have hb : ∀ i, i < len → Rows.uptoBulk (D i) ≤ Rows.uptoBulk x.1 := fun i hil => by
      subst hxe
      exact bulk_slice (List.mem_map.2 ⟨i, List.mem_range.2 hil, rfl⟩)
    have hbl : len ≤ Rows.uptoBulk x.1 := by
      subst hxe
      have := bulk_slice_len ((List.range len).map D) ((List.range (m - len)).map fun j => D (len + j))
      rw [List.length_map, List.length_range] at this
      exact this
    obtain ⟨U, hU⟩ := choose_lt (n := len) (p := fun i (u : List AV) => A (Rows.uptoBulk x.1) u ∧ ∃ cs', RV (RepT w okT) u cs' ∧ w.cells? base (a.add (i * k)) k = some cs') (fun i hil => by
      obtain ⟨cs', h1, h2⟩ := hi i (by omega)
      rw [hk] at h1
      obtain ⟨u, hu, hr⟩ := he H enc base spare held _ _ _ h2
      exact ⟨u, hA _ _ _ (hb i hil) hu, cs', hr, h1⟩)
    refine ⟨[.sl k ((List.range len).map U)], ⟨_, rfl, by rw [List.length_map, List.length_range]; exact hbl, fun e he => ?_⟩, ?_⟩
    · obtain ⟨i, hir, rfl⟩ := List.mem_map.1 he
      exact (hU i (List.mem_range.1 hir)).1
    · by_cases h0 : len = 0
      · subst h0; exact rvq1 (.nil (some a) cap)
      · have hz := (hU 0 (by omega)).2.choose_spec.2
        obtain ⟨_, hz1, hz2⟩ := World.cells?_some hz
        have hz3 := hz2 0 h0k
        rw [List.getElem?_eq_getElem (by omega)] at hz3
        have hs0 := World.cell?_spot hz3
        obtain ⟨b, o, sp⟩ := a
        have hsp : sp = none := by
          simp [Addr.add] at hs0
          exact hs0
        subst hsp
        have key : ∀ (i j : Nat) (e : List AV) (d : AV), ((List.range len).map U)[i]? = some e → e[j]? = some d → ∃ u, w.cell? ⟨b, o + i * k + j, none⟩ = some u ∧ RepT w okT d u := fun i j e d hie hjd => by
          have hil : i < len := by have := (List.getElem?_eq_some_iff.1 hie).1; rw [List.length_map, List.length_range] at this; exact this
          rw [List.getElem?_map, List.getElem?_range hil] at hie
          cases hie
          obtain ⟨_, cs', hr, hc⟩ := hU i hil
          obtain ⟨_, q1, q2⟩ := World.cells?_some hc
          obtain ⟨u, g1, g2⟩ := hr.2 j d hjd
          have hj : j < k := by
            have := (List.getElem?_eq_some_iff.1 g1).1
            omega
          have := q2 j hj
          rw [addr_at, addr_at] at this
          exact ⟨u, this.trans g1, g2⟩
        have R := RepT.sl (w := w) (ok := okT) (k := k) (b := b) (o := o) (c := cap) (es := (List.range len).map U) (fun e he => by
            obtain ⟨i, hir, rfl⟩ := List.mem_map.1 he
            obtain ⟨_, cs', hr, hc⟩ := hU i (List.mem_range.1 hir)
            obtain ⟨_, q1, _⟩ := World.cells?_some hc
            have := hr.1
            omega) (by rw [List.length_map, List.length_range]; exact hl) (fun i j e d he hd => by
            obtain ⟨u, h1, _⟩ := key i j e d he hd
            exact ⟨trivial, by rw [h1]; rfl⟩) (fun i j e d he hd => by
            obtain ⟨u, h1, h2⟩ := key i j e d he hd
            rw [h1]
            exact h2)
        rw [List.length_map, List.length_range] at R
        exact rvq1 R
theorem list_of {α : Type} {enc : α → List AV} {ok : α → Prop} : ∀ {es : List (List AV)}, (∀ e ∈ es, ∃ x, e = enc x ∧ ok x) → ∃ L : List α, es = L.map enc ∧ ∀ x ∈ L, ok x
  | [], _ => ⟨[], rfl, fun x hx => by cases hx⟩
  | e :: es, h => by
    obtain ⟨x, rfl, hx⟩ := h e (List.mem_cons_self ..)
    obtain ⟨L, rfl, hL⟩ := list_of fun e he => h e (List.mem_cons_of_mem _ he)
    exact ⟨x :: L, rfl, fun y hy => by
      rcases List.mem_cons.1 hy with rfl | hy
      · exact hx
      · exact hL y hy⟩
theorem op_list {α : Type} {t e : TypeId} {k : Nat} {enc : α → List AV} {ok : Nat → α → Prop} (ht : Tryz.prog.underlying t = some (.slice e)) (hk : Tryz.prog.cellsOf e = k) (h0k : 0 < k) (he : Opens w e (fun N us => ∃ x, us = enc x ∧ ok N x)) (hm : ∀ N M x, N ≤ M → ok N x → ok M x) :
    Opens w t (fun N us => ∃ L : List α, us = [.sl k (L.map enc)] ∧ L.length ≤ N ∧ ∀ x ∈ L, ok N x) :=
  (op_sl ht hk h0k he (fun N M us hN ⟨x, h1, h2⟩ => ⟨x, h1, hm N M x hN h2⟩)).mono fun N us ⟨es, h1, h2, h3⟩ => by
    obtain ⟨L, rfl, hL⟩ := list_of h3
    exact ⟨L, h1, by simpa using h2, hL⟩
def okInt (k : IntKind) (_ : Nat) (z : Int) : Prop := (Lit.int k z).wf = true
theorem okInt.up {k : IntKind} {N M : Nat} {z : Int} (hN : N ≤ M) (h : okInt k N z) : okInt k M z := h
def okBool (_ : Nat) (_ : Bool) : Prop := True
theorem okBool.up {N M : Nat} {b : Bool} (hN : N ≤ M) (h : okBool N b) : okBool M b := h
theorem op_boolO {t : TypeId} (ht : Tryz.prog.underlying t = some .bool) : Opens w t (fun N us => ∃ b, us = [.lit (.bool b)] ∧ okBool N b) := (op_bool ht).mono fun N us ⟨b, h⟩ => ⟨b, h, trivial⟩
def okNat (N : Nat) (l : List Nat) : Prop := Lim l ∧ l.length ≤ N
theorem okNat.up {N M : Nat} {l : List Nat} (hN : N ≤ M) (h : okNat N l) : okNat M l := ⟨h.1, Nat.le_trans h.2 hN⟩
theorem cU32 : Tryz.prog.cellsOf 165 = 1 := by kernel_rfl
theorem op_natO : Opens w 24 (fun N us => ∃ l, us = [natA l] ∧ okNat N l) :=
  (op_list (α := Nat) (enc := fun x => [.lit (.int .u32 (x : Int))]) (ok := fun _ x => x < 4294967296) Tryz.underlying24 cU32 (by omega) ((op_int Tryz.underlying165).mono fun N us ⟨z, h1, h2⟩ => by
    have h3 : 0 ≤ z ∧ z ≤ 4294967295 := by simpa [Lit.wf, IntKind.min, IntKind.max, IntKind.signed, IntKind.bits] using h2
    exact ⟨z.toNat, by rw [h1, Int.toNat_of_nonneg h3.1], by omega⟩) (fun N M x _ h => h)).mono fun N us ⟨L, h1, h2, h3⟩ => ⟨L, h1, fun x hx => h3 x hx, h2⟩
def okRaw (N : Nat) (r : Raw) : Prop := okNat N r.l1 ∧ okNat N r.l2
theorem okRaw.up {N M : Nat} {r : Raw} (hN : N ≤ M) (h : okRaw N r) : okRaw M r := ⟨h.1.up hN, h.2.up hN⟩
theorem arg_one {d : AV} {v : Value} (hv : v.cells = #[v]) (h : RV (RepT w okT) [d] v.cells.toList) : RepT w okT d v := by
  rw [hv] at h
  obtain ⟨u, h1, h2⟩ := h.2 0 d rfl
  cases h1
  exact h2
theorem rvs_nil {R : AV → Value → Prop} : RV R [] [] := ⟨rfl, fun i d hi => by simp at hi⟩
theorem rvs_cons {R : AV → Value → Prop} {a : AV} {v : Value} {l : List AV} {vs : List Value} (h : R a v) (hl : RV R l vs) : RV R (a :: l) (v :: vs) := ⟨by simp [hl.1], fun i d hi => by
  match i, hi with
  | 0, hi => cases hi; exact ⟨v, rfl, h⟩
  | i + 1, hi => exact hl.2 i d (by simpa using hi)⟩
end
end Go.Proofs.YtjpoanaoaeaneaaGreatDoor
set_option linter.all false
set_option maxRecDepth 100000
namespace Go.Proofs.YtjpoanaoaeaneaaGreatDoor
open Go.ChangeShapes Go.WideShapes Go.RowKit Go.Deep
section
variable {w : World}
theorem cO_Rat : Tryz.prog.cellsOf 26 = 3 := by kernel_rfl
theorem cO_Rat_0 : Tryz.prog.cellsOf 4 = 1 := by kernel_rfl
theorem cO_Rat_1 : Tryz.prog.cellsOf 24 = 1 := by kernel_rfl
theorem cO_Rat_2 : Tryz.prog.cellsOf 24 = 1 := by kernel_rfl
set_option maxRecDepth 100000 in
theorem op_Rat : Opens w 26 (fun N us => ∃ x : Raw, us = rawC x ∧ okRaw N x) := fun H enc base spare held fuel cs x hx => by
  obtain ⟨hl, hf⟩ := fldB Tryz.underlying26 hx
  rw [cO_Rat] at hl
  obtain ⟨n0, y0, g0, b0⟩ := hf 0 _ 4 0 rfl rfl rfl
  obtain ⟨a0, ⟨x0, e0, p0⟩, r0⟩ := (op_boolO Tryz.underlying4) _ _ _ _ _ _ _ _ g0
  rw [cO_Rat_0] at r0
  subst e0
  obtain ⟨n1, y1, g1, b1⟩ := hf 1 _ 24 1 rfl rfl rfl
  obtain ⟨a1, ⟨x1, e1, p1⟩, r1⟩ := op_natO _ _ _ _ _ _ _ _ g1
  rw [cO_Rat_1] at r1
  subst e1
  obtain ⟨n2, y2, g2, b2⟩ := hf 2 _ 24 2 rfl rfl rfl
  obtain ⟨a2, ⟨x2, e2, p2⟩, r2⟩ := op_natO _ _ _ _ _ _ _ _ g2
  rw [cO_Rat_2] at r2
  subst e2
  exact ⟨_, ⟨(⟨x0, x1, x2⟩ : Raw), rfl, ⟨okNat.up b1 p1, okNat.up b2 p2⟩⟩, rv_fld (o := 0) (n := 1) r0 (rv_fld (o := 1) (n := 1) r1 (rv_fld (o := 2) (n := 1) r2 (rv_end hl) (by omega)) (by omega)) (by omega)⟩
def okO_Term (N : Nat) (x : Int × Raw) : Prop := okInt .i64 N x.1 ∧ okRaw N x.2
theorem okO_Term.up {N M : Nat} {x : Int × Raw} (hN : N ≤ M) (h : okO_Term N x) : okO_Term M x := ⟨okInt.up hN h.1, okRaw.up hN h.2⟩
def okO_LTerm (N : Nat) (L : List (Int × Raw)) : Prop := L.length ≤ N ∧ ∀ x ∈ L, okO_Term N x
theorem okO_LTerm.up {N M : Nat} {L : List (Int × Raw)} (hN : N ≤ M) (h : okO_LTerm N L) : okO_LTerm M L := ⟨Nat.le_trans h.1 hN, fun x hx => okO_Term.up hN (h.2 x hx)⟩
def okO_Affine (N : Nat) (x : FormR) : Prop := okO_LTerm N x.1 ∧ okRaw N x.2
theorem okO_Affine.up {N M : Nat} {x : FormR} (hN : N ≤ M) (h : okO_Affine N x) : okO_Affine M x := ⟨okO_LTerm.up hN h.1, okRaw.up hN h.2⟩
def okO_LRat (N : Nat) (L : List (Raw)) : Prop := L.length ≤ N ∧ ∀ x ∈ L, okRaw N x
theorem okO_LRat.up {N M : Nat} {L : List (Raw)} (hN : N ≤ M) (h : okO_LRat N L) : okO_LRat M L := ⟨Nat.le_trans h.1 hN, fun x hx => okRaw.up hN (h.2 x hx)⟩
theorem cO_LRatE : Tryz.prog.cellsOf 26 = 3 := by kernel_rfl
theorem op_LRat : Opens w 59 (fun N us => ∃ L : List (Raw), us = [.sl 3 (L.map rawC)] ∧ okO_LRat N L) :=
  (op_list (α := Raw) (enc := rawC) (ok := okRaw) Tryz.underlying59 cO_LRatE (by omega) op_Rat (fun N M x h g => okRaw.up h g)).mono fun N us ⟨L, h1, h2, h3⟩ => ⟨L, h1, h2, h3⟩
def okO_LAffine (N : Nat) (L : List (FormR)) : Prop := L.length ≤ N ∧ ∀ x ∈ L, okO_Affine N x
theorem okO_LAffine.up {N M : Nat} {L : List (FormR)} (hN : N ≤ M) (h : okO_LAffine N L) : okO_LAffine M L := ⟨Nat.le_trans h.1 hN, fun x hx => okO_Affine.up hN (h.2 x hx)⟩
def okO_Claim (N : Nat) (x : TClaimR) : Prop := okInt .i64 N x.Kind ∧ okInt .i64 N x.Target ∧ okRaw N x.Margin ∧ okO_LAffine N x.Rows
theorem okO_Claim.up {N M : Nat} {x : TClaimR} (hN : N ≤ M) (h : okO_Claim N x) : okO_Claim M x := ⟨okInt.up hN h.1, okInt.up hN h.2.1, okRaw.up hN h.2.2.1, okO_LAffine.up hN h.2.2.2⟩
end
end Go.Proofs.YtjpoanaoaeaneaaGreatDoor
set_option linter.all false
set_option maxRecDepth 100000
namespace Go.Proofs.YtjpoanaoaeaneaaGreatDoor
open Go.ChangeShapes Go.WideShapes Go.RowKit Go.Deep
theorem gT : Tryz.prog.globalNamed "internal/strconv.uint64pow10" = some 4 := by kernel_rfl
theorem tT : (Tryz.prog.globals[4]?).map (·.type) = some 264 := by kernel_rfl
theorem gE : Tryz.prog.globalNamed "strconv.ErrSyntax" = some 2 := by kernel_rfl
theorem tE : (Tryz.prog.globals[2]?).map (·.type) = some 89 := by kernel_rfl
theorem starE : "*" ++ "errors.errorString" = "*errors.errorString" := by decide
theorem rowE (u : TypeId) (h : Tryz.prog.typeName? 3 u = some "*errors.errorString") : u = 272 :=
  typeName_ptr_named (nm := "errors.errorString") (by rw [starE]; kernel_rfl) (by kernel_rfl) (by decide) u (by rw [starE]; exact h)
theorem gtab_pow {g : Nat} {cs : List AV} (h : gtab g = some cs) : g = 4 ∧ cs = Lib.pow10Tab.map fun z => AV.lit (.int .u64 z) := by
  unfold gtab at h
  split at h
  · rename_i e
    subst e
    cases h
    exact ⟨rfl, rfl⟩
  · cases h
theorem glob_laid {w : World} (hT : Lib.TabIs Tryz.prog w "internal/strconv.uint64pow10" .u64 Lib.pow10Tab) (hE : ∃ te pe, w.cell? ⟨2, 0, none⟩ = some (.iface te pe)) (hM : ∀ g ∈ gint, okT g 0 ∧ ∃ m, w.cell? ⟨g, 0, none⟩ = some (.int .i64 m)) : Glob w okT := by
  refine ⟨fun g cs hg => ?_, fun g hg => ?_, hM⟩
  · obtain ⟨rfl, rfl⟩ := gtab_pow hg
    unfold Lib.TabIs World.var? at hT
    rw [gT] at hT
    simp only [Option.bind_some] at hT
    split at hT
    · rename_i c t fr hc
      cases hT
      have key : ∀ (j : Nat) (d : AV), (Lib.pow10Tab.map fun z => AV.lit (.int .u64 z))[j]? = some d → ∃ v, w.cell? ⟨4, 0 + j, none⟩ = some v ∧ d = .lit v := fun j d hj => by
        rw [List.getElem?_map] at hj
        obtain ⟨z, hz, rfl⟩ := Option.map_eq_some_iff.1 hj
        refine ⟨.int .u64 z, ?_, rfl⟩
        rw [Nat.zero_add]
        simp only [World.cell?, hc]
        simp [hz]
      refine ⟨.mem (fun j d hj => ?_) (fun j d hj => ?_), t, ?_⟩
      · obtain ⟨v, h1, _⟩ := key j d hj
        exact ⟨trivial, by rw [h1]; rfl⟩
      · obtain ⟨v, h1, rfl⟩ := key j d hj
        rw [h1]
        exact .lit _
      · simp [World.shape?, hc]
    · cases hT
  · have e : g = 2 := by simpa [gerr] using hg
    subst e
    exact ⟨trivial, hE⟩
theorem okL_lim {N : Nat} {l : List Raw} (h : okO_LRat N l) : ∀ r ∈ l, LimR2 r := fun r hr => ⟨(h.2 r hr).1.1, (h.2 r hr).2.1⟩
theorem true_end {w : World} {ok : Nat → Nat → Prop} {e : Ending} {w' : World} (h : ∃ v, e = .returned v ∧ RepT w' (okN ok w w') (.lit (.bool true)) v ∧ Below w.heap.size w w') : RetB true w e w' := by
  obtain ⟨v, rfl, h2, h3⟩ := h
  cases h2
  exact ⟨rfl, h3⟩
end Go.Proofs.YtjpoanaoaeaneaaGreatDoor
set_option linter.all false
set_option maxRecDepth 100000
namespace Go.Proofs.YtjpoanaoaeaneaaGreatDoor
open Go.ChangeShapes Go.WideShapes Go.RowKit Go.Deep
theorem witness_zip {H : Type} {enc : TypeId × Value → H} {C : Checked} {os : Os} {f : FuncId} {fn : Func} {s : OpenSpec} {conds : List PathCond} {apart : Bool} {laid : List (String × DataW Unit)} (w0 : World) (args : Array Value) (hos : w0.os = os)
    (hsh : (w0.forCall (fun _ _ => 0) ⟨#[], args, []⟩).Shaped C.prog) (hok : Input.okWideB C.prog (w0.forCall (fun _ _ => 0) ⟨#[], args, []⟩) f ⟨#[], args, []⟩ = true)
    (hrow : s.preRow enc C.prog fn conds apart laid (w0.forCall (fun _ _ => 0) ⟨#[], args, []⟩).memory args) :
    ∃ (w : World) (tape : Tape) (i : Input), w.os = os ∧ (w.forCall tape i).Shaped C.prog ∧ i.vars = [] ∧ Input.okWide C.prog (w.forCall tape i) .any w.heap.size f i ∧
      s.preRow enc C.prog fn conds apart laid (w.forCall tape i).memory i.args ∧ ({} : Assume).holds C.prog (lone (Frame.enter C.prog f i.args .normal) [] (w.forCall tape i)) :=
  ⟨w0, fun _ _ => 0, ⟨#[], args, []⟩, hos, hsh, (Input.okWide_of_okWideB (base := 0) hok).1, (Input.okWide_of_okWideB hok).2, hrow, by
    simp only [Assume.holds]
    exact ⟨by simp, by simp, fun _ => Modest.zero, by simp, by simp⟩⟩
theorem maxL {w : World} (h : w.ShapedOpen Tryz.prog) : ∃ m, w.cell? ⟨1, 0, none⟩ = some (.int .i64 m) :=
  Go.Proofs.cell_of_shapedOpen_int (zero := #[.int .i64 0]) (t := 3) h (of_decide_eq_true (by kernel_rfl)) (by kernel_rfl) rfl (by kernel_rfl) (by kernel_rfl) Tryz.underlying3
theorem laid_glob {W : World} (hs : W.ShapedOpen Tryz.prog) (h : laidMet Tryz.prog [("math/bits.deBruijn32tab", Rows.laid_math_bits_deBruijn32tab), ("math/bits.deBruijn64tab", Rows.laid_math_bits_deBruijn64tab), ("internal/strconv.uint64pow10", Rows.laid_internal_strconv_uint64pow10), ("unicode/utf8.acceptRanges", Rows.laid_unicode_utf8_acceptRanges), ("strconv.ErrRange", Rows.laid_strconv_ErrRange), ("strconv.ErrSyntax", Rows.laid_strconv_ErrSyntax), ("unicode/utf8.first", Rows.laid_unicode_utf8_first)] W) : Glob W okT := by
  have h3 := laidMet.tail (laidMet.tail h)
  have hT : Lib.TabIs Tryz.prog W "internal/strconv.uint64pow10" .u64 Lib.pow10Tab := Lib.tabIs_of_head gT tT Tryz.underlying264 Tryz.underlying104 (by kernel_rfl) (by kernel_rfl) h3
  have h5 := laidMet.tail (laidMet.tail (laidMet.tail h3))
  obtain ⟨a0, s0, hv0, _⟩ := laid_sentinel h5 gE tE Tryz.underlying89 rowE Tryz.underlying272 Tryz.underlying274 rfl rfl Tryz.underlying9 (by kernel_rfl) (by kernel_rfl)
  exact glob_laid hT ⟨_, _, World.var?_cell gE hv0 0⟩ (fun g hg => by
    have e : g = 1 := by simpa [gint] using hg
    subst e
    exact ⟨trivial, maxL hs⟩)
end Go.Proofs.YtjpoanaoaeaneaaGreatDoor
set_option linter.all false
namespace Go.Proofs.YtjpoanaoaeaneaaGreatDoor
open Go.ChangeShapes Go.WideShapes Go.RowKit Go.Deep
theorem u8_of {z : Int} (h : (Lit.int .u8 z).wf = true) : 0 ≤ z ∧ z ≤ 255 := by
  have h4 : 0 ≤ z ∧ z ≤ 255 := by simpa [Lit.wf, IntKind.min, IntKind.max, IntKind.signed, IntKind.bits] using h
  exact h4
end Go.Proofs.YtjpoanaoaeaneaaGreatDoor
