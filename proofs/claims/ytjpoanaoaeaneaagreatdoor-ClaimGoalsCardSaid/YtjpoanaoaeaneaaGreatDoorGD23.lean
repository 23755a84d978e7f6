import Derived.Test.YtjpoanaoaeaneaaGreatDoorGD16
import Derived.Test.YtjpoanaoaeaneaaGreatDoorGD22
set_option linter.all false
set_option maxRecDepth 100000
set_option maxHeartbeats 6400000
namespace Go.Proofs.YtjpoanaoaeaneaaGreatDoor
open Go.RowKit
noncomputable def cglRT (n : Nat) : FuncId → Option Orc := ext (tab (n + 16)) 35 (.pure awG)
theorem cglRT_ok (n : Nat) : OrcOk Tryz.prog (cglRT n) := (tab_ok (n + 16)).extP (by kernel_rfl) con_awake
noncomputable def cglR (n : Nat) (args : List AV) : Option AV := fnP Tryz.prog (cglRT n) (livesOf 8) big (fnOf 8) args
theorem cglR_con {n : Nat} {args : List AV} {r : AV} (h : cglR n args = some r) : Con Tryz.prog 8 args r :=
  con_of (cglRT_ok n) mixed (plain_fn (by kernel_rfl)) (body_some (by kernel_rfl) (plain_fn (by kernel_rfl))) h
theorem cglR_aw (n : Nat) : cglRT n 35 = some (.pure awG) := by unfold cglRT ext; rw [if_pos rfl]
theorem cglR_l36 (n : Nat) : cglRT n 36 = some (.pure (run (n + 15) 36)) := by unfold cglRT ext; rw [if_neg (by decide)]; exact tb_36 _
theorem cglR_l37 (n : Nat) : cglRT n 37 = some (.pure (run (n + 15) 37)) := by unfold cglRT ext; rw [if_neg (by decide)]; exact tb_37 _
theorem cglR_l38 (n : Nat) : cglRT n 38 = some (.pure (run (n + 15) 38)) := by unfold cglRT ext; rw [if_neg (by decide)]; exact tb_38 _
theorem cglR_l39 (n : Nat) : cglRT n 39 = some (.pure (run (n + 15) 39)) := by unfold cglRT ext; rw [if_neg (by decide)]; exact tb_39 _
theorem cglR_l40 (n : Nat) : cglRT n 40 = some (.pure (run (n + 15) 40)) := by unfold cglRT ext; rw [if_neg (by decide)]; exact tb_40 _
theorem cglR_l41 (n : Nat) : cglRT n 41 = some (.pure (run (n + 15) 41)) := by unfold cglRT ext; rw [if_neg (by decide)]; exact tb_41 _
theorem cglR_l42 (n : Nat) : cglRT n 42 = some (.pure (run (n + 15) 42)) := by unfold cglRT ext; rw [if_neg (by decide)]; exact tb_42 _
section
variable {r : Bool} {a1 : Int} {a0 : TClaimR} {n : Nat} {r5 : List Form} {r7 : Bool} {r9 : Bool} {r6 : Int} {r2 : TClaimR} {r3 : List Form} {r4 : Int} {r8 : Bool} {r14 : Int} {r13 : List Form} {r15 : Bool} {r17 : Bool} {r10 : TClaimR} {r16 : Bool} {r11 : List Form} {r12 : Int}
theorem cglR_f1 (K1 : run (n + 15) 36 [claimRV a0] = some (.lit (.bool r))) (C2 : r = false) :
    cglR n [claimRV a0, .lit (.int .i64 a1)] = some (.lit (.bool true)) := by
  simp only [claimRV] at K1
  unfold cglR fnP
  simp +decide [Tryz.f8, K1, C2, cglR_aw, awG, cglR_l36, cglR_l37, cglR_l38, cglR_l39, cglR_l40, cglR_l41, cglR_l42]
theorem cglR_f2 (K1 : run (n + 15) 36 [claimRV a0] = some (.lit (.bool r))) (C2 : r = true) (C3 : 10 < a1) (C4 : a1 ≤ 256) :
    cglR n [claimRV a0, .lit (.int .i64 a1)] = some (.lit (.bool true)) := by
  simp only [claimRV] at K1
  unfold cglR fnP
  simp +decide [Tryz.f8, K1, C2, C3, C4, cglR_aw, awG, cglR_l36, cglR_l37, cglR_l38, cglR_l39, cglR_l40, cglR_l41, cglR_l42]
theorem cglR_f3 (K1 : run (n + 15) 36 [claimRV a0] = some (.lit (.bool r))) (C2 : r = true) (C3 : 10 < a1) (C4 : ¬ a1 ≤ 256) (K5 : run (n + 15) 38 [claimRV a0] = some (claimRV r2)) (K6 : run (n + 15) 37 [claimRV r2, .lit (.int .i64 a1)] = some (.tup [.sl 4 (r3.map formC), .lit (.int .i64 r4)])) (K7 : run (n + 15) 39 [claimRV a0, .lit (.int .i64 a1)] = some (.tup [.sl 4 (r5.map formC), .lit (.int .i64 r6)])) (K8 : run (n + 15) 40 [claimRV a0, .lit (.int .i64 a1)] = some (.lit (.bool r7))) (K9 : run (n + 15) 41 [claimRV a0, .lit (.int .i64 a1)] = some (.lit (.bool r8))) (C10 : r7 = r8) (C11 : r4 = r6) (K12 : run (n + 15) 42 [.sl 4 (r3.map formC), .sl 4 (r5.map formC)] = some (.lit (.bool r9))) :
    cglR n [claimRV a0, .lit (.int .i64 a1)] = some (.lit (.bool r9)) := by
  simp only [claimRV] at K1
  simp only [claimRV] at K5
  simp only [claimRV] at K6
  simp only [claimRV] at K7
  simp only [claimRV] at K8
  simp only [claimRV] at K9
  have C10_ : (r7 == r8) = true := by rw [C10]; simp
  have C10_n : (r7 != r8) = false := by rw [C10]; simp
  have C11_ : (r4 == r6) = true := by rw [C11]; simp
  have C11_n : (r4 != r6) = false := by rw [C11]; simp
  unfold cglR fnP
  simp +decide [Tryz.f8, K1, C2, C3, C4, K5, K6, K7, K8, K9, C10_, C10_n, C10, C11_, C11_n, K12, cglR_aw, awG, cglR_l36, cglR_l37, cglR_l38, cglR_l39, cglR_l40, cglR_l41, cglR_l42]
theorem cglR_f6 (K1 : run (n + 15) 36 [claimRV a0] = some (.lit (.bool r))) (C2 : r = true) (C3 : ¬ 10 < a1) (K4 : run (n + 15) 38 [claimRV a0] = some (claimRV r10)) (K5 : run (n + 15) 37 [claimRV r10, .lit (.int .i64 a1)] = some (.tup [.sl 4 (r11.map formC), .lit (.int .i64 r12)])) (K6 : run (n + 15) 39 [claimRV a0, .lit (.int .i64 a1)] = some (.tup [.sl 4 (r13.map formC), .lit (.int .i64 r14)])) (K7 : run (n + 15) 40 [claimRV a0, .lit (.int .i64 a1)] = some (.lit (.bool r15))) (K8 : run (n + 15) 41 [claimRV a0, .lit (.int .i64 a1)] = some (.lit (.bool r16))) (C9 : r15 = r16) (C10 : r12 = r14) (K11 : run (n + 15) 42 [.sl 4 (r11.map formC), .sl 4 (r13.map formC)] = some (.lit (.bool r17))) :
    cglR n [claimRV a0, .lit (.int .i64 a1)] = some (.lit (.bool r17)) := by
  simp only [claimRV] at K1
  simp only [claimRV] at K4
  simp only [claimRV] at K5
  simp only [claimRV] at K6
  simp only [claimRV] at K7
  simp only [claimRV] at K8
  have C9_ : (r15 == r16) = true := by rw [C9]; simp
  have C9_n : (r15 != r16) = false := by rw [C9]; simp
  have C10_ : (r12 == r14) = true := by rw [C10]; simp
  have C10_n : (r12 != r14) = false := by rw [C10]; simp
  unfold cglR fnP
  simp +decide [Tryz.f8, K1, C2, C3, K4, K5, K6, K7, K8, C9_, C9_n, C9, C10_, C10_n, K11, cglR_aw, awG, cglR_l36, cglR_l37, cglR_l38, cglR_l39, cglR_l40, cglR_l41, cglR_l42]
end
end Go.Proofs.YtjpoanaoaeaneaaGreatDoor
set_option linter.all false
set_option maxRecDepth 100000
set_option maxHeartbeats 6400000
namespace Go.Proofs.YtjpoanaoaeaneaaGreatDoor
open Go.RowKit
attribute [local irreducible] run runL loopG exec cglR
theorem fea_sm {n : Nat} {L : List Form} (hl : L.length ≤ 100000000) (hB : ∀ f ∈ L, BdF 17179869184 f) : run (n + 1) 42 [.sl 4 (L.map formC), .sl 4 (L.map formC)] = some (.lit (.bool true)) := by
  refine fea_f3 rfl (loopG_I (O := tab (n + 1)) (P := Tryz.prog) (m := 0) (N := 27) (lives := livesOf 42) (r := 4) (C := fea_C4) (L := L) (f := fun _ (b : Unit) _ => b) (enc := fun i _ => fea_h4 L L i) (exN := .exit 0) (out := fun _ => fea_o4b) (Inv := fun _ _ => True) () trivial (by omega) (by simp)
    (fun i f b hi hI => by
      have hlt := (List.getElem?_eq_some_iff.1 hi).1
      have hf := hB f (List.mem_of_getElem? hi)
      have K := feq_c (n := n) hf hf
      rw [tv_t rfl] at K
      exact ⟨fea_r4_1 (by omega) hi hi K rfl ⟨by omega, by omega⟩, trivial⟩)
    (fun b hI => fea_x4_2 (by omega))).1
theorem cg_law {c : TClaimR} {z : Int} (hl : LimC c) : Con Tryz.prog 8 [claimRV c, .lit (.int .i64 z)] (.lit (.bool true)) := by
  have K := few20_c (n := 14) (c := c)
  by_cases hf : FewC c
  rotate_left
  · rw [tv_f hf] at K
    exact cglR_con (n := 0) (cglR_f1 K rfl)
  rw [tv_t hf] at K
  have h6 := hf.l
  have V := cvalid_c (n := 11) (z := z) hl hf
  have V1 := cvalid_c (n := 10) (z := z) hl hf
  have W := fvalid20_c (n := 13) (z := z) hl hf
  have W1 := fvalid20_c (n := 12) (z := z) hl hf
  have C := cpC_f1 (n := 15) (a0 := c) (by omega)
  have bad : ¬ OkClR c z → run 15 37 [claimRV c, .lit (.int .i64 z)] = some (.tup [.sl 4 (([] : List Form).map formC), .lit (.int .i64 1)]) ∧ run 15 39 [claimRV c, .lit (.int .i64 z)] = some (.tup [.sl 4 (([] : List Form).map formC), .lit (.int .i64 1)]) := fun ho => by
    rw [tv_f ho] at V1 W1
    exact ⟨cGoR_f1 (n := 10) V1 rfl, fGoR_f1 (n := 11) W1 rfl⟩
  have E0 := fea_sm (n := 14) (L := []) (by simp) (fun f hf => by cases hf)
  by_cases h10 : 10 < z
  · by_cases h256 : z ≤ 256
    · exact cglR_con (n := 0) (cglR_f2 K rfl h10 h256)
    · have ho : ¬ OkClR c z := fun h => h256 h.z1
      obtain ⟨A, B⟩ := bad ho
      exact cglR_con (n := 0) (cglR_f3 (r3 := []) (r5 := []) K rfl h10 h256 C A B V W rfl rfl E0)
  · by_cases ho : OkClR c z
    · obtain ⟨e, hs⟩ := claim_canon hl hf ho
      have e' := e
      rw [tv_t ho, e] at V1 W1
      have A := cgoals_c (n := 10) hs V1
      have B := fgoals_c (n := 11) hs W1
      rw [← e'] at A B
      have E := fea_sm (n := 14) (L := goalsF (unC c) z) (by have := goals_len hs; omega) (fun f hf => (goals_sb hs f hf).bd (by omega) (by omega))
      exact cglR_con (n := 0) (cglR_f6 K rfl h10 C A B V W rfl rfl E)
    · obtain ⟨A, B⟩ := bad ho
      exact cglR_con (n := 0) (cglR_f6 (r11 := []) (r13 := []) K rfl h10 C A B V W rfl rfl E0)
end Go.Proofs.YtjpoanaoaeaneaaGreatDoor
set_option linter.all false
namespace Go.Proofs.YtjpoanaoaeaneaaGreatDoor
open Go.ChangeShapes Go.WideShapes Go.RowKit Go.Deep
theorem cg_use (w : World) {v0 : Value} {c : TClaimR} {z : Int} {N : Nat} (r0 : RepT w okT (.agg (claimRC c)) v0) (k0 : okO_Claim N c) (hG : Glob w okT) :
    Calls Tryz.prog 8 #[v0, .int .i64 z] w (RetB true w) :=
  (cg_law (z := z) (okC_lim k0) w okT _ hG (rvs_cons r0 (rvs_cons (.lit _) rvs_nil))).mono fun _ _ h => true_end h
end Go.Proofs.YtjpoanaoaeaneaaGreatDoor
