import Derived.Test.YtjpoanaoaeaneaaGreatDoorGD16
import Derived.Test.YtjpoanaoaeaneaaGreatDoorGD22
import Derived.Test.YtjpoanaoaeaneaaGreatDoorGD24
set_option linter.all false
set_option maxRecDepth 100000
set_option maxHeartbeats 6400000
namespace Go.Proofs.YtjpoanaoaeaneaaGreatDoor
open Go.RowKit
noncomputable def chlT (n : Nat) : FuncId → Option Orc := ext (tab (n + 16)) 35 (.pure awG)
theorem chlT_ok (n : Nat) : OrcOk Tryz.prog (chlT n) := (tab_ok (n + 16)).extP (by kernel_rfl) con_awake
noncomputable def chl (n : Nat) (args : List AV) : Option AV := fnP Tryz.prog (chlT n) (livesOf 9) big (fnOf 9) args
theorem chl_con {n : Nat} {args : List AV} {r : AV} (h : chl n args = some r) : Con Tryz.prog 9 args r :=
  con_of (chlT_ok n) mixed (plain_fn (by kernel_rfl)) (body_some (by kernel_rfl) (plain_fn (by kernel_rfl))) h
theorem chl_aw (n : Nat) : chlT n 35 = some (.pure awG) := by unfold chlT ext; rw [if_pos rfl]
theorem chl_l36 (n : Nat) : chlT n 36 = some (.pure (run (n + 15) 36)) := by unfold chlT ext; rw [if_neg (by decide)]; exact tb_36 _
theorem chl_l38 (n : Nat) : chlT n 38 = some (.pure (run (n + 15) 38)) := by unfold chlT ext; rw [if_neg (by decide)]; exact tb_38 _
theorem chl_l43 (n : Nat) : chlT n 43 = some (.pure (run (n + 15) 43)) := by unfold chlT ext; rw [if_neg (by decide)]; exact tb_43 _
theorem chl_l44 (n : Nat) : chlT n 44 = some (.pure (run (n + 15) 44)) := by unfold chlT ext; rw [if_neg (by decide)]; exact tb_44 _
theorem chl_l45 (n : Nat) : chlT n 45 = some (.pure (run (n + 15) 45)) := by unfold chlT ext; rw [if_neg (by decide)]; exact tb_45 _
section
variable {r : Bool} {a1 : List Raw} {a0 : TClaimR} {n : Nat} {r2 : Bool} {r5 : Bool} {r7 : Int} {r9 : Int} {r6 : Int} {r3 : TClaimR} {r4 : Int} {r8 : Bool}
theorem chl_f1 (K1 : run (n + 15) 36 [claimRV a0] = some (.lit (.bool r))) (C2 : r = false) :
    chl n [claimRV a0, .sl 3 (a1.map rawC)] = some (.lit (.bool true)) := by
  simp only [claimRV] at K1
  unfold chl fnP
  simp +decide [Tryz.f9, K1, C2, chl_aw, awG, chl_l36, chl_l38, chl_l43, chl_l44, chl_l45]
theorem chl_f2 (K1 : run (n + 15) 36 [claimRV a0] = some (.lit (.bool r))) (C2 : r = true) (K3 : run (n + 15) 43 [.sl 3 (a1.map rawC)] = some (.lit (.bool r2))) (C4 : r2 = false) :
    chl n [claimRV a0, .sl 3 (a1.map rawC)] = some (.lit (.bool true)) := by
  simp only [claimRV] at K1
  unfold chl fnP
  simp +decide [Tryz.f9, K1, C2, K3, C4, chl_aw, awG, chl_l36, chl_l38, chl_l43, chl_l44, chl_l45]
theorem chl_f3 (K1 : run (n + 15) 36 [claimRV a0] = some (.lit (.bool r))) (C2 : r = true) (K3 : run (n + 15) 43 [.sl 3 (a1.map rawC)] = some (.lit (.bool r2))) (C4 : r2 = true) (K5 : run (n + 15) 38 [claimRV a0] = some (claimRV r3)) (K6 : run (n + 15) 44 [claimRV r3, .sl 3 (a1.map rawC)] = some (.tup [.lit (.int .i64 r4), .lit (.bool r5), .lit (.int .i64 r6)])) (K7 : run (n + 15) 45 [claimRV a0, .sl 3 (a1.map rawC)] = some (.tup [.lit (.int .i64 r7), .lit (.bool r8), .lit (.int .i64 r9)])) (C8 : r4 = r7) (C9 : r5 = r8) :
    chl n [claimRV a0, .sl 3 (a1.map rawC)] = some (.lit (.bool (r6 == r9))) := by
  simp only [claimRV] at K1
  simp only [claimRV] at K5
  simp only [claimRV] at K6
  simp only [claimRV] at K7
  have C8_ : (r4 == r7) = true := by rw [C8]; simp
  have C8_n : (r4 != r7) = false := by rw [C8]; simp
  have C9_ : (r5 == r8) = true := by rw [C9]; simp
  have C9_n : (r5 != r8) = false := by rw [C9]; simp
  unfold chl fnP
  simp +decide [Tryz.f9, K1, C2, K3, C4, K5, K6, K7, C8_, C8_n, C9_, C9_n, C9, chl_aw, awG, chl_l36, chl_l38, chl_l43, chl_l44, chl_l45]
end
end Go.Proofs.YtjpoanaoaeaneaaGreatDoor
set_option linter.all false
set_option maxRecDepth 100000
set_option maxHeartbeats 6400000
namespace Go.Proofs.YtjpoanaoaeaneaaGreatDoor
open Go.RowKit
attribute [local irreducible] run runL loopG exec chl
theorem ch_law {c : TClaimR} {xs : List Raw} (hl : LimC c) (hx : ∀ r ∈ xs, LimR2 r) (hn : xs.length ≤ 100000000) : Con Tryz.prog 9 [claimRV c, .sl 3 (xs.map rawC)] (.lit (.bool true)) := by
  have K := few20_c (n := 14) (c := c)
  by_cases hf : FewC c
  rotate_left
  · rw [tv_f hf] at K
    exact chl_con (n := 0) (chl_f1 K rfl)
  rw [tv_t hf] at K
  rcases outputs_c (n := 14) (xs := xs) with ⟨O, _⟩ | ⟨O, ho⟩ | h
  · exact chl_con (n := 0) (chl_f2 K rfl O rfl)
  · obtain ⟨i, ok, e, A, B, _⟩ := holdsG (good_of hl hf) (fun h => by have := h.H hf.m; omega) ⟨ho.1, fun r hr => ⟨ho.2 r hr, hx r hr⟩⟩
    have C := cpC_f1 (n := 15) (a0 := c) (by have := hf.l; omega)
    have R := chl_f3 (n := 0) K rfl O rfl C (A 9) (B 10) rfl rfl
    rw [beq_self_eq_true] at R
    exact chl_con R
  · omega
end Go.Proofs.YtjpoanaoaeaneaaGreatDoor
set_option linter.all false
namespace Go.Proofs.YtjpoanaoaeaneaaGreatDoor
open Go.ChangeShapes Go.WideShapes Go.RowKit Go.Deep
theorem ch_use (w : World) {v0 v1 : Value} {c : TClaimR} {xs : List Raw} {N M : Nat} (r0 : RepT w okT (.agg (claimRC c)) v0) (r1 : RepT w okT (.sl 3 (xs.map rawC)) v1) (k0 : okO_Claim N c) (k1 : okO_LRat M xs) (hM : M ≤ 1048576) (hG : Glob w okT) :
    Calls Tryz.prog 9 #[v0, v1] w (RetB true w) :=
  (ch_law (okC_lim k0) (okL_lim k1) (by have := k1.1; omega) w okT _ hG (rvs_cons r0 (rvs_cons r1 rvs_nil))).mono fun _ _ h => true_end h
end Go.Proofs.YtjpoanaoaeaneaaGreatDoor
