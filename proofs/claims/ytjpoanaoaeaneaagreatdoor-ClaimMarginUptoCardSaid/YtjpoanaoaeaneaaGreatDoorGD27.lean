import Derived.Test.YtjpoanaoaeaneaaGreatDoorGD16
import Derived.Test.YtjpoanaoaeaneaaGreatDoorGD22
import Derived.Test.YtjpoanaoaeaneaaGreatDoorGD26
set_option linter.all false
set_option maxRecDepth 100000
set_option maxHeartbeats 6400000
namespace Go.Proofs.YtjpoanaoaeaneaaGreatDoor
open Go.RowKit
noncomputable def cmlT (n : Nat) : FuncId → Option Orc := ext (tab (n + 16)) 35 (.pure awG)
theorem cmlT_ok (n : Nat) : OrcOk Tryz.prog (cmlT n) := (tab_ok (n + 16)).extP (by kernel_rfl) con_awake
noncomputable def cml (n : Nat) (args : List AV) : Option AV := fnP Tryz.prog (cmlT n) (livesOf 10) big (fnOf 10) args
theorem cml_con {n : Nat} {args : List AV} {r : AV} (h : cml n args = some r) : Con Tryz.prog 10 args r :=
  con_of (cmlT_ok n) mixed (plain_fn (by kernel_rfl)) (body_some (by kernel_rfl) (plain_fn (by kernel_rfl))) h
theorem cml_aw (n : Nat) : cmlT n 35 = some (.pure awG) := by unfold cmlT ext; rw [if_pos rfl]
theorem cml_l36 (n : Nat) : cmlT n 36 = some (.pure (run (n + 15) 36)) := by unfold cmlT ext; rw [if_neg (by decide)]; exact tb_36 _
theorem cml_l38 (n : Nat) : cmlT n 38 = some (.pure (run (n + 15) 38)) := by unfold cmlT ext; rw [if_neg (by decide)]; exact tb_38 _
theorem cml_l41 (n : Nat) : cmlT n 41 = some (.pure (run (n + 15) 41)) := by unfold cmlT ext; rw [if_neg (by decide)]; exact tb_41 _
theorem cml_l43 (n : Nat) : cmlT n 43 = some (.pure (run (n + 15) 43)) := by unfold cmlT ext; rw [if_neg (by decide)]; exact tb_43 _
theorem cml_l44 (n : Nat) : cmlT n 44 = some (.pure (run (n + 15) 44)) := by unfold cmlT ext; rw [if_neg (by decide)]; exact tb_44 _
theorem cml_l46 (n : Nat) : cmlT n 46 = some (.pure fFrac) := by unfold cmlT ext; rw [if_neg (by decide)]; exact tab_num rfl _
theorem cml_l47 (n : Nat) : cmlT n 47 = some (.pure fAdd) := by unfold cmlT ext; rw [if_neg (by decide)]; exact tab_num rfl _
section
variable {a0 : TClaimR} {a2 : Int} {a1 : List Raw} {r : Bool} {n : Nat} {r2 : Bool} {r3 : Bool} {r5 : Int} {r7 : Int} {r9 : Bool} {r6 : Bool} {r10 : Int} {r4 : TClaimR} {r8 : Int}
theorem cml_f1 (K1 : run (n + 15) 36 [claimRV a0] = some (.lit (.bool r))) (C2 : r = false) :
    cml n [claimRV a0, .sl 3 (a1.map rawC), .lit (.int .u8 a2)] = some (.lit (.bool true)) := by
  simp only [claimRV] at K1
  unfold cml fnP
  simp +decide [Tryz.f10, K1, C2, cml_aw, awG, cml_l36, cml_l38, cml_l41, cml_l43, cml_l44, cml_l46, cml_l47]
theorem cml_f2 (K1 : run (n + 15) 36 [claimRV a0] = some (.lit (.bool r))) (C2 : r = true) (K3 : run (n + 15) 43 [.sl 3 (a1.map rawC)] = some (.lit (.bool r2))) (C4 : r2 = false) :
    cml n [claimRV a0, .sl 3 (a1.map rawC), .lit (.int .u8 a2)] = some (.lit (.bool true)) := by
  simp only [claimRV] at K1
  unfold cml fnP
  simp +decide [Tryz.f10, K1, C2, K3, C4, cml_aw, awG, cml_l36, cml_l38, cml_l41, cml_l43, cml_l44, cml_l46, cml_l47]
theorem cml_f3 (K1 : run (n + 15) 36 [claimRV a0] = some (.lit (.bool r))) (C2 : r = true) (K3 : run (n + 15) 43 [.sl 3 (a1.map rawC)] = some (.lit (.bool r2))) (C4 : r2 = true) (K5 : run (n + 15) 41 [claimRV a0, .lit (.int .i64 (a1.length : Int))] = some (.lit (.bool r3))) (C6 : r3 = false) :
    cml n [claimRV a0, .sl 3 (a1.map rawC), .lit (.int .u8 a2)] = some (.lit (.bool true)) := by
  simp only [claimRV] at K1
  simp only [claimRV] at K5
  unfold cml fnP
  simp +decide [Tryz.f10, K1, C2, K3, C4, K5, C6, cml_aw, awG, cml_l36, cml_l38, cml_l41, cml_l43, cml_l44, cml_l46, cml_l47]
theorem cml_f4 (K1 : run (n + 15) 36 [claimRV a0] = some (.lit (.bool r))) (C2 : r = true) (K3 : run (n + 15) 43 [.sl 3 (a1.map rawC)] = some (.lit (.bool r2))) (C4 : r2 = true) (K5 : run (n + 15) 41 [claimRV a0, .lit (.int .i64 (a1.length : Int))] = some (.lit (.bool r3))) (C6 : r3 = true) (K7 : run (n + 15) 38 [claimRV a0] = some (claimRV r4)) (W8 : InI (a2)) (W9 : InI a2) (B10a : RawB a0.Margin) (B10bH : H (fracQ a2 4) ≤ 17179869184) (K11 : run (n + 15) 44 [claimRV a0, .sl 3 (a1.map rawC)] = some (.tup [.lit (.int .i64 r5), .lit (.bool r6), .lit (.int .i64 r7)])) (K12 : run (n + 15) 44 [.agg [.lit (.int .i64 (r4.Kind)), .lit (.int .i64 (r4.Target)), .lit (.bool (rawQ (a0.Margin.q + (fracQ a2 4))).s), natA (rawQ (a0.Margin.q + (fracQ a2 4))).l1, natA (rawQ (a0.Margin.q + (fracQ a2 4))).l2, .sl 4 (r4.Rows.map formRC)], .sl 3 (a1.map rawC)] = some (.tup [.lit (.int .i64 r8), .lit (.bool r9), .lit (.int .i64 r10)])) (C13 : r7 = 0) (C14 : r10 = 0) (C15 : r6 = true) :
    cml n [claimRV a0, .sl 3 (a1.map rawC), .lit (.int .u8 a2)] = some (.lit (.bool true)) := by
  simp only [claimRV] at K1
  simp only [claimRV] at K5
  simp only [claimRV] at K7
  have W8_ : IntKind.i64.wrap (a2) = a2 := wr64 W8.1 W8.2
  have K9 := r_frac (x := a2) (y := 4) W9 (by omega) (by omega)
  have B10b := rawB_q B10bH
  have K10 := rr_add B10a B10b
  simp only [rawQ_q] at K10
  simp only [claimRV] at K11
  have C13_ : (r7 == 0) = true := by rw [C13]; simp
  have C13_n : (r7 != 0) = false := by rw [C13]; simp
  have C14_ : (r10 == 0) = true := by rw [C14]; simp
  have C14_n : (r10 != 0) = false := by rw [C14]; simp
  unfold cml fnP
  simp +decide [Tryz.f10, K1, C2, K3, C4, K5, C6, K7, W8_, K9, K10, K11, K12, C13_, C13_n, C14_, C14_n, C15, cml_aw, awG, cml_l36, cml_l38, cml_l41, cml_l43, cml_l44, cml_l46, cml_l47]
theorem cml_f5 (K1 : run (n + 15) 36 [claimRV a0] = some (.lit (.bool r))) (C2 : r = true) (K3 : run (n + 15) 43 [.sl 3 (a1.map rawC)] = some (.lit (.bool r2))) (C4 : r2 = true) (K5 : run (n + 15) 41 [claimRV a0, .lit (.int .i64 (a1.length : Int))] = some (.lit (.bool r3))) (C6 : r3 = true) (K7 : run (n + 15) 38 [claimRV a0] = some (claimRV r4)) (W8 : InI (a2)) (W9 : InI a2) (B10a : RawB a0.Margin) (B10bH : H (fracQ a2 4) ≤ 17179869184) (K11 : run (n + 15) 44 [claimRV a0, .sl 3 (a1.map rawC)] = some (.tup [.lit (.int .i64 r5), .lit (.bool r6), .lit (.int .i64 r7)])) (K12 : run (n + 15) 44 [.agg [.lit (.int .i64 (r4.Kind)), .lit (.int .i64 (r4.Target)), .lit (.bool (rawQ (a0.Margin.q + (fracQ a2 4))).s), natA (rawQ (a0.Margin.q + (fracQ a2 4))).l1, natA (rawQ (a0.Margin.q + (fracQ a2 4))).l2, .sl 4 (r4.Rows.map formRC)], .sl 3 (a1.map rawC)] = some (.tup [.lit (.int .i64 r8), .lit (.bool r9), .lit (.int .i64 r10)])) (C13 : r7 = 0) (C14 : r10 = 0) (C15 : r6 = false) :
    cml n [claimRV a0, .sl 3 (a1.map rawC), .lit (.int .u8 a2)] = some (.lit (.bool (!r9))) := by
  simp only [claimRV] at K1
  simp only [claimRV] at K5
  simp only [claimRV] at K7
  have W8_ : IntKind.i64.wrap (a2) = a2 := wr64 W8.1 W8.2
  have K9 := r_frac (x := a2) (y := 4) W9 (by omega) (by omega)
  have B10b := rawB_q B10bH
  have K10 := rr_add B10a B10b
  simp only [rawQ_q] at K10
  simp only [claimRV] at K11
  have C13_ : (r7 == 0) = true := by rw [C13]; simp
  have C13_n : (r7 != 0) = false := by rw [C13]; simp
  have C14_ : (r10 == 0) = true := by rw [C14]; simp
  have C14_n : (r10 != 0) = false := by rw [C14]; simp
  unfold cml fnP
  simp +decide [Tryz.f10, K1, C2, K3, C4, K5, C6, K7, W8_, K9, K10, K11, K12, C13_, C13_n, C14_, C14_n, C15, cml_aw, awG, cml_l36, cml_l38, cml_l41, cml_l43, cml_l44, cml_l46, cml_l47]
end
end Go.Proofs.YtjpoanaoaeaneaaGreatDoor
set_option linter.all false
set_option maxRecDepth 100000
set_option maxHeartbeats 6400000
namespace Go.Proofs.YtjpoanaoaeaneaaGreatDoor
open Go.RowKit
attribute [local irreducible] run runL loopG exec cml
theorem frac4 (a : Nat) (h : a < 256) : H (fracQ (a : Int) 4) ≤ 2 ∧ 0 ≤ fracQ (a : Int) 4 := by
  have : ∀ a : Fin 256, H (fracQ ((a.1 : Nat) : Int) 4) ≤ 2 ∧ 0 ≤ fracQ ((a.1 : Nat) : Int) 4 := by decide +kernel
  exact this ⟨a, h⟩
theorem cm_law {c : TClaimR} {xs : List Raw} {a : Int} (hl : LimC c) (hx : ∀ r ∈ xs, LimR2 r) (hn : xs.length ≤ 100000000) (ha : 0 ≤ a ∧ a ≤ 255) : Con Tryz.prog 10 [claimRV c, .sl 3 (xs.map rawC), .lit (.int .u8 a)] (.lit (.bool true)) := by
  have K := few20_c (n := 14) (c := c)
  by_cases hf : FewC c
  rotate_left
  · rw [tv_f hf] at K
    exact cml_con (n := 0) (cml_f1 K rfl)
  rw [tv_t hf] at K
  rcases outputs_c (n := 14) (xs := xs) with ⟨O, _⟩ | ⟨O, ho⟩ | h
  · exact cml_con (n := 0) (cml_f2 K rfl O rfl)
  rotate_left
  · omega
  have hp : PtR xs := ⟨ho.1, fun r hr => ⟨ho.2 r hr, hx r hr⟩⟩
  have hg := good_of hl hf
  have V := fvalidG (n := 13) (z := (xs.length : Int)) hg
  by_cases hO : OkClR c (xs.length : Int)
  rotate_left
  · rw [tv_f hO] at V
    exact cml_con (n := 0) (cml_f3 K rfl O rfl V rfl)
  rw [tv_t hO] at V
  have hH := hO.m.H hf.m
  obtain ⟨p, rfl⟩ := Int.eq_ofNat_of_zero_le ha.1
  obtain ⟨q1, q2⟩ := frac4 p (by omega)
  have q3 := H_add c.Margin.q (fracQ (p : Int) 4)
  have m0 : 0 ≤ c.Margin.q := sgq_nonneg.1 (Int.not_lt.1 hO.m0)
  have hO2 : OkClR { c with Margin := rawQ (c.Margin.q + fracQ (p : Int) 4) } (xs.length : Int) := ok_m hO (by grind)
  obtain ⟨i, ok, e, A, _, h1⟩ := holdsG hg (fun h => by omega) hp
  obtain ⟨i2, ok2, e2, A2, _, h2⟩ := holdsG (good_m hg (q := c.Margin.q + fracQ (p : Int) 4) (by omega)) (fun h => by show H (rawQ (c.Margin.q + fracQ (p : Int) 4)).q ≤ 8; rw [rawQ_q]; omega) hp
  rcases h1 with ⟨_, rfl, s1, g1⟩ | ⟨h, _⟩
  rotate_left
  · exact absurd hO h
  rcases h2 with ⟨_, rfl, s2, g2⟩ | ⟨h, _⟩
  rotate_left
  · exact absurd hO2 h
  have C := cpC_f1 (n := 15) (a0 := c) (by have := hf.l; omega)
  have mono : ok2 = true → ok = true := fun h => by
    rw [g1.base]
    intro f hf h3
    refine (g2.base.1 h) f hf ⟨h3.1, ?_⟩
    have h4 : f.2 + evS (xs.map Raw.q) f.1 < c.Margin.q := h3.2
    show f.2 + evS (xs.map Raw.q) f.1 < (rawQ (c.Margin.q + fracQ (p : Int) 4)).q
    rw [rawQ_q]
    grind
  cases hk : ok with
  | true => exact cml_con (n := 0) (cml_f4 K rfl O rfl V rfl C ⟨by omega, by omega⟩ ⟨by omega, by omega⟩ hg.B (by omega) (A 9) (A2 9) rfl rfl hk)
  | false =>
    have h3 : ok2 = false := by
      cases h4 : ok2 with
      | false => rfl
      | true => rw [mono h4] at hk; cases hk
    have R := cml_f5 (n := 0) K rfl O rfl V rfl C ⟨by omega, by omega⟩ ⟨by omega, by omega⟩ hg.B (by omega) (A 9) (A2 9) rfl rfl hk
    rw [h3] at R
    exact cml_con R
end Go.Proofs.YtjpoanaoaeaneaaGreatDoor
set_option linter.all false
namespace Go.Proofs.YtjpoanaoaeaneaaGreatDoor
open Go.ChangeShapes Go.WideShapes Go.RowKit Go.Deep
theorem cm_use (w : World) {v0 v1 : Value} {c : TClaimR} {xs : List Raw} {z : Int} {N M : Nat} (hz : (Lit.int .u8 z).wf = true) (r0 : RepT w okT (.agg (claimRC c)) v0) (r1 : RepT w okT (.sl 3 (xs.map rawC)) v1) (k0 : okO_Claim N c) (k1 : okO_LRat M xs) (hM : M ≤ 1048576) (hG : Glob w okT) :
    Calls Tryz.prog 10 #[v0, v1, .int .u8 z] w (RetB true w) :=
  (cm_law (okC_lim k0) (okL_lim k1) (by have := k1.1; omega) (u8_of hz) w okT _ hG (rvs_cons r0 (rvs_cons r1 (rvs_cons (.lit _) rvs_nil)))).mono fun _ _ h => true_end h
end Go.Proofs.YtjpoanaoaeaneaaGreatDoor
