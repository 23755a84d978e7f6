/- relucertlaw34.awake as a row of the table. Walks: relucertlaw34.PhaseOf^. -/
import Derived.Test.YtkakmdadnhjphaaGreatDoorUA
import Derived.Test.YtkakmdadnhjphaaGreatDoorKB
set_option linter.all false
set_option linter.all false
namespace Go.Proofs.YtkakmdadnhjphaaGreatDoor
open Go.RowKit

def awG (args : List AV) : Option AV := match args with | [] => some (.lit (.bool true)) | _ => none
theorem con_awake : ∀ args r, awG args = some r → Con Tryz.prog 13 args r := fun args r hr => by
  unfold awG at hr
  split at hr
  · cases hr
    intro w ok vs hg hv
    have hG := hg 0 _ rfl
    have hcell : w.cell? ⟨0, 3, none⟩ = some (.int .i64 4) := by
      cases hG with
      | mem hm hh =>
        have h1 := (hm 3 _ rfl).2
        have h2 := hh 3 _ rfl
        obtain ⟨u, hu⟩ := Option.isSome_iff_exists.1 h1
        rw [Nat.zero_add] at hu h2
        rw [hu] at h2
        cases h2
        exact hu
    have e : vs = #[] := by
      have := hv.1
      simpa using this
    subst e
    refine (awake_c w hcell (Nat.lt_of_le_of_lt (Nat.zero_le _) (cell_lt hcell))).mono ?_
    rintro e w' ⟨rfl, hb⟩
    exact ⟨_, rfl, .lit _, hb⟩
  · cases hr
end Go.Proofs.YtkakmdadnhjphaaGreatDoor
set_option linter.all false
set_option maxRecDepth 100000
set_option maxHeartbeats 6400000
namespace Go.Proofs.YtkakmdadnhjphaaGreatDoor
open Go.RowKit

/-! relucertlaw34.PhaseOf, level 9 -/
noncomputable def lwT (n : Nat) : FuncId → Option Orc := ext (tab (n + 9)) 13 (.pure awG)
theorem lwT_ok (n : Nat) : OrcOk Tryz.prog (lwT n) := (tab_ok (n + 9)).extP (by kernel_rfl) con_awake
noncomputable def lw (n : Nat) (args : List AV) : Option AV := fnP Tryz.prog (lwT n) (livesOf 3) big (fnOf 3) args
theorem lw_con {n : Nat} {args : List AV} {r : AV} (h : lw n args = some r) : Con Tryz.prog 3 args r :=
  con_of (lwT_ok n) mixed (plain_fn (by kernel_rfl)) (body_some (by kernel_rfl) (plain_fn (by kernel_rfl))) h
theorem lw_aw (n : Nat) : lwT n 13 = some (.pure awG) := by unfold lwT ext; rw [if_pos rfl]
theorem lw_l14 (n : Nat) : lwT n 14 = some (.pure (run (n + 8) 14)) := by unfold lwT ext; rw [if_neg (by decide)]; exact tb_14 _
theorem lw_l15 (n : Nat) : lwT n 15 = some (.pure (run (n + 8) 15)) := by unfold lwT ext; rw [if_neg (by decide)]; exact tb_15 _
theorem lw_l16 (n : Nat) : lwT n 16 = some (.pure (run (n + 8) 16)) := by unfold lwT ext; rw [if_neg (by decide)]; exact tb_16 _
theorem lw_l17 (n : Nat) : lwT n 17 = some (.pure (run (n + 8) 17)) := by unfold lwT ext; rw [if_neg (by decide)]; exact tb_17 _
theorem lw_l18 (n : Nat) : lwT n 18 = some (.pure (run (n + 8) 18)) := by unfold lwT ext; rw [if_neg (by decide)]; exact tb_18 _
noncomputable def lw_C6 : Code := (loopsOf (bodyOf Tryz.f3)).getD 0 .skip
def lw_h6 (a0 : List Int) (a1 : List TLemma) (i_6 : Nat) : St :=
  ⟨[(0, .sl 1 (a0.map intU8C)), (1, .sl 6 (a1.map lemmaC)), (19, .sl 6 (a1.map lemmaC)), (20, .lit (.int .i64 (a1.length : Int))), (21, .lit (.int .i64 (i_6 : Int)))],
   [], 0⟩
def lw_o6a (a0 : List Int) (a1 : List TLemma) : St :=
  ⟨[(0, .sl 1 (a0.map intU8C)), (1, .sl 6 (a1.map lemmaC)), (4, .lit (.bool true))],
   [], 0⟩
def lw_o6b (a0 : List Int) (a1 : List TLemma) : St :=
  ⟨[(0, .sl 1 (a0.map intU8C)), (1, .sl 6 (a1.map lemmaC)), (4, .any)],
   [], 0⟩
theorem lw_r6_1 {n : Nat} {a0 : List Int} {a1 : List TLemma} {i_6 : Nat} {x3 : TLemma} {r3 : Bool} (C1 : (i_6 : Int) < (a1.length : Int)) (E2 : a1[i_6]? = some x3) (K3 : run (n + 8) 14 [.sl 5 [[.lit (.int .i64 0), .lit (.int .i64 0), .lit (.bool x3.Value.s), natA x3.Value.l1, natA x3.Value.l2]]] = some (.lit (.bool r3))) (C4 : r3 = false) (C5 : ¬ 20 < (x3.Proof.length : Int)) (W6 : InI ((i_6 : Int) + 1)) :
    Cont 0 (exec Tryz.prog (lwT n) 0 52 (livesOf 3) big lw_C6) (livesOf 3 6) (lw_h6 a0 a1 i_6) (lw_h6 a0 a1 (i_6 + 1)) := by
  have C1_ : i_6 < a1.length := by omega
  obtain ⟨EL2, EG2⟩ := List.getElem?_eq_some_iff.1 E2
  have C5_ : ¬ 20 < x3.Proof.length := by omega
  have W6_ : IntKind.i64.wrap ((i_6 : Int) + 1) = (i_6 : Int) + 1 := wr64 W6.1 W6.2
  unfold Cont
  simp +decide [lw_h6, loopsOf, Tryz.f3, lw_C6, C1, C1_, EL2, EG2, E2, K3, C4, C5, C5_, W6_, lw_aw, awG, lw_l14, lw_l15, lw_l16, lw_l17, lw_l18]
theorem lw_x6_1 {n : Nat} {a0 : List Int} {a1 : List TLemma} {i_6 : Nat} {x3 : TLemma} {r3 : Bool} (C1 : (i_6 : Int) < (a1.length : Int)) (E2 : a1[i_6]? = some x3) (K3 : run (n + 8) 14 [.sl 5 [[.lit (.int .i64 0), .lit (.int .i64 0), .lit (.bool x3.Value.s), natA x3.Value.l1, natA x3.Value.l2]]] = some (.lit (.bool r3))) (C4 : r3 = true) :
    Leave 0 (exec Tryz.prog (lwT n) 0 52 (livesOf 3) big lw_C6) (livesOf 3 (outOf 6)) (lw_h6 a0 a1 i_6) (.ret) (lw_o6a a0 a1) := by
  have C1_ : i_6 < a1.length := by omega
  obtain ⟨EL2, EG2⟩ := List.getElem?_eq_some_iff.1 E2
  unfold Leave
  simp +decide [lw_h6, loopsOf, Tryz.f3, lw_o6a, lw_C6, C1, C1_, EL2, EG2, E2, K3, C4, lw_aw, awG, lw_l14, lw_l15, lw_l16, lw_l17, lw_l18]
theorem lw_x6_2 {n : Nat} {a0 : List Int} {a1 : List TLemma} {i_6 : Nat} {x3 : TLemma} {r3 : Bool} (C1 : (i_6 : Int) < (a1.length : Int)) (E2 : a1[i_6]? = some x3) (K3 : run (n + 8) 14 [.sl 5 [[.lit (.int .i64 0), .lit (.int .i64 0), .lit (.bool x3.Value.s), natA x3.Value.l1, natA x3.Value.l2]]] = some (.lit (.bool r3))) (C4 : r3 = false) (C5 : 20 < (x3.Proof.length : Int)) :
    Leave 0 (exec Tryz.prog (lwT n) 0 52 (livesOf 3) big lw_C6) (livesOf 3 (outOf 6)) (lw_h6 a0 a1 i_6) (.ret) (lw_o6a a0 a1) := by
  have C1_ : i_6 < a1.length := by omega
  obtain ⟨EL2, EG2⟩ := List.getElem?_eq_some_iff.1 E2
  have C5_ : 20 < x3.Proof.length := by omega
  unfold Leave
  simp +decide [lw_h6, loopsOf, Tryz.f3, lw_o6a, lw_C6, C1, C1_, EL2, EG2, E2, K3, C4, C5, C5_, lw_aw, awG, lw_l14, lw_l15, lw_l16, lw_l17, lw_l18]
theorem lw_x6_3 {n : Nat} {a0 : List Int} {a1 : List TLemma} {i_6 : Nat} (C1 : ¬ (i_6 : Int) < (a1.length : Int)) :
    Leave 0 (exec Tryz.prog (lwT n) 0 52 (livesOf 3) big lw_C6) (livesOf 3 (outOf 6)) (lw_h6 a0 a1 i_6) (.exit 0) (lw_o6b a0 a1) := by
  have C1_ : ¬ i_6 < a1.length := by omega
  unfold Leave
  simp +decide [lw_h6, loopsOf, Tryz.f3, lw_o6b, lw_C6, C1, C1_, lw_aw, awG, lw_l14, lw_l15, lw_l16, lw_l17, lw_l18]
theorem lw_f1 {n : Nat} {a0 : List Int} {a1 : List TLemma} (C1 : 300 < (a0.length : Int)) :
    lw n [.sl 1 (a0.map intU8C), .sl 6 (a1.map lemmaC)] = some (.lit (.bool true)) := by
  have C1_ : 300 < a0.length := by omega
  unfold lw fnP
  simp +decide [Tryz.f3, C1, C1_, lw_aw, awG, lw_l14, lw_l15, lw_l16, lw_l17, lw_l18]
theorem lw_f2 {n : Nat} {a0 : List Int} {a1 : List TLemma} (C1 : ¬ 300 < (a0.length : Int)) (C2 : 20 < (a1.length : Int)) :
    lw n [.sl 1 (a0.map intU8C), .sl 6 (a1.map lemmaC)] = some (.lit (.bool true)) := by
  have C1_ : ¬ 300 < a0.length := by omega
  have C2_ : 20 < a1.length := by omega
  unfold lw fnP
  simp +decide [Tryz.f3, C1, C1_, C2, C2_, lw_aw, awG, lw_l14, lw_l15, lw_l16, lw_l17, lw_l18]
theorem lw_f3 {n : Nat} {a0 : List Int} {a1 : List TLemma} (C1 : ¬ 300 < (a0.length : Int)) (C2 : ¬ 20 < (a1.length : Int)) (L3 : loopG Tryz.prog (lwT n) 0 52 (livesOf 3) 6 lw_C6 (lw_h6 a0 a1 0) = some (.ret, lw_o6a a0 a1)) :
    lw n [.sl 1 (a0.map intU8C), .sl 6 (a1.map lemmaC)] = some (.lit (.bool true)) := by
  have C1_ : ¬ 300 < a0.length := by omega
  have C2_ : ¬ 20 < a1.length := by omega
  unfold lw fnP
  simp +decide [Tryz.f3, C1, C1_, C2, C2_, lw_aw, awG, lw_l14, lw_l15, lw_l16, lw_l17, lw_l18]
  rw [loopX_G (C' := lw_C6) (e := (lw_h6 a0 a1 0)) ?_ ?_, L3]
  rotate_left
  · kernel_rfl
  · simp +decide [lw_h6, C1, C1_, C2, C2_, lw_aw, awG, lw_l14, lw_l15, lw_l16, lw_l17, lw_l18]
  simp +decide [lw_o6a, C1, C1_, C2, C2_, lw_aw, awG, lw_l14, lw_l15, lw_l16, lw_l17, lw_l18]
theorem lw_f4 {n : Nat} {a0 : List Int} {a1 : List TLemma} {r4 : TScope} {r5 : List Int} {r6 : List Int} {r7 : Bool} {r8 : List Int} (C1 : ¬ 300 < (a0.length : Int)) (C2 : ¬ 20 < (a1.length : Int)) (L3 : loopG Tryz.prog (lwT n) 0 52 (livesOf 3) 6 lw_C6 (lw_h6 a0 a1 0) = some (.exit 0, lw_o6b a0 a1)) (K4 : run (n + 8) 15 [.sl 1 (a0.map intU8C)] = some (scopeV r4)) (K5 : run (n + 8) 17 [.agg [.lit (.int .i64 (r4.Query.Graph.Inputs)), .sl 4 (r4.Query.Graph.Units.map formC), .sl 4 (r4.Query.Graph.Outputs.map formC), .sl 3 (r4.Query.Region.Lo.map ratC), .sl 3 (r4.Query.Region.Hi.map ratC), .sl 4 (r4.Query.Region.Rows.map formC), .sl 4 (r4.Query.Goal.1.map termC), .lit (.bool (rawQ r4.Query.Goal.2).s), natA (rawQ r4.Query.Goal.2).l1, natA (rawQ r4.Query.Goal.2).l2, .sl 5 (r4.Path.map decisionC), .sl 6 (a1.map lemmaC)]] = some (.sl 1 (r5.map intI64C))) (K6 : run (n + 8) 18 [.agg [.lit (.int .i64 (r4.Query.Graph.Inputs)), .sl 4 (r4.Query.Graph.Units.map formC), .sl 4 (r4.Query.Graph.Outputs.map formC), .sl 3 (r4.Query.Region.Lo.map ratC), .sl 3 (r4.Query.Region.Hi.map ratC), .sl 4 (r4.Query.Region.Rows.map formC), .sl 4 (r4.Query.Goal.1.map termC), .lit (.bool (rawQ r4.Query.Goal.2).s), natA (rawQ r4.Query.Goal.2).l1, natA (rawQ r4.Query.Goal.2).l2, .sl 5 (r4.Path.map decisionC), .sl 6 (a1.map lemmaC)]] = some (.sl 1 (r6.map intI64C))) (K7 : run (n + 8) 16 [.sl 1 (r5.map intI64C), .sl 1 (r6.map intI64C)] = some (.lit (.bool r7))) (C8 : r7 = true) (K9 : run (n + 8) 17 [.agg [.lit (.int .i64 0), .sl 4 [], .sl 4 [], .sl 3 [], .sl 3 [], .sl 4 [], .sl 4 [], .lit (.bool false), .sl 1 [], .sl 1 [], .sl 5 [], .sl 6 []]] = some (.sl 1 (r8.map intI64C))) :
    lw n [.sl 1 (a0.map intU8C), .sl 6 (a1.map lemmaC)] = some (.lit (.bool (((r8.length : Int) == 0)))) := by
  have C1_ : ¬ 300 < a0.length := by omega
  have C2_ : ¬ 20 < a1.length := by omega
  simp only [scopeV] at K4
  unfold lw fnP
  simp +decide [Tryz.f3, C1, C1_, C2, C2_, K4, K5, K6, K7, C8, K9, lw_aw, awG, lw_l14, lw_l15, lw_l16, lw_l17, lw_l18]
  rw [loopX_G (C' := lw_C6) (e := (lw_h6 a0 a1 0)) ?_ ?_, L3]
  rotate_left
  · kernel_rfl
  · simp +decide [lw_h6, C1, C1_, C2, C2_, K4, K5, K6, K7, C8, K9, lw_aw, awG, lw_l14, lw_l15, lw_l16, lw_l17, lw_l18]
  simp +decide [lw_o6b, C1, C1_, C2, C2_, K4, K5, K6, K7, C8, K9, lw_aw, awG, lw_l14, lw_l15, lw_l16, lw_l17, lw_l18]
end Go.Proofs.YtkakmdadnhjphaaGreatDoor
