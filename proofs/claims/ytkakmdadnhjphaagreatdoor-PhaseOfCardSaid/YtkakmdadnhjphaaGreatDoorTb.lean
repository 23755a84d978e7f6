/- The table of callees: live slots, modes. -/
import Derived.Test.YtkakmdadnhjphaaGreatDoorCA
import Derived.Test.YtkakmdadnhjphaaGreatDoorQ3
set_option linter.all false
set_option linter.all false
set_option maxRecDepth 100000
namespace Go.Proofs.YtkakmdadnhjphaaGreatDoor
open Go.RowKit
def livesT : List (Nat × List (Nat × List Nat)) := [(3, [(6, [0, 1, 19, 20, 21]), (1000006, [0, 1, 4])]), (14, [(4, [8, 9, 10]), (1000004, [2])]), (15, [(4, [2, 3, 4, 5, ph 4 10 34 5]), (1000004, [2, 4])]), (16, [(4, [0, 1, 5]), (1000004, [4])]), (17, [(5, [1, 3, 16, 17]), (1000005, [3])]), (18, [(5, [1, 3, 4]), (1000005, [3])]), (36, [(2, [1, 2, 5]), (1000002, [2, 4])]), (57, [(4, [0, 1, 18, 19, 20]), (15, [0, 8, 48, 49]), (1000004, [0, 1, 4, 5]), (1000015, [8])]), (63, [(2, [1, 2, 3, 7]), (1000002, [6])]), (89, [(3, [2, 3, 4, 5, 6, ph 5 0 119 4]), (1000003, [4, 5])]), (98, [(3, [3, 4, 5, 6]), (1000003, [4, 5])]), (115, [(2, [1, 2, 8, 9, 10]), (1000002, [2, 4])]), (139, [(3, [3, 7, 8, 9]), (1000003, [2])]), (144, [(4, [0, 2, 3, 4, 5, 6, ph 3 1 43 4]), (8, [0, 2, 3, 4, 5, 7, ph 3 2 43 4]), (1000004, [0, 2, 3, 4, 5]), (1000008, [2, 3])]), (145, [(3, [0, 1, 4, 5, 6, ph 5 0 28 3, ph 5 1 28 3]), (9, [0, 1, 4, 5, 9, ph 5 2 43 4]), (1000003, [0, 1, 4, 5]), (1000009, [4, 5])]), (146, [(3, [0, 1, 4, 5, 6, ph 5 0 0 0]), (1000003, [4, 5])]), (148, [(4, [1, 32, 33, 34]), (1000004, [1, 2])]), (149, [(4, [2, 3, 34, 35, 36]), (1000004, [2, 3, 4])]), (150, [(3, [1, 2, 6, 7, 11, 12, 13]), (1000003, [6, 7])]), (152, [(4, [1, 3]), (1000004, [1, 2])]), (153, [(6, [1, 2, 5]), (1000006, [4])]), (183, [(4, [1, 3, 5, 6, 7, 8, 9]), (1000004, [1, 3, 5, 6, 7, 8])]), (211, [(3, [0, 3, 4]), (7, [3, 4, 5, 8, 26]), (12, [3]), (1000003, [3]), (1000007, [3, 4, 5]), (1000012, [3])]), (220, [(2, [0, 1, 7, 8]), (1000002, [4])]), (225, [(2, [0, 1, 5]), (1000002, [4])]), (226, [(2, [0, 3]), (1000002, [2])]), (227, [(3, [1, 2, 6, 7, 8]), (1000003, [6, 7])]), (240, [(13, [9, 10, 11, 12, 13]), (1000013, [9, 10, 12])]), (241, [(2, [0, 3]), (1000002, [0, 3])]), (248, [(7, [0, 1, 5]), (1000007, [4])]), (254, [(6, [4, 12, 13, 14]), (1000006, [4])]), (255, [(1, [0, 2, 3]), (1000001, [])]), (270, [(2, [0, 1, 7, 8]), (1000002, [4])]), (279, [(4, [0, 1, 6, 7, 8]), (1000004, [6, 7])]), (281, [(3, [1, 5, 13, 14, 15]), (1000003, [5])]), (282, [(3, [0, 1, 2, 7, 8, 15, 16, 17]), (17, [0, 1, 2, 7, 70, 71, 72]), (1000003, [0, 1, 2, 7, 8]), (1000017, [0, 1, 2, 7])]), (283, [(4, [0, 1, 5, 7, 8]), (1000004, [7])]), (284, [(9, [0, 1, 6, 30, 31, 32]), (1000009, [6])]), (288, [(1, [0, 1, 4]), (1000001, [0, 1, 4])]), (289, [(11, [0, 1, 3, 4, 10, 11, 12, 13, 14, 15, 16]), (18, [0, 1, 3, 4, 10, 11, 12, 13, 17]), (1000011, [0, 1, 3, 4, 10, 11, 12, 13]), (1000018, [0, 1, 3, 4, 10, 11, 12, 13])])]
def livesOf (f : FuncId) : Nat → List Nat := lv ((livesT.lookup f).getD [])
def modesT : List (Nat × (List Bool × Bool)) := [(59, ([], true)), (60, ([true], false)), (61, ([true, false], false)), (62, ([true], false)), (144, ([true], false)), (145, ([true, false], false)), (146, ([true, false], false)), (179, ([true, false], true)), (255, ([true], false)), (282, ([true, false, false], false)), (288, ([true, false], false)), (289, ([true, false, false, false, false], true))]
noncomputable def fnOf (f : FuncId) : Func := (Tryz.prog.funcs[f]?).getD default
def keepOf (f : FuncId) : Bool := ((modesT.lookup f).getD ([], false)).2
noncomputable def tab : Nat → FuncId → Option Orc
  | 0, f => orc0 f
  | n + 1, f => match orc0 f with
    | some x => some x
    | none => match plainF Tryz.prog f with
      | true => (match modesT.lookup f with
        | some (ms, k) => some (.lin ms (fnL Tryz.prog (tab n) (livesOf f) big (fnOf f) (keepOf f)))
        | none => some (.pure (fnP Tryz.prog (tab n) (livesOf f) big (fnOf f))))
      | false => none
theorem plain_fn {f : FuncId} (h : plainF Tryz.prog f = true) : Tryz.prog.funcs[f]? = some (fnOf f) := by
  unfold plainF at h
  unfold fnOf
  split at h
  · rename_i fn hf; rw [hf]; rfl
  · cases h
theorem tab_ok : ∀ n, OrcOk Tryz.prog (tab n)
  | 0 => orc0_ok
  | n + 1 => by
    have key : ∀ f x, tab (n + 1) f = some x → (orc0 f = some x) ∨ (plainF Tryz.prog f = true ∧ ((∃ (ms : List Bool) (k : Bool), x = .lin ms (fnL Tryz.prog (tab n) (livesOf f) big (fnOf f) (keepOf f))) ∨ x = .pure (fnP Tryz.prog (tab n) (livesOf f) big (fnOf f)))) := fun f x h => by
      unfold tab at h
      split at h
      · rename_i y hy; cases h; exact .inl hy
      · split at h
        · rename_i hp
          split at h
          · cases h; exact .inr ⟨hp, .inl ⟨_, false, rfl⟩⟩
          · cases h; exact .inr ⟨hp, .inr rfl⟩
        · cases h
    refine ⟨fun f g h => ?_, fun f ms g h => ?_⟩
    · rcases key f _ h with h | ⟨hp, ⟨ms, k, h⟩ | h⟩
      · exact orc0_ok.pure f g h
      · cases h
      · cases h
        exact ⟨hp, fun args r hr => con_of (tab_ok n) mixed (plain_fn hp) (body_some hp (plain_fn hp)) hr⟩
    · rcases key f _ h with h | ⟨hp, ⟨ms, k, h⟩ | h⟩
      · exact orc0_ok.lin f ms g h
      · cases h
        exact ⟨hp, fun bin args r outs hr => conL_of (tab_ok n) mixed (plain_fn hp) (body_some hp (plain_fn hp)) hr⟩
      · cases h
/-- a function run abstractly, with n levels of calls below it -/
noncomputable def run (n : Nat) (f : FuncId) (args : List AV) : Option AV := fnP Tryz.prog (tab n) (livesOf f) big (fnOf f) args
noncomputable def runL (n : Nat) (f : FuncId) (args : List AV) (bin : List AB) : Option (AV × List (Nat × AB)) := fnL Tryz.prog (tab n) (livesOf f) big (fnOf f) (keepOf f) args bin
/-- a callee of the table, by its mode -/
theorem tab_pure {n : Nat} {f : FuncId} (h0 : orc0 f = none) (hp : plainF Tryz.prog f = true) (hm : modesT.lookup f = none) : tab (n + 1) f = some (.pure (run n f)) := by
  unfold tab
  rw [h0]
  simp only [hp, hm]
  rfl
theorem tab_lin {n : Nat} {f : FuncId} {ms : List Bool} {k : Bool} (h0 : orc0 f = none) (hp : plainF Tryz.prog f = true) (hm : modesT.lookup f = some (ms, k)) : tab (n + 1) f = some (.lin ms (runL n f)) := by
  unfold tab
  rw [h0]
  simp only [hp, hm]
  rfl
theorem tab_num {f : FuncId} {x : Orc} (h : orc0 f = some x) : ∀ n, tab n f = some x
  | 0 => h
  | n + 1 => by unfold tab; rw [h]
@[simp] theorem fn_3 : fnOf 3 = Tryz.f3 := by kernel_rfl
@[simp] theorem lv_3_6 : livesOf 3 6 = [0, 1, 19, 20, 21] := by kernel_rfl
@[simp] theorem lv_3_1000006 : livesOf 3 1000006 = [0, 1, 4] := by kernel_rfl
@[simp] theorem tb_3 (n : Nat) : tab (n + 1) 3 = some (.pure (run n 3)) := tab_pure (by kernel_rfl) (by kernel_rfl) (by kernel_rfl)
@[simp] theorem fn_13 : fnOf 13 = Tryz.f13 := by kernel_rfl
@[simp] theorem tb_13 (n : Nat) : tab (n + 1) 13 = some (.pure (run n 13)) := tab_pure (by kernel_rfl) (by kernel_rfl) (by kernel_rfl)
@[simp] theorem fn_14 : fnOf 14 = Tryz.f14 := by kernel_rfl
@[simp] theorem lv_14_4 : livesOf 14 4 = [8, 9, 10] := by kernel_rfl
@[simp] theorem lv_14_1000004 : livesOf 14 1000004 = [2] := by kernel_rfl
@[simp] theorem tb_14 (n : Nat) : tab (n + 1) 14 = some (.pure (run n 14)) := tab_pure (by kernel_rfl) (by kernel_rfl) (by kernel_rfl)
@[simp] theorem fn_15 : fnOf 15 = Tryz.f15 := by kernel_rfl
@[simp] theorem lv_15_4 : livesOf 15 4 = [2, 3, 4, 5, ph 4 10 34 5] := by kernel_rfl
@[simp] theorem lv_15_1000004 : livesOf 15 1000004 = [2, 4] := by kernel_rfl
@[simp] theorem tb_15 (n : Nat) : tab (n + 1) 15 = some (.pure (run n 15)) := tab_pure (by kernel_rfl) (by kernel_rfl) (by kernel_rfl)
@[simp] theorem fn_16 : fnOf 16 = Tryz.f16 := by kernel_rfl
@[simp] theorem lv_16_4 : livesOf 16 4 = [0, 1, 5] := by kernel_rfl
@[simp] theorem lv_16_1000004 : livesOf 16 1000004 = [4] := by kernel_rfl
@[simp] theorem tb_16 (n : Nat) : tab (n + 1) 16 = some (.pure (run n 16)) := tab_pure (by kernel_rfl) (by kernel_rfl) (by kernel_rfl)
@[simp] theorem fn_17 : fnOf 17 = Tryz.f17 := by kernel_rfl
@[simp] theorem lv_17_5 : livesOf 17 5 = [1, 3, 16, 17] := by kernel_rfl
@[simp] theorem lv_17_1000005 : livesOf 17 1000005 = [3] := by kernel_rfl
@[simp] theorem tb_17 (n : Nat) : tab (n + 1) 17 = some (.pure (run n 17)) := tab_pure (by kernel_rfl) (by kernel_rfl) (by kernel_rfl)
@[simp] theorem fn_18 : fnOf 18 = Tryz.f18 := by kernel_rfl
@[simp] theorem lv_18_5 : livesOf 18 5 = [1, 3, 4] := by kernel_rfl
@[simp] theorem lv_18_1000005 : livesOf 18 1000005 = [3] := by kernel_rfl
@[simp] theorem tb_18 (n : Nat) : tab (n + 1) 18 = some (.pure (run n 18)) := tab_pure (by kernel_rfl) (by kernel_rfl) (by kernel_rfl)
@[simp] theorem fn_36 : fnOf 36 = Tryz.f36 := by kernel_rfl
@[simp] theorem lv_36_2 : livesOf 36 2 = [1, 2, 5] := by kernel_rfl
@[simp] theorem lv_36_1000002 : livesOf 36 1000002 = [2, 4] := by kernel_rfl
@[simp] theorem tb_36 (n : Nat) : tab (n + 1) 36 = some (.pure (run n 36)) := tab_pure (by kernel_rfl) (by kernel_rfl) (by kernel_rfl)
@[simp] theorem fn_49 : fnOf 49 = Tryz.f49 := by kernel_rfl
@[simp] theorem tb_49 (n : Nat) : tab (n + 1) 49 = some (.pure (run n 49)) := tab_pure (by kernel_rfl) (by kernel_rfl) (by kernel_rfl)
@[simp] theorem fn_56 : fnOf 56 = Tryz.f56 := by kernel_rfl
@[simp] theorem tb_56 (n : Nat) : tab (n + 1) 56 = some (.pure (run n 56)) := tab_pure (by kernel_rfl) (by kernel_rfl) (by kernel_rfl)
@[simp] theorem fn_57 : fnOf 57 = Tryz.f57 := by kernel_rfl
@[simp] theorem lv_57_4 : livesOf 57 4 = [0, 1, 18, 19, 20] := by kernel_rfl
@[simp] theorem lv_57_15 : livesOf 57 15 = [0, 8, 48, 49] := by kernel_rfl
@[simp] theorem lv_57_1000004 : livesOf 57 1000004 = [0, 1, 4, 5] := by kernel_rfl
@[simp] theorem lv_57_1000015 : livesOf 57 1000015 = [8] := by kernel_rfl
@[simp] theorem tb_57 (n : Nat) : tab (n + 1) 57 = some (.pure (run n 57)) := tab_pure (by kernel_rfl) (by kernel_rfl) (by kernel_rfl)
@[simp] theorem fn_58 : fnOf 58 = Tryz.f58 := by kernel_rfl
@[simp] theorem tb_58 (n : Nat) : tab (n + 1) 58 = some (.pure (run n 58)) := tab_pure (by kernel_rfl) (by kernel_rfl) (by kernel_rfl)
@[simp] theorem fn_59 : fnOf 59 = Tryz.f59 := by kernel_rfl
@[simp] theorem tb_59 (n : Nat) : tab (n + 1) 59 = some (.lin [] (runL n 59)) := tab_lin (k := true) (by kernel_rfl) (by kernel_rfl) (by kernel_rfl)
@[simp] theorem kp_59 : keepOf 59 = true := by kernel_rfl
@[simp] theorem fn_60 : fnOf 60 = Tryz.f60 := by kernel_rfl
@[simp] theorem tb_60 (n : Nat) : tab (n + 1) 60 = some (.lin [true] (runL n 60)) := tab_lin (k := false) (by kernel_rfl) (by kernel_rfl) (by kernel_rfl)
@[simp] theorem kp_60 : keepOf 60 = false := by kernel_rfl
@[simp] theorem fn_61 : fnOf 61 = Tryz.f61 := by kernel_rfl
@[simp] theorem tb_61 (n : Nat) : tab (n + 1) 61 = some (.lin [true, false] (runL n 61)) := tab_lin (k := false) (by kernel_rfl) (by kernel_rfl) (by kernel_rfl)
@[simp] theorem kp_61 : keepOf 61 = false := by kernel_rfl
@[simp] theorem fn_62 : fnOf 62 = Tryz.f62 := by kernel_rfl
@[simp] theorem tb_62 (n : Nat) : tab (n + 1) 62 = some (.lin [true] (runL n 62)) := tab_lin (k := false) (by kernel_rfl) (by kernel_rfl) (by kernel_rfl)
@[simp] theorem kp_62 : keepOf 62 = false := by kernel_rfl
@[simp] theorem fn_63 : fnOf 63 = Tryz.f63 := by kernel_rfl
@[simp] theorem lv_63_2 : livesOf 63 2 = [1, 2, 3, 7] := by kernel_rfl
@[simp] theorem lv_63_1000002 : livesOf 63 1000002 = [6] := by kernel_rfl
@[simp] theorem tb_63 (n : Nat) : tab (n + 1) 63 = some (.pure (run n 63)) := tab_pure (by kernel_rfl) (by kernel_rfl) (by kernel_rfl)
@[simp] theorem fn_64 : fnOf 64 = Tryz.f64 := by kernel_rfl
@[simp] theorem tb_64 (n : Nat) : tab (n + 1) 64 = some (.pure (run n 64)) := tab_pure (by kernel_rfl) (by kernel_rfl) (by kernel_rfl)
@[simp] theorem fn_65 : fnOf 65 = Tryz.f65 := by kernel_rfl
@[simp] theorem tb_65 (n : Nat) : tab (n + 1) 65 = some (.pure (run n 65)) := tab_pure (by kernel_rfl) (by kernel_rfl) (by kernel_rfl)
@[simp] theorem fn_66 : fnOf 66 = Tryz.f66 := by kernel_rfl
@[simp] theorem tb_66 (n : Nat) : tab (n + 1) 66 = some (.pure (run n 66)) := tab_pure (by kernel_rfl) (by kernel_rfl) (by kernel_rfl)
@[simp] theorem fn_67 : fnOf 67 = Tryz.f67 := by kernel_rfl
@[simp] theorem tb_67 (n : Nat) : tab (n + 1) 67 = some (.pure (run n 67)) := tab_pure (by kernel_rfl) (by kernel_rfl) (by kernel_rfl)
@[simp] theorem fn_89 : fnOf 89 = Tryz.f89 := by kernel_rfl
@[simp] theorem lv_89_3 : livesOf 89 3 = [2, 3, 4, 5, 6, ph 5 0 119 4] := by kernel_rfl
@[simp] theorem lv_89_1000003 : livesOf 89 1000003 = [4, 5] := by kernel_rfl
@[simp] theorem tb_89 (n : Nat) : tab (n + 1) 89 = some (.pure (run n 89)) := tab_pure (by kernel_rfl) (by kernel_rfl) (by kernel_rfl)
@[simp] theorem fn_98 : fnOf 98 = Tryz.f98 := by kernel_rfl
@[simp] theorem lv_98_3 : livesOf 98 3 = [3, 4, 5, 6] := by kernel_rfl
@[simp] theorem lv_98_1000003 : livesOf 98 1000003 = [4, 5] := by kernel_rfl
@[simp] theorem tb_98 (n : Nat) : tab (n + 1) 98 = some (.pure (run n 98)) := tab_pure (by kernel_rfl) (by kernel_rfl) (by kernel_rfl)
@[simp] theorem fn_110 : fnOf 110 = Tryz.f110 := by kernel_rfl
@[simp] theorem tb_110 (n : Nat) : tab (n + 1) 110 = some (.pure (run n 110)) := tab_pure (by kernel_rfl) (by kernel_rfl) (by kernel_rfl)
@[simp] theorem fn_115 : fnOf 115 = Tryz.f115 := by kernel_rfl
@[simp] theorem lv_115_2 : livesOf 115 2 = [1, 2, 8, 9, 10] := by kernel_rfl
@[simp] theorem lv_115_1000002 : livesOf 115 1000002 = [2, 4] := by kernel_rfl
@[simp] theorem tb_115 (n : Nat) : tab (n + 1) 115 = some (.pure (run n 115)) := tab_pure (by kernel_rfl) (by kernel_rfl) (by kernel_rfl)
@[simp] theorem fn_128 : fnOf 128 = Tryz.f128 := by kernel_rfl
@[simp] theorem tb_128 (n : Nat) : tab (n + 1) 128 = some (.pure (run n 128)) := tab_pure (by kernel_rfl) (by kernel_rfl) (by kernel_rfl)
@[simp] theorem fn_129 : fnOf 129 = Tryz.f129 := by kernel_rfl
@[simp] theorem tb_129 (n : Nat) : tab (n + 1) 129 = some (.pure (run n 129)) := tab_pure (by kernel_rfl) (by kernel_rfl) (by kernel_rfl)
@[simp] theorem fn_130 : fnOf 130 = Tryz.f130 := by kernel_rfl
@[simp] theorem tb_130 (n : Nat) : tab (n + 1) 130 = some (.pure (run n 130)) := tab_pure (by kernel_rfl) (by kernel_rfl) (by kernel_rfl)
@[simp] theorem fn_138 : fnOf 138 = Tryz.f138 := by kernel_rfl
@[simp] theorem tb_138 (n : Nat) : tab (n + 1) 138 = some (.pure (run n 138)) := tab_pure (by kernel_rfl) (by kernel_rfl) (by kernel_rfl)
@[simp] theorem fn_139 : fnOf 139 = Tryz.f139 := by kernel_rfl
@[simp] theorem lv_139_3 : livesOf 139 3 = [3, 7, 8, 9] := by kernel_rfl
@[simp] theorem lv_139_1000003 : livesOf 139 1000003 = [2] := by kernel_rfl
@[simp] theorem tb_139 (n : Nat) : tab (n + 1) 139 = some (.pure (run n 139)) := tab_pure (by kernel_rfl) (by kernel_rfl) (by kernel_rfl)
@[simp] theorem fn_140 : fnOf 140 = Tryz.f140 := by kernel_rfl
@[simp] theorem tb_140 (n : Nat) : tab (n + 1) 140 = some (.pure (run n 140)) := tab_pure (by kernel_rfl) (by kernel_rfl) (by kernel_rfl)
@[simp] theorem fn_141 : fnOf 141 = Tryz.f141 := by kernel_rfl
@[simp] theorem tb_141 (n : Nat) : tab (n + 1) 141 = some (.pure (run n 141)) := tab_pure (by kernel_rfl) (by kernel_rfl) (by kernel_rfl)
@[simp] theorem fn_142 : fnOf 142 = Tryz.f142 := by kernel_rfl
@[simp] theorem tb_142 (n : Nat) : tab (n + 1) 142 = some (.pure (run n 142)) := tab_pure (by kernel_rfl) (by kernel_rfl) (by kernel_rfl)
@[simp] theorem fn_143 : fnOf 143 = Tryz.f143 := by kernel_rfl
@[simp] theorem tb_143 (n : Nat) : tab (n + 1) 143 = some (.pure (run n 143)) := tab_pure (by kernel_rfl) (by kernel_rfl) (by kernel_rfl)
@[simp] theorem fn_144 : fnOf 144 = Tryz.f144 := by kernel_rfl
@[simp] theorem lv_144_4 : livesOf 144 4 = [0, 2, 3, 4, 5, 6, ph 3 1 43 4] := by kernel_rfl
@[simp] theorem lv_144_8 : livesOf 144 8 = [0, 2, 3, 4, 5, 7, ph 3 2 43 4] := by kernel_rfl
@[simp] theorem lv_144_1000004 : livesOf 144 1000004 = [0, 2, 3, 4, 5] := by kernel_rfl
@[simp] theorem lv_144_1000008 : livesOf 144 1000008 = [2, 3] := by kernel_rfl
@[simp] theorem tb_144 (n : Nat) : tab (n + 1) 144 = some (.lin [true] (runL n 144)) := tab_lin (k := false) (by kernel_rfl) (by kernel_rfl) (by kernel_rfl)
@[simp] theorem kp_144 : keepOf 144 = false := by kernel_rfl
@[simp] theorem fn_145 : fnOf 145 = Tryz.f145 := by kernel_rfl
@[simp] theorem lv_145_3 : livesOf 145 3 = [0, 1, 4, 5, 6, ph 5 0 28 3, ph 5 1 28 3] := by kernel_rfl
@[simp] theorem lv_145_9 : livesOf 145 9 = [0, 1, 4, 5, 9, ph 5 2 43 4] := by kernel_rfl
@[simp] theorem lv_145_1000003 : livesOf 145 1000003 = [0, 1, 4, 5] := by kernel_rfl
@[simp] theorem lv_145_1000009 : livesOf 145 1000009 = [4, 5] := by kernel_rfl
@[simp] theorem tb_145 (n : Nat) : tab (n + 1) 145 = some (.lin [true, false] (runL n 145)) := tab_lin (k := false) (by kernel_rfl) (by kernel_rfl) (by kernel_rfl)
@[simp] theorem kp_145 : keepOf 145 = false := by kernel_rfl
@[simp] theorem fn_146 : fnOf 146 = Tryz.f146 := by kernel_rfl
@[simp] theorem lv_146_3 : livesOf 146 3 = [0, 1, 4, 5, 6, ph 5 0 0 0] := by kernel_rfl
@[simp] theorem lv_146_1000003 : livesOf 146 1000003 = [4, 5] := by kernel_rfl
@[simp] theorem tb_146 (n : Nat) : tab (n + 1) 146 = some (.lin [true, false] (runL n 146)) := tab_lin (k := false) (by kernel_rfl) (by kernel_rfl) (by kernel_rfl)
@[simp] theorem kp_146 : keepOf 146 = false := by kernel_rfl
@[simp] theorem fn_147 : fnOf 147 = Tryz.f147 := by kernel_rfl
@[simp] theorem tb_147 (n : Nat) : tab (n + 1) 147 = some (.pure (run n 147)) := tab_pure (by kernel_rfl) (by kernel_rfl) (by kernel_rfl)
@[simp] theorem fn_148 : fnOf 148 = Tryz.f148 := by kernel_rfl
@[simp] theorem lv_148_4 : livesOf 148 4 = [1, 32, 33, 34] := by kernel_rfl
@[simp] theorem lv_148_1000004 : livesOf 148 1000004 = [1, 2] := by kernel_rfl
@[simp] theorem tb_148 (n : Nat) : tab (n + 1) 148 = some (.pure (run n 148)) := tab_pure (by kernel_rfl) (by kernel_rfl) (by kernel_rfl)
@[simp] theorem fn_149 : fnOf 149 = Tryz.f149 := by kernel_rfl
@[simp] theorem lv_149_4 : livesOf 149 4 = [2, 3, 34, 35, 36] := by kernel_rfl
@[simp] theorem lv_149_1000004 : livesOf 149 1000004 = [2, 3, 4] := by kernel_rfl
@[simp] theorem tb_149 (n : Nat) : tab (n + 1) 149 = some (.pure (run n 149)) := tab_pure (by kernel_rfl) (by kernel_rfl) (by kernel_rfl)
@[simp] theorem fn_150 : fnOf 150 = Tryz.f150 := by kernel_rfl
@[simp] theorem lv_150_3 : livesOf 150 3 = [1, 2, 6, 7, 11, 12, 13] := by kernel_rfl
@[simp] theorem lv_150_1000003 : livesOf 150 1000003 = [6, 7] := by kernel_rfl
@[simp] theorem tb_150 (n : Nat) : tab (n + 1) 150 = some (.pure (run n 150)) := tab_pure (by kernel_rfl) (by kernel_rfl) (by kernel_rfl)
@[simp] theorem fn_151 : fnOf 151 = Tryz.f151 := by kernel_rfl
@[simp] theorem tb_151 (n : Nat) : tab (n + 1) 151 = some (.pure (run n 151)) := tab_pure (by kernel_rfl) (by kernel_rfl) (by kernel_rfl)
@[simp] theorem fn_152 : fnOf 152 = Tryz.f152 := by kernel_rfl
@[simp] theorem lv_152_4 : livesOf 152 4 = [1, 3] := by kernel_rfl
@[simp] theorem lv_152_1000004 : livesOf 152 1000004 = [1, 2] := by kernel_rfl
@[simp] theorem tb_152 (n : Nat) : tab (n + 1) 152 = some (.pure (run n 152)) := tab_pure (by kernel_rfl) (by kernel_rfl) (by kernel_rfl)
@[simp] theorem fn_153 : fnOf 153 = Tryz.f153 := by kernel_rfl
@[simp] theorem lv_153_6 : livesOf 153 6 = [1, 2, 5] := by kernel_rfl
@[simp] theorem lv_153_1000006 : livesOf 153 1000006 = [4] := by kernel_rfl
@[simp] theorem tb_153 (n : Nat) : tab (n + 1) 153 = some (.pure (run n 153)) := tab_pure (by kernel_rfl) (by kernel_rfl) (by kernel_rfl)
@[simp] theorem fn_154 : fnOf 154 = Tryz.f154 := by kernel_rfl
@[simp] theorem tb_154 (n : Nat) : tab (n + 1) 154 = some (.pure (run n 154)) := tab_pure (by kernel_rfl) (by kernel_rfl) (by kernel_rfl)
@[simp] theorem fn_155 : fnOf 155 = Tryz.f155 := by kernel_rfl
@[simp] theorem tb_155 (n : Nat) : tab (n + 1) 155 = some (.pure (run n 155)) := tab_pure (by kernel_rfl) (by kernel_rfl) (by kernel_rfl)
@[simp] theorem fn_179 : fnOf 179 = Tryz.f179 := by kernel_rfl
@[simp] theorem tb_179 (n : Nat) : tab (n + 1) 179 = some (.lin [true, false] (runL n 179)) := tab_lin (k := true) (by kernel_rfl) (by kernel_rfl) (by kernel_rfl)
@[simp] theorem kp_179 : keepOf 179 = true := by kernel_rfl
@[simp] theorem fn_183 : fnOf 183 = Tryz.f183 := by kernel_rfl
@[simp] theorem lv_183_4 : livesOf 183 4 = [1, 3, 5, 6, 7, 8, 9] := by kernel_rfl
@[simp] theorem lv_183_1000004 : livesOf 183 1000004 = [1, 3, 5, 6, 7, 8] := by kernel_rfl
@[simp] theorem tb_183 (n : Nat) : tab (n + 1) 183 = some (.pure (run n 183)) := tab_pure (by kernel_rfl) (by kernel_rfl) (by kernel_rfl)
@[simp] theorem fn_209 : fnOf 209 = Tryz.f209 := by kernel_rfl
@[simp] theorem tb_209 (n : Nat) : tab (n + 1) 209 = some (.pure (run n 209)) := tab_pure (by kernel_rfl) (by kernel_rfl) (by kernel_rfl)
@[simp] theorem fn_210 : fnOf 210 = Tryz.f210 := by kernel_rfl
@[simp] theorem tb_210 (n : Nat) : tab (n + 1) 210 = some (.pure (run n 210)) := tab_pure (by kernel_rfl) (by kernel_rfl) (by kernel_rfl)
@[simp] theorem fn_211 : fnOf 211 = Tryz.f211 := by kernel_rfl
@[simp] theorem lv_211_3 : livesOf 211 3 = [0, 3, 4] := by kernel_rfl
@[simp] theorem lv_211_7 : livesOf 211 7 = [3, 4, 5, 8, 26] := by kernel_rfl
@[simp] theorem lv_211_12 : livesOf 211 12 = [3] := by kernel_rfl
@[simp] theorem lv_211_1000003 : livesOf 211 1000003 = [3] := by kernel_rfl
@[simp] theorem lv_211_1000007 : livesOf 211 1000007 = [3, 4, 5] := by kernel_rfl
@[simp] theorem lv_211_1000012 : livesOf 211 1000012 = [3] := by kernel_rfl
@[simp] theorem tb_211 (n : Nat) : tab (n + 1) 211 = some (.pure (run n 211)) := tab_pure (by kernel_rfl) (by kernel_rfl) (by kernel_rfl)
@[simp] theorem fn_220 : fnOf 220 = Tryz.f220 := by kernel_rfl
@[simp] theorem lv_220_2 : livesOf 220 2 = [0, 1, 7, 8] := by kernel_rfl
@[simp] theorem lv_220_1000002 : livesOf 220 1000002 = [4] := by kernel_rfl
@[simp] theorem tb_220 (n : Nat) : tab (n + 1) 220 = some (.pure (run n 220)) := tab_pure (by kernel_rfl) (by kernel_rfl) (by kernel_rfl)
@[simp] theorem fn_221 : fnOf 221 = Tryz.f221 := by kernel_rfl
@[simp] theorem tb_221 (n : Nat) : tab (n + 1) 221 = some (.pure (run n 221)) := tab_pure (by kernel_rfl) (by kernel_rfl) (by kernel_rfl)
@[simp] theorem fn_222 : fnOf 222 = Tryz.f222 := by kernel_rfl
@[simp] theorem tb_222 (n : Nat) : tab (n + 1) 222 = some (.pure (run n 222)) := tab_pure (by kernel_rfl) (by kernel_rfl) (by kernel_rfl)
@[simp] theorem fn_223 : fnOf 223 = Tryz.f223 := by kernel_rfl
@[simp] theorem tb_223 (n : Nat) : tab (n + 1) 223 = some (.pure (run n 223)) := tab_pure (by kernel_rfl) (by kernel_rfl) (by kernel_rfl)
@[simp] theorem fn_224 : fnOf 224 = Tryz.f224 := by kernel_rfl
@[simp] theorem tb_224 (n : Nat) : tab (n + 1) 224 = some (.pure (run n 224)) := tab_pure (by kernel_rfl) (by kernel_rfl) (by kernel_rfl)
@[simp] theorem fn_225 : fnOf 225 = Tryz.f225 := by kernel_rfl
@[simp] theorem lv_225_2 : livesOf 225 2 = [0, 1, 5] := by kernel_rfl
@[simp] theorem lv_225_1000002 : livesOf 225 1000002 = [4] := by kernel_rfl
@[simp] theorem tb_225 (n : Nat) : tab (n + 1) 225 = some (.pure (run n 225)) := tab_pure (by kernel_rfl) (by kernel_rfl) (by kernel_rfl)
@[simp] theorem fn_226 : fnOf 226 = Tryz.f226 := by kernel_rfl
@[simp] theorem lv_226_2 : livesOf 226 2 = [0, 3] := by kernel_rfl
@[simp] theorem lv_226_1000002 : livesOf 226 1000002 = [2] := by kernel_rfl
@[simp] theorem tb_226 (n : Nat) : tab (n + 1) 226 = some (.pure (run n 226)) := tab_pure (by kernel_rfl) (by kernel_rfl) (by kernel_rfl)
@[simp] theorem fn_227 : fnOf 227 = Tryz.f227 := by kernel_rfl
@[simp] theorem lv_227_3 : livesOf 227 3 = [1, 2, 6, 7, 8] := by kernel_rfl
@[simp] theorem lv_227_1000003 : livesOf 227 1000003 = [6, 7] := by kernel_rfl
@[simp] theorem tb_227 (n : Nat) : tab (n + 1) 227 = some (.pure (run n 227)) := tab_pure (by kernel_rfl) (by kernel_rfl) (by kernel_rfl)
@[simp] theorem fn_234 : fnOf 234 = Tryz.f234 := by kernel_rfl
@[simp] theorem tb_234 (n : Nat) : tab (n + 1) 234 = some (.pure (run n 234)) := tab_pure (by kernel_rfl) (by kernel_rfl) (by kernel_rfl)
@[simp] theorem fn_235 : fnOf 235 = Tryz.f235 := by kernel_rfl
@[simp] theorem tb_235 (n : Nat) : tab (n + 1) 235 = some (.pure (run n 235)) := tab_pure (by kernel_rfl) (by kernel_rfl) (by kernel_rfl)
@[simp] theorem fn_237 : fnOf 237 = Tryz.f237 := by kernel_rfl
@[simp] theorem tb_237 (n : Nat) : tab (n + 1) 237 = some (.pure (run n 237)) := tab_pure (by kernel_rfl) (by kernel_rfl) (by kernel_rfl)
@[simp] theorem fn_240 : fnOf 240 = Tryz.f240 := by kernel_rfl
@[simp] theorem lv_240_13 : livesOf 240 13 = [9, 10, 11, 12, 13] := by kernel_rfl
@[simp] theorem lv_240_1000013 : livesOf 240 1000013 = [9, 10, 12] := by kernel_rfl
@[simp] theorem tb_240 (n : Nat) : tab (n + 1) 240 = some (.pure (run n 240)) := tab_pure (by kernel_rfl) (by kernel_rfl) (by kernel_rfl)
@[simp] theorem fn_241 : fnOf 241 = Tryz.f241 := by kernel_rfl
@[simp] theorem lv_241_2 : livesOf 241 2 = [0, 3] := by kernel_rfl
@[simp] theorem lv_241_1000002 : livesOf 241 1000002 = [0, 3] := by kernel_rfl
@[simp] theorem tb_241 (n : Nat) : tab (n + 1) 241 = some (.pure (run n 241)) := tab_pure (by kernel_rfl) (by kernel_rfl) (by kernel_rfl)
@[simp] theorem fn_248 : fnOf 248 = Tryz.f248 := by kernel_rfl
@[simp] theorem lv_248_7 : livesOf 248 7 = [0, 1, 5] := by kernel_rfl
@[simp] theorem lv_248_1000007 : livesOf 248 1000007 = [4] := by kernel_rfl
@[simp] theorem tb_248 (n : Nat) : tab (n + 1) 248 = some (.pure (run n 248)) := tab_pure (by kernel_rfl) (by kernel_rfl) (by kernel_rfl)
@[simp] theorem fn_253 : fnOf 253 = Tryz.f253 := by kernel_rfl
@[simp] theorem tb_253 (n : Nat) : tab (n + 1) 253 = some (.pure (run n 253)) := tab_pure (by kernel_rfl) (by kernel_rfl) (by kernel_rfl)
@[simp] theorem fn_254 : fnOf 254 = Tryz.f254 := by kernel_rfl
@[simp] theorem lv_254_6 : livesOf 254 6 = [4, 12, 13, 14] := by kernel_rfl
@[simp] theorem lv_254_1000006 : livesOf 254 1000006 = [4] := by kernel_rfl
@[simp] theorem tb_254 (n : Nat) : tab (n + 1) 254 = some (.pure (run n 254)) := tab_pure (by kernel_rfl) (by kernel_rfl) (by kernel_rfl)
@[simp] theorem fn_255 : fnOf 255 = Tryz.f255 := by kernel_rfl
@[simp] theorem lv_255_1 : livesOf 255 1 = [0, 2, 3] := by kernel_rfl
@[simp] theorem lv_255_1000001 : livesOf 255 1000001 = [] := by kernel_rfl
@[simp] theorem tb_255 (n : Nat) : tab (n + 1) 255 = some (.lin [true] (runL n 255)) := tab_lin (k := false) (by kernel_rfl) (by kernel_rfl) (by kernel_rfl)
@[simp] theorem kp_255 : keepOf 255 = false := by kernel_rfl
@[simp] theorem fn_269 : fnOf 269 = Tryz.f269 := by kernel_rfl
@[simp] theorem tb_269 (n : Nat) : tab (n + 1) 269 = some (.pure (run n 269)) := tab_pure (by kernel_rfl) (by kernel_rfl) (by kernel_rfl)
@[simp] theorem fn_270 : fnOf 270 = Tryz.f270 := by kernel_rfl
@[simp] theorem lv_270_2 : livesOf 270 2 = [0, 1, 7, 8] := by kernel_rfl
@[simp] theorem lv_270_1000002 : livesOf 270 1000002 = [4] := by kernel_rfl
@[simp] theorem tb_270 (n : Nat) : tab (n + 1) 270 = some (.pure (run n 270)) := tab_pure (by kernel_rfl) (by kernel_rfl) (by kernel_rfl)
@[simp] theorem fn_271 : fnOf 271 = Tryz.f271 := by kernel_rfl
@[simp] theorem tb_271 (n : Nat) : tab (n + 1) 271 = some (.pure (run n 271)) := tab_pure (by kernel_rfl) (by kernel_rfl) (by kernel_rfl)
@[simp] theorem fn_272 : fnOf 272 = Tryz.f272 := by kernel_rfl
@[simp] theorem tb_272 (n : Nat) : tab (n + 1) 272 = some (.pure (run n 272)) := tab_pure (by kernel_rfl) (by kernel_rfl) (by kernel_rfl)
@[simp] theorem fn_277 : fnOf 277 = Tryz.f277 := by kernel_rfl
@[simp] theorem tb_277 (n : Nat) : tab (n + 1) 277 = some (.pure (run n 277)) := tab_pure (by kernel_rfl) (by kernel_rfl) (by kernel_rfl)
@[simp] theorem fn_278 : fnOf 278 = Tryz.f278 := by kernel_rfl
@[simp] theorem tb_278 (n : Nat) : tab (n + 1) 278 = some (.pure (run n 278)) := tab_pure (by kernel_rfl) (by kernel_rfl) (by kernel_rfl)
@[simp] theorem fn_279 : fnOf 279 = Tryz.f279 := by kernel_rfl
@[simp] theorem lv_279_4 : livesOf 279 4 = [0, 1, 6, 7, 8] := by kernel_rfl
@[simp] theorem lv_279_1000004 : livesOf 279 1000004 = [6, 7] := by kernel_rfl
@[simp] theorem tb_279 (n : Nat) : tab (n + 1) 279 = some (.pure (run n 279)) := tab_pure (by kernel_rfl) (by kernel_rfl) (by kernel_rfl)
@[simp] theorem fn_280 : fnOf 280 = Tryz.f280 := by kernel_rfl
@[simp] theorem tb_280 (n : Nat) : tab (n + 1) 280 = some (.pure (run n 280)) := tab_pure (by kernel_rfl) (by kernel_rfl) (by kernel_rfl)
@[simp] theorem fn_281 : fnOf 281 = Tryz.f281 := by kernel_rfl
@[simp] theorem lv_281_3 : livesOf 281 3 = [1, 5, 13, 14, 15] := by kernel_rfl
@[simp] theorem lv_281_1000003 : livesOf 281 1000003 = [5] := by kernel_rfl
@[simp] theorem tb_281 (n : Nat) : tab (n + 1) 281 = some (.pure (run n 281)) := tab_pure (by kernel_rfl) (by kernel_rfl) (by kernel_rfl)
@[simp] theorem fn_282 : fnOf 282 = Tryz.f282 := by kernel_rfl
@[simp] theorem lv_282_3 : livesOf 282 3 = [0, 1, 2, 7, 8, 15, 16, 17] := by kernel_rfl
@[simp] theorem lv_282_17 : livesOf 282 17 = [0, 1, 2, 7, 70, 71, 72] := by kernel_rfl
@[simp] theorem lv_282_1000003 : livesOf 282 1000003 = [0, 1, 2, 7, 8] := by kernel_rfl
@[simp] theorem lv_282_1000017 : livesOf 282 1000017 = [0, 1, 2, 7] := by kernel_rfl
@[simp] theorem tb_282 (n : Nat) : tab (n + 1) 282 = some (.lin [true, false, false] (runL n 282)) := tab_lin (k := false) (by kernel_rfl) (by kernel_rfl) (by kernel_rfl)
@[simp] theorem kp_282 : keepOf 282 = false := by kernel_rfl
@[simp] theorem fn_283 : fnOf 283 = Tryz.f283 := by kernel_rfl
@[simp] theorem lv_283_4 : livesOf 283 4 = [0, 1, 5, 7, 8] := by kernel_rfl
@[simp] theorem lv_283_1000004 : livesOf 283 1000004 = [7] := by kernel_rfl
@[simp] theorem tb_283 (n : Nat) : tab (n + 1) 283 = some (.pure (run n 283)) := tab_pure (by kernel_rfl) (by kernel_rfl) (by kernel_rfl)
@[simp] theorem fn_284 : fnOf 284 = Tryz.f284 := by kernel_rfl
@[simp] theorem lv_284_9 : livesOf 284 9 = [0, 1, 6, 30, 31, 32] := by kernel_rfl
@[simp] theorem lv_284_1000009 : livesOf 284 1000009 = [6] := by kernel_rfl
@[simp] theorem tb_284 (n : Nat) : tab (n + 1) 284 = some (.pure (run n 284)) := tab_pure (by kernel_rfl) (by kernel_rfl) (by kernel_rfl)
@[simp] theorem fn_286 : fnOf 286 = Tryz.f286 := by kernel_rfl
@[simp] theorem tb_286 (n : Nat) : tab (n + 1) 286 = some (.pure (run n 286)) := tab_pure (by kernel_rfl) (by kernel_rfl) (by kernel_rfl)
@[simp] theorem fn_287 : fnOf 287 = Tryz.f287 := by kernel_rfl
@[simp] theorem tb_287 (n : Nat) : tab (n + 1) 287 = some (.pure (run n 287)) := tab_pure (by kernel_rfl) (by kernel_rfl) (by kernel_rfl)
@[simp] theorem fn_288 : fnOf 288 = Tryz.f288 := by kernel_rfl
@[simp] theorem lv_288_1 : livesOf 288 1 = [0, 1, 4] := by kernel_rfl
@[simp] theorem lv_288_1000001 : livesOf 288 1000001 = [0, 1, 4] := by kernel_rfl
@[simp] theorem tb_288 (n : Nat) : tab (n + 1) 288 = some (.lin [true, false] (runL n 288)) := tab_lin (k := false) (by kernel_rfl) (by kernel_rfl) (by kernel_rfl)
@[simp] theorem kp_288 : keepOf 288 = false := by kernel_rfl
@[simp] theorem fn_289 : fnOf 289 = Tryz.f289 := by kernel_rfl
@[simp] theorem lv_289_11 : livesOf 289 11 = [0, 1, 3, 4, 10, 11, 12, 13, 14, 15, 16] := by kernel_rfl
@[simp] theorem lv_289_18 : livesOf 289 18 = [0, 1, 3, 4, 10, 11, 12, 13, 17] := by kernel_rfl
@[simp] theorem lv_289_1000011 : livesOf 289 1000011 = [0, 1, 3, 4, 10, 11, 12, 13] := by kernel_rfl
@[simp] theorem lv_289_1000018 : livesOf 289 1000018 = [0, 1, 3, 4, 10, 11, 12, 13] := by kernel_rfl
@[simp] theorem tb_289 (n : Nat) : tab (n + 1) 289 = some (.lin [true, false, false, false, false] (runL n 289)) := tab_lin (k := true) (by kernel_rfl) (by kernel_rfl) (by kernel_rfl)
@[simp] theorem kp_289 : keepOf 289 = true := by kernel_rfl
@[simp] theorem fn_301 : fnOf 301 = Tryz.f301 := by kernel_rfl
@[simp] theorem tb_301 (n : Nat) : tab (n + 1) 301 = some (.pure (run n 301)) := tab_pure (by kernel_rfl) (by kernel_rfl) (by kernel_rfl)
@[simp] theorem fn_305 : fnOf 305 = Tryz.f305 := by kernel_rfl
@[simp] theorem tb_305 (n : Nat) : tab (n + 1) 305 = some (.pure (run n 305)) := tab_pure (by kernel_rfl) (by kernel_rfl) (by kernel_rfl)
@[simp] theorem fn_306 : fnOf 306 = Tryz.f306 := by kernel_rfl
@[simp] theorem tb_306 (n : Nat) : tab (n + 1) 306 = some (.pure (run n 306)) := tab_pure (by kernel_rfl) (by kernel_rfl) (by kernel_rfl)
@[simp] theorem fn_307 : fnOf 307 = Tryz.f307 := by kernel_rfl
@[simp] theorem tb_307 (n : Nat) : tab (n + 1) 307 = some (.pure (run n 307)) := tab_pure (by kernel_rfl) (by kernel_rfl) (by kernel_rfl)
@[simp] theorem fn_308 : fnOf 308 = Tryz.f308 := by kernel_rfl
@[simp] theorem tb_308 (n : Nat) : tab (n + 1) 308 = some (.pure (run n 308)) := tab_pure (by kernel_rfl) (by kernel_rfl) (by kernel_rfl)
@[simp] theorem fn_309 : fnOf 309 = Tryz.f309 := by kernel_rfl
@[simp] theorem tb_309 (n : Nat) : tab (n + 1) 309 = some (.pure (run n 309)) := tab_pure (by kernel_rfl) (by kernel_rfl) (by kernel_rfl)
@[simp] theorem fn_321 : fnOf 321 = Tryz.f321 := by kernel_rfl
@[simp] theorem tb_321 (n : Nat) : tab (n + 1) 321 = some (.pure (run n 321)) := tab_pure (by kernel_rfl) (by kernel_rfl) (by kernel_rfl)
@[simp] theorem fn_322 : fnOf 322 = Tryz.f322 := by kernel_rfl
@[simp] theorem tb_322 (n : Nat) : tab (n + 1) 322 = some (.pure (run n 322)) := tab_pure (by kernel_rfl) (by kernel_rfl) (by kernel_rfl)
end Go.Proofs.YtkakmdadnhjphaaGreatDoor
