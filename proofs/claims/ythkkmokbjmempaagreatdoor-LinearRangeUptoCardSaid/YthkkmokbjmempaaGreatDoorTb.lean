/- The table of callees: live slots, modes. -/
import Derived.Test.YthkkmokbjmempaaGreatDoorCn
import Derived.Test.YthkkmokbjmempaaGreatDoorQ3
set_option linter.all false
set_option linter.all false
set_option maxRecDepth 100000
namespace Go.Proofs.YthkkmokbjmempaaGreatDoor
open Go.RowKit
def livesT : List (Nat × List (Nat × List Nat)) := [(6, [(6, [2, 3, 4, 7]), (1000006, [6])]), (9, [(13, [1, 2, 5, 9, 10, 11]), (17, [1, 2, 5, 9, 10, 11, 12, 13]), (1000013, [4, 9, 10]), (1000017, [1, 2, 5, 9, 10, 11, 12])]), (13, [(4, [1, 3]), (12, [1, 3, 4, 5]), (1000004, [2]), (1000012, [1, 2, 3])]), (14, [(6, [3, 16, 17, 18]), (1000006, [3])]), (15, [(5, [1, 3, 4]), (1000005, [3])]), (18, [(2, [1, 2, 5]), (1000002, [2, 4])]), (19, [(4, [1, 3, 4, 11, 12, 13]), (1000004, [1, 3, 4])]), (20, [(7, [0, 2, 5, 6, 7]), (1000007, [2, 3, 4])]), (21, [(3, [1, 3, 4]), (1000003, [1, 3])]), (22, [(4, [2, 3, 5]), (1000004, [4])]), (23, [(4, [0, 2, 5, 6, 7]), (1000004, [2, 3, 4, 5])]), (24, [(4, [0, 3]), (1000004, [2])]), (25, [(4, [1, 5, 6, 7, 8, 16, 17, 18, ph 7 0 76 4, ph 8 1 0 0, ph 8 2 0 0]), (1000004, [5, 6, 7, 8])]), (28, [(3, [1, 2, 4, 6, 7]), (1000003, [4, 5, 6])]), (29, [(3, [1, 4, 6, 12, 13, 14]), (1000003, [4, 5, 6])]), (33, [(3, [3, 4, 5, 6]), (1000003, [4, 5])]), (35, [(4, [3, 23, 24, 25]), (1000004, [4])]), (38, [(3, [2, 3, 4, 5, 6, ph 5 0 76 4]), (1000003, [4, 5])]), (40, [(2, [0, 3]), (1000002, [0, 2])]), (41, [(3, [1, 4, 6, 7, 17, 18, 19]), (1000003, [4, 5, 6, 7])]), (42, [(3, [1, 2, 4, 6, 7]), (1000003, [4, 5, 6])]), (44, [(2, [1, 4, 8, 9, 10]), (1000002, [4])]), (45, [(2, [1, 2, 4, 5]), (1000002, [4])]), (46, [(4, [0, 5]), (1000004, [4])]), (47, [(7, [4, 6, 7, 8]), (9, [4, 6, 7, 8, 9, 10]), (1000007, [4, 7]), (1000009, [4, 6, 7, 8, 9, 10])]), (48, [(3, [0, 4, 6, 7, ph 6 0 0 0]), (1000003, [4, 5, 6])]), (49, [(2, [1, 2, 8, 9, 10]), (1000002, [2, 4])]), (50, [(8, [1, 2, 4, 5, 41, 42]), (13, [1, 2, 4, 5, 57, 58]), (1000008, [1, 2, 4, 5]), (1000013, [2, 5])]), (54, [(4, [1, 28, 29, 30]), (1000004, [2])]), (55, [(4, [1, 20, 21, 22]), (1000004, [4])]), (56, [(4, [2, 3, 5]), (1000004, [4])]), (60, [(4, [1, 3]), (1000004, [2])]), (67, [(0, [0]), (1000000, [])]), (72, [(3, [0, 3]), (1000003, [3])]), (74, [(0, [0]), (1000000, [])]), (77, [(3, [5, 6, 7, 8, 9, ph 7 0 76 4]), (1000003, [6, 7])]), (78, [(4, [1, 3, 5, 6, 7, 8, 9]), (1000004, [1, 3, 5, 6, 7, 8])]), (83, [(4, [0, 1, 5]), (1000004, [4])]), (86, [(3, [0, 1, 5, 6]), (7, [0, 1, 5, 6, 7, 8]), (1000003, [5]), (1000007, [0, 1, 5, 6])]), (102, [(3, [1, 5, 6, 13, 14, 15]), (1000003, [5, 6])]), (110, [(5, [0, 3, 4]), (1000005, [4])]), (113, [(7, [0, 1, 8]), (1000007, [0, 8])]), (114, [(4, [3, 4, 9, 10, 11]), (1000004, [3])]), (116, [(2, [0, 3]), (1000002, [0, 3])]), (117, [(9, [0, 1, 11, 12, 13]), (1000009, [11, 12])]), (119, [(8, [0, 2, 7, 8]), (1000008, [0, 7])]), (124, [(6, [1, 5, 29, 30, 31]), (10, [1, 5, 6, 7, 8, 29, 30, 31, 36, 37, 38]), (1000006, [5]), (1000010, [1, 5, 6, 8, 29, 30, 31])]), (128, [(4, [0, 1, 12, 13]), (1000004, [4])]), (131, [(4, [0, 1, 5, 6, 7]), (1000004, [5, 6])]), (132, [(6, [0, 1, 6, 7, 8]), (1000006, [6])]), (133, [(2, [0, 1]), (1000002, [0])]), (135, [(2, [0, 1, 2, 6, 7, 8]), (7, [0, 1, 2, 6]), (9, [0, 1, 2, 6, 7, 8]), (1000002, [0, 1, 2, 6, 7]), (1000007, []), (1000009, [0, 1, 2, 6, 7])]), (139, [(7, [0, 1, 5]), (1000007, [4])]), (142, [(13, [9, 10, 11, 12, 13]), (1000013, [9, 10, 12])]), (143, [(6, [4, 12, 13, 14]), (1000006, [4])]), (145, [(38, [7, 8, 9]), (1000038, [9])]), (146, [(1, [0, 2, 3]), (1000001, [])]), (147, [(12, [0, 1, 5, 39, 40, 41]), (22, [1, 8, 63, 64, 65]), (1000012, [0, 1, 5]), (1000022, [8])]), (149, [(2, [0, 3]), (1000002, [0, 3])]), (150, [(7, [0, 1, 5, 6, 24, 25, 26]), (1000007, [0, 5, 6])]), (152, [(6, [3, 4]), (1000006, [3])]), (153, [(4, [0, 1, 5, 6, 7]), (1000004, [5, 6])]), (154, [(2, [0, 1, 5]), (1000002, [4])]), (157, [(7, [1, 6, 7, 22, 23, 24]), (1000007, [6])]), (159, [(2, [0, 1]), (10, [11, 13]), (1000002, [0, 1]), (1000010, [11])]), (163, [(1, [0, 1, 2, 3, 8]), (4, [0, 1, 2, 3, 8, 9]), (1000001, []), (1000004, [0, 1, 2, 3, 8])]), (164, [(3, [0, 1, 4, 10, 11]), (9, [0, 10, 13]), (15, [0, 2, 4, 14, 15]), (21, [0, 14, 17]), (33, [0, 1, 2, 3, 4, 18, 19, 20, 21, 22]), (1000003, [0, 1, 10]), (1000009, []), (1000015, [0, 2, 14]), (1000021, []), (1000033, [0, 1, 2, 3, 4, 18, 19, 20])]), (167, [(1, [0, 1, 4]), (1000001, [0, 1, 4])]), (168, [(11, [0, 1, 3, 4, 10, 11, 12, 13, 14, 15, 16]), (18, [0, 1, 3, 4, 10, 11, 12, 13, 17]), (1000011, [0, 1, 3, 4, 10, 11, 12, 13]), (1000018, [0, 1, 3, 4, 10, 11, 12, 13])]), (169, [(4, [0, 1, 6, 7, 8]), (1000004, [6, 7])]), (171, [(3, [1, 5, 13, 14, 15]), (1000003, [5])]), (172, [(3, [0, 1, 2, 7, 8, 15, 16, 17]), (17, [0, 1, 2, 7, 70, 71, 72]), (1000003, [0, 1, 2, 7, 8]), (1000017, [0, 1, 2, 7])]), (173, [(4, [0, 1, 5, 7, 8]), (1000004, [7])]), (174, [(9, [0, 1, 6, 30, 31, 32]), (1000009, [6])]), (180, [(10, [5, 6, 47, 48, 49]), (1000010, [2, 3, 5, 6])]), (183, [(2, [0, 2, 4, 10, 11]), (1000002, [0, 2, 4, 10])]), (198, [(1, [0, 1, 2, 3, 10]), (1000001, [])]), (202, [(36, [1, 8, 9, 10, 11, 12, 13, 99, 100, 101]), (1000036, [6, 7, 9, 12, 13])]), (206, [(10, [0, 3, 4, 5]), (1000010, [2, 3])])]
def livesOf (f : FuncId) : Nat → List Nat := lv ((livesT.lookup f).getD [])
def modesT : List (Nat × (List Bool × Bool)) := [(58, ([true, false], false)), (59, ([true], false)), (63, ([false, false, true], false)), (64, ([true], false)), (67, ([true], false)), (68, ([true, false], false)), (69, ([true, false, false], false)), (74, ([true], false)), (75, ([true], false)), (76, ([true, false, false], false)), (90, ([true, false], true)), (96, ([true, false], false)), (98, ([true, false, false], true)), (107, ([true], false)), (113, ([true, false, false], false)), (115, ([true], false)), (119, ([true, false, false], false)), (120, ([true], false)), (135, ([true, false, false], false)), (146, ([true], false)), (163, ([true, false, false, false], false)), (164, ([true, false, false, false, false], false)), (167, ([true, false], false)), (168, ([true, false, false, false, false], true)), (172, ([true, false, false], false)), (178, ([true, false], false)), (183, ([true, false, false, false, false], false)), (192, ([true, false], false)), (194, ([], true)), (195, ([], true)), (196, ([], true)), (197, ([], true)), (198, ([true, false, false, false, false], false)), (215, ([true], false)), (216, ([true], false)), (217, ([true], false)), (218, ([true], false)), (219, ([true], false)), (222, ([true], false)), (224, ([true], false)), (225, ([true], false))]
noncomputable def fnOf (f : FuncId) : Func := (Tryz.prog.funcs[f]?).getD default
def keepOf (f : FuncId) : Bool := ((modesT.lookup f).getD ([], false)).2
noncomputable def tab : Nat → FuncId → Option Orc
  | 0, f => orc0 f
  | n + 1, f => match orc0 f with
    | some x => some x
    | none => match plainF Tryz.prog f with
      | true => (match modesT.lookup f with
        | some (ms, k) => some (.lin ms (fnL Tryz.prog (tab n) (livesOf f) big (fnOf f) (keepOf f)))
        | none => some (.pure (fnP Tryz.prog (tab n) (livesOf f) big (fnOf f))))
      | false => none
theorem plain_fn {f : FuncId} (h : plainF Tryz.prog f = true) : Tryz.prog.funcs[f]? = some (fnOf f) := by
  unfold plainF at h
  unfold fnOf
  split at h
  · rename_i fn hf; rw [hf]; rfl
  · cases h
theorem tab_ok : ∀ n, OrcOk Tryz.prog (tab n)
  | 0 => orc0_ok
  | n + 1 => by
    have key : ∀ f x, tab (n + 1) f = some x → (orc0 f = some x) ∨ (plainF Tryz.prog f = true ∧ ((∃ (ms : List Bool) (k : Bool), x = .lin ms (fnL Tryz.prog (tab n) (livesOf f) big (fnOf f) (keepOf f))) ∨ x = .pure (fnP Tryz.prog (tab n) (livesOf f) big (fnOf f)))) := fun f x h => by
      unfold tab at h
      split at h
      · rename_i y hy; cases h; exact .inl hy
      · split at h
        · rename_i hp
          split at h
          · cases h; exact .inr ⟨hp, .inl ⟨_, false, rfl⟩⟩
          · cases h; exact .inr ⟨hp, .inr rfl⟩
        · cases h
    refine ⟨fun f g h => ?_, fun f ms g h => ?_⟩
    · rcases key f _ h with h | ⟨hp, ⟨ms, k, h⟩ | h⟩
      · exact orc0_ok.pure f g h
      · cases h
      · cases h
        exact ⟨hp, fun args r hr => con_of (tab_ok n) mixed (plain_fn hp) (body_some hp (plain_fn hp)) hr⟩
    · rcases key f _ h with h | ⟨hp, ⟨ms, k, h⟩ | h⟩
      · exact orc0_ok.lin f ms g h
      · cases h
        exact ⟨hp, fun bin args r outs hr => conL_of (tab_ok n) mixed (plain_fn hp) (body_some hp (plain_fn hp)) hr⟩
      · cases h
/-- a function run abstractly, with n levels of calls below it -/
noncomputable def run (n : Nat) (f : FuncId) (args : List AV) : Option AV := fnP Tryz.prog (tab n) (livesOf f) big (fnOf f) args
noncomputable def runL (n : Nat) (f : FuncId) (args : List AV) (bin : List AB) : Option (AV × List (Nat × AB)) := fnL Tryz.prog (tab n) (livesOf f) big (fnOf f) (keepOf f) args bin
theorem run_con {n : Nat} {f : FuncId} {args : List AV} {r : AV} (hp : plainF Tryz.prog f = true) (h : run n f args = some r) : Con Tryz.prog f args r := con_of (tab_ok n) mixed (plain_fn hp) (body_some hp (plain_fn hp)) h
/-- a callee of the table, by its mode -/
theorem tab_pure {n : Nat} {f : FuncId} (h0 : orc0 f = none) (hp : plainF Tryz.prog f = true) (hm : modesT.lookup f = none) : tab (n + 1) f = some (.pure (run n f)) := by
  unfold tab
  rw [h0]
  simp only [hp, hm]
  rfl
theorem tab_lin {n : Nat} {f : FuncId} {ms : List Bool} {k : Bool} (h0 : orc0 f = none) (hp : plainF Tryz.prog f = true) (hm : modesT.lookup f = some (ms, k)) : tab (n + 1) f = some (.lin ms (runL n f)) := by
  unfold tab
  rw [h0]
  simp only [hp, hm]
  rfl
theorem tab_num {f : FuncId} {x : Orc} (h : orc0 f = some x) : ∀ n, tab n f = some x
  | 0 => h
  | n + 1 => by unfold tab; rw [h]
@[simp] theorem fn_2 : fnOf 2 = Tryz.f2 := by kernel_rfl
@[simp] theorem tb_2 (n : Nat) : tab (n + 1) 2 = some (.pure (run n 2)) := tab_pure (by kernel_rfl) (by kernel_rfl) (by kernel_rfl)
@[simp] theorem fn_3 : fnOf 3 = Tryz.f3 := by kernel_rfl
@[simp] theorem tb_3 (n : Nat) : tab (n + 1) 3 = some (.pure (run n 3)) := tab_pure (by kernel_rfl) (by kernel_rfl) (by kernel_rfl)
@[simp] theorem fn_4 : fnOf 4 = Tryz.f4 := by kernel_rfl
@[simp] theorem tb_4 (n : Nat) : tab (n + 1) 4 = some (.pure (run n 4)) := tab_pure (by kernel_rfl) (by kernel_rfl) (by kernel_rfl)
@[simp] theorem fn_5 : fnOf 5 = Tryz.f5 := by kernel_rfl
@[simp] theorem tb_5 (n : Nat) : tab (n + 1) 5 = some (.pure (run n 5)) := tab_pure (by kernel_rfl) (by kernel_rfl) (by kernel_rfl)
@[simp] theorem fn_6 : fnOf 6 = Tryz.f6 := by kernel_rfl
@[simp] theorem lv_6_6 : livesOf 6 6 = [2, 3, 4, 7] := by kernel_rfl
@[simp] theorem lv_6_1000006 : livesOf 6 1000006 = [6] := by kernel_rfl
@[simp] theorem tb_6 (n : Nat) : tab (n + 1) 6 = some (.pure (run n 6)) := tab_pure (by kernel_rfl) (by kernel_rfl) (by kernel_rfl)
@[simp] theorem fn_7 : fnOf 7 = Tryz.f7 := by kernel_rfl
@[simp] theorem tb_7 (n : Nat) : tab (n + 1) 7 = some (.pure (run n 7)) := tab_pure (by kernel_rfl) (by kernel_rfl) (by kernel_rfl)
@[simp] theorem fn_8 : fnOf 8 = Tryz.f8 := by kernel_rfl
@[simp] theorem tb_8 (n : Nat) : tab (n + 1) 8 = some (.pure (run n 8)) := tab_pure (by kernel_rfl) (by kernel_rfl) (by kernel_rfl)
@[simp] theorem fn_9 : fnOf 9 = Tryz.f9 := by kernel_rfl
@[simp] theorem lv_9_13 : livesOf 9 13 = [1, 2, 5, 9, 10, 11] := by kernel_rfl
@[simp] theorem lv_9_17 : livesOf 9 17 = [1, 2, 5, 9, 10, 11, 12, 13] := by kernel_rfl
@[simp] theorem lv_9_1000013 : livesOf 9 1000013 = [4, 9, 10] := by kernel_rfl
@[simp] theorem lv_9_1000017 : livesOf 9 1000017 = [1, 2, 5, 9, 10, 11, 12] := by kernel_rfl
@[simp] theorem tb_9 (n : Nat) : tab (n + 1) 9 = some (.pure (run n 9)) := tab_pure (by kernel_rfl) (by kernel_rfl) (by kernel_rfl)
@[simp] theorem fn_10 : fnOf 10 = Tryz.f10 := by kernel_rfl
@[simp] theorem tb_10 (n : Nat) : tab (n + 1) 10 = some (.pure (run n 10)) := tab_pure (by kernel_rfl) (by kernel_rfl) (by kernel_rfl)
@[simp] theorem fn_11 : fnOf 11 = Tryz.f11 := by kernel_rfl
@[simp] theorem tb_11 (n : Nat) : tab (n + 1) 11 = some (.pure (run n 11)) := tab_pure (by kernel_rfl) (by kernel_rfl) (by kernel_rfl)
@[simp] theorem fn_12 : fnOf 12 = Tryz.f12 := by kernel_rfl
@[simp] theorem tb_12 (n : Nat) : tab (n + 1) 12 = some (.pure (run n 12)) := tab_pure (by kernel_rfl) (by kernel_rfl) (by kernel_rfl)
@[simp] theorem fn_13 : fnOf 13 = Tryz.f13 := by kernel_rfl
@[simp] theorem lv_13_4 : livesOf 13 4 = [1, 3] := by kernel_rfl
@[simp] theorem lv_13_12 : livesOf 13 12 = [1, 3, 4, 5] := by kernel_rfl
@[simp] theorem lv_13_1000004 : livesOf 13 1000004 = [2] := by kernel_rfl
@[simp] theorem lv_13_1000012 : livesOf 13 1000012 = [1, 2, 3] := by kernel_rfl
@[simp] theorem tb_13 (n : Nat) : tab (n + 1) 13 = some (.pure (run n 13)) := tab_pure (by kernel_rfl) (by kernel_rfl) (by kernel_rfl)
@[simp] theorem fn_14 : fnOf 14 = Tryz.f14 := by kernel_rfl
@[simp] theorem lv_14_6 : livesOf 14 6 = [3, 16, 17, 18] := by kernel_rfl
@[simp] theorem lv_14_1000006 : livesOf 14 1000006 = [3] := by kernel_rfl
@[simp] theorem tb_14 (n : Nat) : tab (n + 1) 14 = some (.pure (run n 14)) := tab_pure (by kernel_rfl) (by kernel_rfl) (by kernel_rfl)
@[simp] theorem fn_15 : fnOf 15 = Tryz.f15 := by kernel_rfl
@[simp] theorem lv_15_5 : livesOf 15 5 = [1, 3, 4] := by kernel_rfl
@[simp] theorem lv_15_1000005 : livesOf 15 1000005 = [3] := by kernel_rfl
@[simp] theorem tb_15 (n : Nat) : tab (n + 1) 15 = some (.pure (run n 15)) := tab_pure (by kernel_rfl) (by kernel_rfl) (by kernel_rfl)
@[simp] theorem fn_16 : fnOf 16 = Tryz.f16 := by kernel_rfl
@[simp] theorem tb_16 (n : Nat) : tab (n + 1) 16 = some (.pure (run n 16)) := tab_pure (by kernel_rfl) (by kernel_rfl) (by kernel_rfl)
@[simp] theorem fn_17 : fnOf 17 = Tryz.f17 := by kernel_rfl
@[simp] theorem tb_17 (n : Nat) : tab (n + 1) 17 = some (.pure (run n 17)) := tab_pure (by kernel_rfl) (by kernel_rfl) (by kernel_rfl)
@[simp] theorem fn_18 : fnOf 18 = Tryz.f18 := by kernel_rfl
@[simp] theorem lv_18_2 : livesOf 18 2 = [1, 2, 5] := by kernel_rfl
@[simp] theorem lv_18_1000002 : livesOf 18 1000002 = [2, 4] := by kernel_rfl
@[simp] theorem tb_18 (n : Nat) : tab (n + 1) 18 = some (.pure (run n 18)) := tab_pure (by kernel_rfl) (by kernel_rfl) (by kernel_rfl)
@[simp] theorem fn_19 : fnOf 19 = Tryz.f19 := by kernel_rfl
@[simp] theorem lv_19_4 : livesOf 19 4 = [1, 3, 4, 11, 12, 13] := by kernel_rfl
@[simp] theorem lv_19_1000004 : livesOf 19 1000004 = [1, 3, 4] := by kernel_rfl
@[simp] theorem tb_19 (n : Nat) : tab (n + 1) 19 = some (.pure (run n 19)) := tab_pure (by kernel_rfl) (by kernel_rfl) (by kernel_rfl)
@[simp] theorem fn_20 : fnOf 20 = Tryz.f20 := by kernel_rfl
@[simp] theorem lv_20_7 : livesOf 20 7 = [0, 2, 5, 6, 7] := by kernel_rfl
@[simp] theorem lv_20_1000007 : livesOf 20 1000007 = [2, 3, 4] := by kernel_rfl
@[simp] theorem tb_20 (n : Nat) : tab (n + 1) 20 = some (.pure (run n 20)) := tab_pure (by kernel_rfl) (by kernel_rfl) (by kernel_rfl)
@[simp] theorem fn_21 : fnOf 21 = Tryz.f21 := by kernel_rfl
@[simp] theorem lv_21_3 : livesOf 21 3 = [1, 3, 4] := by kernel_rfl
@[simp] theorem lv_21_1000003 : livesOf 21 1000003 = [1, 3] := by kernel_rfl
@[simp] theorem tb_21 (n : Nat) : tab (n + 1) 21 = some (.pure (run n 21)) := tab_pure (by kernel_rfl) (by kernel_rfl) (by kernel_rfl)
@[simp] theorem fn_22 : fnOf 22 = Tryz.f22 := by kernel_rfl
@[simp] theorem lv_22_4 : livesOf 22 4 = [2, 3, 5] := by kernel_rfl
@[simp] theorem lv_22_1000004 : livesOf 22 1000004 = [4] := by kernel_rfl
@[simp] theorem tb_22 (n : Nat) : tab (n + 1) 22 = some (.pure (run n 22)) := tab_pure (by kernel_rfl) (by kernel_rfl) (by kernel_rfl)
@[simp] theorem fn_23 : fnOf 23 = Tryz.f23 := by kernel_rfl
@[simp] theorem lv_23_4 : livesOf 23 4 = [0, 2, 5, 6, 7] := by kernel_rfl
@[simp] theorem lv_23_1000004 : livesOf 23 1000004 = [2, 3, 4, 5] := by kernel_rfl
@[simp] theorem tb_23 (n : Nat) : tab (n + 1) 23 = some (.pure (run n 23)) := tab_pure (by kernel_rfl) (by kernel_rfl) (by kernel_rfl)
@[simp] theorem fn_24 : fnOf 24 = Tryz.f24 := by kernel_rfl
@[simp] theorem lv_24_4 : livesOf 24 4 = [0, 3] := by kernel_rfl
@[simp] theorem lv_24_1000004 : livesOf 24 1000004 = [2] := by kernel_rfl
@[simp] theorem tb_24 (n : Nat) : tab (n + 1) 24 = some (.pure (run n 24)) := tab_pure (by kernel_rfl) (by kernel_rfl) (by kernel_rfl)
@[simp] theorem fn_25 : fnOf 25 = Tryz.f25 := by kernel_rfl
@[simp] theorem lv_25_4 : livesOf 25 4 = [1, 5, 6, 7, 8, 16, 17, 18, ph 7 0 76 4, ph 8 1 0 0, ph 8 2 0 0] := by kernel_rfl
@[simp] theorem lv_25_1000004 : livesOf 25 1000004 = [5, 6, 7, 8] := by kernel_rfl
@[simp] theorem tb_25 (n : Nat) : tab (n + 1) 25 = some (.pure (run n 25)) := tab_pure (by kernel_rfl) (by kernel_rfl) (by kernel_rfl)
@[simp] theorem fn_26 : fnOf 26 = Tryz.f26 := by kernel_rfl
@[simp] theorem tb_26 (n : Nat) : tab (n + 1) 26 = some (.pure (run n 26)) := tab_pure (by kernel_rfl) (by kernel_rfl) (by kernel_rfl)
@[simp] theorem fn_27 : fnOf 27 = Tryz.f27 := by kernel_rfl
@[simp] theorem tb_27 (n : Nat) : tab (n + 1) 27 = some (.pure (run n 27)) := tab_pure (by kernel_rfl) (by kernel_rfl) (by kernel_rfl)
@[simp] theorem fn_28 : fnOf 28 = Tryz.f28 := by kernel_rfl
@[simp] theorem lv_28_3 : livesOf 28 3 = [1, 2, 4, 6, 7] := by kernel_rfl
@[simp] theorem lv_28_1000003 : livesOf 28 1000003 = [4, 5, 6] := by kernel_rfl
@[simp] theorem tb_28 (n : Nat) : tab (n + 1) 28 = some (.pure (run n 28)) := tab_pure (by kernel_rfl) (by kernel_rfl) (by kernel_rfl)
@[simp] theorem fn_29 : fnOf 29 = Tryz.f29 := by kernel_rfl
@[simp] theorem lv_29_3 : livesOf 29 3 = [1, 4, 6, 12, 13, 14] := by kernel_rfl
@[simp] theorem lv_29_1000003 : livesOf 29 1000003 = [4, 5, 6] := by kernel_rfl
@[simp] theorem tb_29 (n : Nat) : tab (n + 1) 29 = some (.pure (run n 29)) := tab_pure (by kernel_rfl) (by kernel_rfl) (by kernel_rfl)
@[simp] theorem fn_31 : fnOf 31 = Tryz.f31 := by kernel_rfl
@[simp] theorem tb_31 (n : Nat) : tab (n + 1) 31 = some (.pure (run n 31)) := tab_pure (by kernel_rfl) (by kernel_rfl) (by kernel_rfl)
@[simp] theorem fn_32 : fnOf 32 = Tryz.f32 := by kernel_rfl
@[simp] theorem tb_32 (n : Nat) : tab (n + 1) 32 = some (.pure (run n 32)) := tab_pure (by kernel_rfl) (by kernel_rfl) (by kernel_rfl)
@[simp] theorem fn_33 : fnOf 33 = Tryz.f33 := by kernel_rfl
@[simp] theorem lv_33_3 : livesOf 33 3 = [3, 4, 5, 6] := by kernel_rfl
@[simp] theorem lv_33_1000003 : livesOf 33 1000003 = [4, 5] := by kernel_rfl
@[simp] theorem tb_33 (n : Nat) : tab (n + 1) 33 = some (.pure (run n 33)) := tab_pure (by kernel_rfl) (by kernel_rfl) (by kernel_rfl)
@[simp] theorem fn_34 : fnOf 34 = Tryz.f34 := by kernel_rfl
@[simp] theorem tb_34 (n : Nat) : tab (n + 1) 34 = some (.pure (run n 34)) := tab_pure (by kernel_rfl) (by kernel_rfl) (by kernel_rfl)
@[simp] theorem fn_35 : fnOf 35 = Tryz.f35 := by kernel_rfl
@[simp] theorem lv_35_4 : livesOf 35 4 = [3, 23, 24, 25] := by kernel_rfl
@[simp] theorem lv_35_1000004 : livesOf 35 1000004 = [4] := by kernel_rfl
@[simp] theorem tb_35 (n : Nat) : tab (n + 1) 35 = some (.pure (run n 35)) := tab_pure (by kernel_rfl) (by kernel_rfl) (by kernel_rfl)
@[simp] theorem fn_37 : fnOf 37 = Tryz.f37 := by kernel_rfl
@[simp] theorem tb_37 (n : Nat) : tab (n + 1) 37 = some (.pure (run n 37)) := tab_pure (by kernel_rfl) (by kernel_rfl) (by kernel_rfl)
@[simp] theorem fn_38 : fnOf 38 = Tryz.f38 := by kernel_rfl
@[simp] theorem lv_38_3 : livesOf 38 3 = [2, 3, 4, 5, 6, ph 5 0 76 4] := by kernel_rfl
@[simp] theorem lv_38_1000003 : livesOf 38 1000003 = [4, 5] := by kernel_rfl
@[simp] theorem tb_38 (n : Nat) : tab (n + 1) 38 = some (.pure (run n 38)) := tab_pure (by kernel_rfl) (by kernel_rfl) (by kernel_rfl)
@[simp] theorem fn_40 : fnOf 40 = Tryz.f40 := by kernel_rfl
@[simp] theorem lv_40_2 : livesOf 40 2 = [0, 3] := by kernel_rfl
@[simp] theorem lv_40_1000002 : livesOf 40 1000002 = [0, 2] := by kernel_rfl
@[simp] theorem tb_40 (n : Nat) : tab (n + 1) 40 = some (.pure (run n 40)) := tab_pure (by kernel_rfl) (by kernel_rfl) (by kernel_rfl)
@[simp] theorem fn_41 : fnOf 41 = Tryz.f41 := by kernel_rfl
@[simp] theorem lv_41_3 : livesOf 41 3 = [1, 4, 6, 7, 17, 18, 19] := by kernel_rfl
@[simp] theorem lv_41_1000003 : livesOf 41 1000003 = [4, 5, 6, 7] := by kernel_rfl
@[simp] theorem tb_41 (n : Nat) : tab (n + 1) 41 = some (.pure (run n 41)) := tab_pure (by kernel_rfl) (by kernel_rfl) (by kernel_rfl)
@[simp] theorem fn_42 : fnOf 42 = Tryz.f42 := by kernel_rfl
@[simp] theorem lv_42_3 : livesOf 42 3 = [1, 2, 4, 6, 7] := by kernel_rfl
@[simp] theorem lv_42_1000003 : livesOf 42 1000003 = [4, 5, 6] := by kernel_rfl
@[simp] theorem tb_42 (n : Nat) : tab (n + 1) 42 = some (.pure (run n 42)) := tab_pure (by kernel_rfl) (by kernel_rfl) (by kernel_rfl)
@[simp] theorem fn_44 : fnOf 44 = Tryz.f44 := by kernel_rfl
@[simp] theorem lv_44_2 : livesOf 44 2 = [1, 4, 8, 9, 10] := by kernel_rfl
@[simp] theorem lv_44_1000002 : livesOf 44 1000002 = [4] := by kernel_rfl
@[simp] theorem tb_44 (n : Nat) : tab (n + 1) 44 = some (.pure (run n 44)) := tab_pure (by kernel_rfl) (by kernel_rfl) (by kernel_rfl)
@[simp] theorem fn_45 : fnOf 45 = Tryz.f45 := by kernel_rfl
@[simp] theorem lv_45_2 : livesOf 45 2 = [1, 2, 4, 5] := by kernel_rfl
@[simp] theorem lv_45_1000002 : livesOf 45 1000002 = [4] := by kernel_rfl
@[simp] theorem tb_45 (n : Nat) : tab (n + 1) 45 = some (.pure (run n 45)) := tab_pure (by kernel_rfl) (by kernel_rfl) (by kernel_rfl)
@[simp] theorem fn_46 : fnOf 46 = Tryz.f46 := by kernel_rfl
@[simp] theorem lv_46_4 : livesOf 46 4 = [0, 5] := by kernel_rfl
@[simp] theorem lv_46_1000004 : livesOf 46 1000004 = [4] := by kernel_rfl
@[simp] theorem tb_46 (n : Nat) : tab (n + 1) 46 = some (.pure (run n 46)) := tab_pure (by kernel_rfl) (by kernel_rfl) (by kernel_rfl)
@[simp] theorem fn_47 : fnOf 47 = Tryz.f47 := by kernel_rfl
@[simp] theorem lv_47_7 : livesOf 47 7 = [4, 6, 7, 8] := by kernel_rfl
@[simp] theorem lv_47_9 : livesOf 47 9 = [4, 6, 7, 8, 9, 10] := by kernel_rfl
@[simp] theorem lv_47_1000007 : livesOf 47 1000007 = [4, 7] := by kernel_rfl
@[simp] theorem lv_47_1000009 : livesOf 47 1000009 = [4, 6, 7, 8, 9, 10] := by kernel_rfl
@[simp] theorem tb_47 (n : Nat) : tab (n + 1) 47 = some (.pure (run n 47)) := tab_pure (by kernel_rfl) (by kernel_rfl) (by kernel_rfl)
@[simp] theorem fn_48 : fnOf 48 = Tryz.f48 := by kernel_rfl
@[simp] theorem lv_48_3 : livesOf 48 3 = [0, 4, 6, 7, ph 6 0 0 0] := by kernel_rfl
@[simp] theorem lv_48_1000003 : livesOf 48 1000003 = [4, 5, 6] := by kernel_rfl
@[simp] theorem tb_48 (n : Nat) : tab (n + 1) 48 = some (.pure (run n 48)) := tab_pure (by kernel_rfl) (by kernel_rfl) (by kernel_rfl)
@[simp] theorem fn_49 : fnOf 49 = Tryz.f49 := by kernel_rfl
@[simp] theorem lv_49_2 : livesOf 49 2 = [1, 2, 8, 9, 10] := by kernel_rfl
@[simp] theorem lv_49_1000002 : livesOf 49 1000002 = [2, 4] := by kernel_rfl
@[simp] theorem tb_49 (n : Nat) : tab (n + 1) 49 = some (.pure (run n 49)) := tab_pure (by kernel_rfl) (by kernel_rfl) (by kernel_rfl)
@[simp] theorem fn_50 : fnOf 50 = Tryz.f50 := by kernel_rfl
@[simp] theorem lv_50_8 : livesOf 50 8 = [1, 2, 4, 5, 41, 42] := by kernel_rfl
@[simp] theorem lv_50_13 : livesOf 50 13 = [1, 2, 4, 5, 57, 58] := by kernel_rfl
@[simp] theorem lv_50_1000008 : livesOf 50 1000008 = [1, 2, 4, 5] := by kernel_rfl
@[simp] theorem lv_50_1000013 : livesOf 50 1000013 = [2, 5] := by kernel_rfl
@[simp] theorem tb_50 (n : Nat) : tab (n + 1) 50 = some (.pure (run n 50)) := tab_pure (by kernel_rfl) (by kernel_rfl) (by kernel_rfl)
@[simp] theorem fn_51 : fnOf 51 = Tryz.f51 := by kernel_rfl
@[simp] theorem tb_51 (n : Nat) : tab (n + 1) 51 = some (.pure (run n 51)) := tab_pure (by kernel_rfl) (by kernel_rfl) (by kernel_rfl)
@[simp] theorem fn_53 : fnOf 53 = Tryz.f53 := by kernel_rfl
@[simp] theorem tb_53 (n : Nat) : tab (n + 1) 53 = some (.pure (run n 53)) := tab_pure (by kernel_rfl) (by kernel_rfl) (by kernel_rfl)
@[simp] theorem fn_54 : fnOf 54 = Tryz.f54 := by kernel_rfl
@[simp] theorem lv_54_4 : livesOf 54 4 = [1, 28, 29, 30] := by kernel_rfl
@[simp] theorem lv_54_1000004 : livesOf 54 1000004 = [2] := by kernel_rfl
@[simp] theorem tb_54 (n : Nat) : tab (n + 1) 54 = some (.pure (run n 54)) := tab_pure (by kernel_rfl) (by kernel_rfl) (by kernel_rfl)
@[simp] theorem fn_55 : fnOf 55 = Tryz.f55 := by kernel_rfl
@[simp] theorem lv_55_4 : livesOf 55 4 = [1, 20, 21, 22] := by kernel_rfl
@[simp] theorem lv_55_1000004 : livesOf 55 1000004 = [4] := by kernel_rfl
@[simp] theorem tb_55 (n : Nat) : tab (n + 1) 55 = some (.pure (run n 55)) := tab_pure (by kernel_rfl) (by kernel_rfl) (by kernel_rfl)
@[simp] theorem fn_56 : fnOf 56 = Tryz.f56 := by kernel_rfl
@[simp] theorem lv_56_4 : livesOf 56 4 = [2, 3, 5] := by kernel_rfl
@[simp] theorem lv_56_1000004 : livesOf 56 1000004 = [4] := by kernel_rfl
@[simp] theorem tb_56 (n : Nat) : tab (n + 1) 56 = some (.pure (run n 56)) := tab_pure (by kernel_rfl) (by kernel_rfl) (by kernel_rfl)
@[simp] theorem fn_57 : fnOf 57 = Tryz.f57 := by kernel_rfl
@[simp] theorem tb_57 (n : Nat) : tab (n + 1) 57 = some (.pure (run n 57)) := tab_pure (by kernel_rfl) (by kernel_rfl) (by kernel_rfl)
@[simp] theorem fn_58 : fnOf 58 = Tryz.f58 := by kernel_rfl
@[simp] theorem tb_58 (n : Nat) : tab (n + 1) 58 = some (.lin [true, false] (runL n 58)) := tab_lin (k := false) (by kernel_rfl) (by kernel_rfl) (by kernel_rfl)
@[simp] theorem kp_58 : keepOf 58 = false := by kernel_rfl
@[simp] theorem fn_59 : fnOf 59 = Tryz.f59 := by kernel_rfl
@[simp] theorem tb_59 (n : Nat) : tab (n + 1) 59 = some (.lin [true] (runL n 59)) := tab_lin (k := false) (by kernel_rfl) (by kernel_rfl) (by kernel_rfl)
@[simp] theorem kp_59 : keepOf 59 = false := by kernel_rfl
@[simp] theorem fn_60 : fnOf 60 = Tryz.f60 := by kernel_rfl
@[simp] theorem lv_60_4 : livesOf 60 4 = [1, 3] := by kernel_rfl
@[simp] theorem lv_60_1000004 : livesOf 60 1000004 = [2] := by kernel_rfl
@[simp] theorem tb_60 (n : Nat) : tab (n + 1) 60 = some (.pure (run n 60)) := tab_pure (by kernel_rfl) (by kernel_rfl) (by kernel_rfl)
@[simp] theorem fn_63 : fnOf 63 = Tryz.f63 := by kernel_rfl
@[simp] theorem tb_63 (n : Nat) : tab (n + 1) 63 = some (.lin [false, false, true] (runL n 63)) := tab_lin (k := false) (by kernel_rfl) (by kernel_rfl) (by kernel_rfl)
@[simp] theorem kp_63 : keepOf 63 = false := by kernel_rfl
@[simp] theorem fn_64 : fnOf 64 = Tryz.f64 := by kernel_rfl
@[simp] theorem tb_64 (n : Nat) : tab (n + 1) 64 = some (.lin [true] (runL n 64)) := tab_lin (k := false) (by kernel_rfl) (by kernel_rfl) (by kernel_rfl)
@[simp] theorem kp_64 : keepOf 64 = false := by kernel_rfl
@[simp] theorem fn_65 : fnOf 65 = Tryz.f65 := by kernel_rfl
@[simp] theorem tb_65 (n : Nat) : tab (n + 1) 65 = some (.pure (oItoa)) := tab_num rfl _
@[simp] theorem fn_66 : fnOf 66 = Tryz.f66 := by kernel_rfl
@[simp] theorem tb_66 (n : Nat) : tab (n + 1) 66 = some (.pure (run n 66)) := tab_pure (by kernel_rfl) (by kernel_rfl) (by kernel_rfl)
@[simp] theorem fn_67 : fnOf 67 = Tryz.f67 := by kernel_rfl
@[simp] theorem lv_67_0 : livesOf 67 0 = [0] := by kernel_rfl
@[simp] theorem lv_67_1000000 : livesOf 67 1000000 = [] := by kernel_rfl
@[simp] theorem tb_67 (n : Nat) : tab (n + 1) 67 = some (.lin [true] (runL n 67)) := tab_lin (k := false) (by kernel_rfl) (by kernel_rfl) (by kernel_rfl)
@[simp] theorem kp_67 : keepOf 67 = false := by kernel_rfl
@[simp] theorem fn_68 : fnOf 68 = Tryz.f68 := by kernel_rfl
@[simp] theorem tb_68 (n : Nat) : tab (n + 1) 68 = some (.lin [true, false] (runL n 68)) := tab_lin (k := false) (by kernel_rfl) (by kernel_rfl) (by kernel_rfl)
@[simp] theorem kp_68 : keepOf 68 = false := by kernel_rfl
@[simp] theorem fn_69 : fnOf 69 = Tryz.f69 := by kernel_rfl
@[simp] theorem tb_69 (n : Nat) : tab (n + 1) 69 = some (.lin [true, false, false] (runL n 69)) := tab_lin (k := false) (by kernel_rfl) (by kernel_rfl) (by kernel_rfl)
@[simp] theorem kp_69 : keepOf 69 = false := by kernel_rfl
@[simp] theorem fn_70 : fnOf 70 = Tryz.f70 := by kernel_rfl
@[simp] theorem tb_70 (n : Nat) : tab (n + 1) 70 = some (.pure (run n 70)) := tab_pure (by kernel_rfl) (by kernel_rfl) (by kernel_rfl)
@[simp] theorem fn_71 : fnOf 71 = Tryz.f71 := by kernel_rfl
@[simp] theorem tb_71 (n : Nat) : tab (n + 1) 71 = some (.pure (run n 71)) := tab_pure (by kernel_rfl) (by kernel_rfl) (by kernel_rfl)
@[simp] theorem fn_72 : fnOf 72 = Tryz.f72 := by kernel_rfl
@[simp] theorem lv_72_3 : livesOf 72 3 = [0, 3] := by kernel_rfl
@[simp] theorem lv_72_1000003 : livesOf 72 1000003 = [3] := by kernel_rfl
@[simp] theorem tb_72 (n : Nat) : tab (n + 1) 72 = some (.pure (run n 72)) := tab_pure (by kernel_rfl) (by kernel_rfl) (by kernel_rfl)
@[simp] theorem fn_73 : fnOf 73 = Tryz.f73 := by kernel_rfl
@[simp] theorem tb_73 (n : Nat) : tab (n + 1) 73 = some (.pure (oU fun k => natA (lmb k))) := tab_num rfl _
@[simp] theorem fn_74 : fnOf 74 = Tryz.f74 := by kernel_rfl
@[simp] theorem lv_74_0 : livesOf 74 0 = [0] := by kernel_rfl
@[simp] theorem lv_74_1000000 : livesOf 74 1000000 = [] := by kernel_rfl
@[simp] theorem tb_74 (n : Nat) : tab (n + 1) 74 = some (.lin [true] (runL n 74)) := tab_lin (k := false) (by kernel_rfl) (by kernel_rfl) (by kernel_rfl)
@[simp] theorem kp_74 : keepOf 74 = false := by kernel_rfl
@[simp] theorem fn_75 : fnOf 75 = Tryz.f75 := by kernel_rfl
@[simp] theorem tb_75 (n : Nat) : tab (n + 1) 75 = some (.lin [true] (runL n 75)) := tab_lin (k := false) (by kernel_rfl) (by kernel_rfl) (by kernel_rfl)
@[simp] theorem kp_75 : keepOf 75 = false := by kernel_rfl
@[simp] theorem fn_76 : fnOf 76 = Tryz.f76 := by kernel_rfl
@[simp] theorem tb_76 (n : Nat) : tab (n + 1) 76 = some (.lin [true, false, false] (runL n 76)) := tab_lin (k := false) (by kernel_rfl) (by kernel_rfl) (by kernel_rfl)
@[simp] theorem kp_76 : keepOf 76 = false := by kernel_rfl
@[simp] theorem fn_77 : fnOf 77 = Tryz.f77 := by kernel_rfl
@[simp] theorem lv_77_3 : livesOf 77 3 = [5, 6, 7, 8, 9, ph 7 0 76 4] := by kernel_rfl
@[simp] theorem lv_77_1000003 : livesOf 77 1000003 = [6, 7] := by kernel_rfl
@[simp] theorem tb_77 (n : Nat) : tab (n + 1) 77 = some (.pure (run n 77)) := tab_pure (by kernel_rfl) (by kernel_rfl) (by kernel_rfl)
@[simp] theorem fn_78 : fnOf 78 = Tryz.f78 := by kernel_rfl
@[simp] theorem lv_78_4 : livesOf 78 4 = [1, 3, 5, 6, 7, 8, 9] := by kernel_rfl
@[simp] theorem lv_78_1000004 : livesOf 78 1000004 = [1, 3, 5, 6, 7, 8] := by kernel_rfl
@[simp] theorem tb_78 (n : Nat) : tab (n + 1) 78 = some (.pure (run n 78)) := tab_pure (by kernel_rfl) (by kernel_rfl) (by kernel_rfl)
@[simp] theorem fn_83 : fnOf 83 = Tryz.f83 := by kernel_rfl
@[simp] theorem lv_83_4 : livesOf 83 4 = [0, 1, 5] := by kernel_rfl
@[simp] theorem lv_83_1000004 : livesOf 83 1000004 = [4] := by kernel_rfl
@[simp] theorem tb_83 (n : Nat) : tab (n + 1) 83 = some (.pure (run n 83)) := tab_pure (by kernel_rfl) (by kernel_rfl) (by kernel_rfl)
@[simp] theorem fn_85 : fnOf 85 = Tryz.f85 := by kernel_rfl
@[simp] theorem tb_85 (n : Nat) : tab (n + 1) 85 = some (.pure (run n 85)) := tab_pure (by kernel_rfl) (by kernel_rfl) (by kernel_rfl)
@[simp] theorem fn_86 : fnOf 86 = Tryz.f86 := by kernel_rfl
@[simp] theorem lv_86_3 : livesOf 86 3 = [0, 1, 5, 6] := by kernel_rfl
@[simp] theorem lv_86_7 : livesOf 86 7 = [0, 1, 5, 6, 7, 8] := by kernel_rfl
@[simp] theorem lv_86_1000003 : livesOf 86 1000003 = [5] := by kernel_rfl
@[simp] theorem lv_86_1000007 : livesOf 86 1000007 = [0, 1, 5, 6] := by kernel_rfl
@[simp] theorem tb_86 (n : Nat) : tab (n + 1) 86 = some (.pure (run n 86)) := tab_pure (by kernel_rfl) (by kernel_rfl) (by kernel_rfl)
@[simp] theorem fn_87 : fnOf 87 = Tryz.f87 := by kernel_rfl
@[simp] theorem tb_87 (n : Nat) : tab (n + 1) 87 = some (.pure (run n 87)) := tab_pure (by kernel_rfl) (by kernel_rfl) (by kernel_rfl)
@[simp] theorem fn_88 : fnOf 88 = Tryz.f88 := by kernel_rfl
@[simp] theorem tb_88 (n : Nat) : tab (n + 1) 88 = some (.pure (run n 88)) := tab_pure (by kernel_rfl) (by kernel_rfl) (by kernel_rfl)
@[simp] theorem fn_89 : fnOf 89 = Tryz.f89 := by kernel_rfl
@[simp] theorem tb_89 (n : Nat) : tab (n + 1) 89 = some (.pure (run n 89)) := tab_pure (by kernel_rfl) (by kernel_rfl) (by kernel_rfl)
@[simp] theorem fn_90 : fnOf 90 = Tryz.f90 := by kernel_rfl
@[simp] theorem tb_90 (n : Nat) : tab (n + 1) 90 = some (.lin [true, false] (runL n 90)) := tab_lin (k := true) (by kernel_rfl) (by kernel_rfl) (by kernel_rfl)
@[simp] theorem kp_90 : keepOf 90 = true := by kernel_rfl
@[simp] theorem fn_91 : fnOf 91 = Tryz.f91 := by kernel_rfl
@[simp] theorem tb_91 (n : Nat) : tab (n + 1) 91 = some (.pure (run n 91)) := tab_pure (by kernel_rfl) (by kernel_rfl) (by kernel_rfl)
@[simp] theorem fn_92 : fnOf 92 = Tryz.f92 := by kernel_rfl
@[simp] theorem tb_92 (n : Nat) : tab (n + 1) 92 = some (.pure (run n 92)) := tab_pure (by kernel_rfl) (by kernel_rfl) (by kernel_rfl)
@[simp] theorem fn_94 : fnOf 94 = Tryz.f94 := by kernel_rfl
@[simp] theorem tb_94 (n : Nat) : tab (n + 1) 94 = some (.pure (run n 94)) := tab_pure (by kernel_rfl) (by kernel_rfl) (by kernel_rfl)
@[simp] theorem fn_95 : fnOf 95 = Tryz.f95 := by kernel_rfl
@[simp] theorem tb_95 (n : Nat) : tab (n + 1) 95 = some (.pure (run n 95)) := tab_pure (by kernel_rfl) (by kernel_rfl) (by kernel_rfl)
@[simp] theorem fn_96 : fnOf 96 = Tryz.f96 := by kernel_rfl
@[simp] theorem tb_96 (n : Nat) : tab (n + 1) 96 = some (.lin [true, false] (runL n 96)) := tab_lin (k := false) (by kernel_rfl) (by kernel_rfl) (by kernel_rfl)
@[simp] theorem kp_96 : keepOf 96 = false := by kernel_rfl
@[simp] theorem fn_97 : fnOf 97 = Tryz.f97 := by kernel_rfl
@[simp] theorem tb_97 (n : Nat) : tab (n + 1) 97 = some (.pure (run n 97)) := tab_pure (by kernel_rfl) (by kernel_rfl) (by kernel_rfl)
@[simp] theorem fn_98 : fnOf 98 = Tryz.f98 := by kernel_rfl
@[simp] theorem tb_98 (n : Nat) : tab (n + 1) 98 = some (.lin [true, false, false] (runL n 98)) := tab_lin (k := true) (by kernel_rfl) (by kernel_rfl) (by kernel_rfl)
@[simp] theorem kp_98 : keepOf 98 = true := by kernel_rfl
@[simp] theorem fn_102 : fnOf 102 = Tryz.f102 := by kernel_rfl
@[simp] theorem lv_102_3 : livesOf 102 3 = [1, 5, 6, 13, 14, 15] := by kernel_rfl
@[simp] theorem lv_102_1000003 : livesOf 102 1000003 = [5, 6] := by kernel_rfl
@[simp] theorem tb_102 (n : Nat) : tab (n + 1) 102 = some (.pure (run n 102)) := tab_pure (by kernel_rfl) (by kernel_rfl) (by kernel_rfl)
@[simp] theorem fn_104 : fnOf 104 = Tryz.f104 := by kernel_rfl
@[simp] theorem tb_104 (n : Nat) : tab (n + 1) 104 = some (.pure (run n 104)) := tab_pure (by kernel_rfl) (by kernel_rfl) (by kernel_rfl)
@[simp] theorem fn_105 : fnOf 105 = Tryz.f105 := by kernel_rfl
@[simp] theorem tb_105 (n : Nat) : tab (n + 1) 105 = some (.pure (run n 105)) := tab_pure (by kernel_rfl) (by kernel_rfl) (by kernel_rfl)
@[simp] theorem fn_106 : fnOf 106 = Tryz.f106 := by kernel_rfl
@[simp] theorem tb_106 (n : Nat) : tab (n + 1) 106 = some (.pure (run n 106)) := tab_pure (by kernel_rfl) (by kernel_rfl) (by kernel_rfl)
@[simp] theorem fn_107 : fnOf 107 = Tryz.f107 := by kernel_rfl
@[simp] theorem tb_107 (n : Nat) : tab (n + 1) 107 = some (.lin [true] ccG) := tab_num rfl _
@[simp] theorem fn_108 : fnOf 108 = Tryz.f108 := by kernel_rfl
@[simp] theorem tb_108 (n : Nat) : tab (n + 1) 108 = some (.pure (run n 108)) := tab_pure (by kernel_rfl) (by kernel_rfl) (by kernel_rfl)
@[simp] theorem fn_109 : fnOf 109 = Tryz.f109 := by kernel_rfl
@[simp] theorem tb_109 (n : Nat) : tab (n + 1) 109 = some (.pure (run n 109)) := tab_pure (by kernel_rfl) (by kernel_rfl) (by kernel_rfl)
@[simp] theorem fn_110 : fnOf 110 = Tryz.f110 := by kernel_rfl
@[simp] theorem lv_110_5 : livesOf 110 5 = [0, 3, 4] := by kernel_rfl
@[simp] theorem lv_110_1000005 : livesOf 110 1000005 = [4] := by kernel_rfl
@[simp] theorem tb_110 (n : Nat) : tab (n + 1) 110 = some (.pure (run n 110)) := tab_pure (by kernel_rfl) (by kernel_rfl) (by kernel_rfl)
@[simp] theorem fn_111 : fnOf 111 = Tryz.f111 := by kernel_rfl
@[simp] theorem tb_111 (n : Nat) : tab (n + 1) 111 = some (.pure (oIB)) := tab_num rfl _
@[simp] theorem fn_112 : fnOf 112 = Tryz.f112 := by kernel_rfl
@[simp] theorem tb_112 (n : Nat) : tab (n + 1) 112 = some (.pure (oU fun k => natA (lmb k))) := tab_num rfl _
@[simp] theorem fn_113 : fnOf 113 = Tryz.f113 := by kernel_rfl
@[simp] theorem lv_113_7 : livesOf 113 7 = [0, 1, 8] := by kernel_rfl
@[simp] theorem lv_113_1000007 : livesOf 113 1000007 = [0, 8] := by kernel_rfl
@[simp] theorem tb_113 (n : Nat) : tab (n + 1) 113 = some (.lin [true, false, false] (runL n 113)) := tab_lin (k := false) (by kernel_rfl) (by kernel_rfl) (by kernel_rfl)
@[simp] theorem kp_113 : keepOf 113 = false := by kernel_rfl
@[simp] theorem fn_114 : fnOf 114 = Tryz.f114 := by kernel_rfl
@[simp] theorem lv_114_4 : livesOf 114 4 = [3, 4, 9, 10, 11] := by kernel_rfl
@[simp] theorem lv_114_1000004 : livesOf 114 1000004 = [3] := by kernel_rfl
@[simp] theorem tb_114 (n : Nat) : tab (n + 1) 114 = some (.pure (run n 114)) := tab_pure (by kernel_rfl) (by kernel_rfl) (by kernel_rfl)
@[simp] theorem fn_115 : fnOf 115 = Tryz.f115 := by kernel_rfl
@[simp] theorem tb_115 (n : Nat) : tab (n + 1) 115 = some (.lin [true] (runL n 115)) := tab_lin (k := false) (by kernel_rfl) (by kernel_rfl) (by kernel_rfl)
@[simp] theorem kp_115 : keepOf 115 = false := by kernel_rfl
@[simp] theorem fn_116 : fnOf 116 = Tryz.f116 := by kernel_rfl
@[simp] theorem lv_116_2 : livesOf 116 2 = [0, 3] := by kernel_rfl
@[simp] theorem lv_116_1000002 : livesOf 116 1000002 = [0, 3] := by kernel_rfl
@[simp] theorem tb_116 (n : Nat) : tab (n + 1) 116 = some (.pure (oN1 (fun _ => true) fun x => natA (lmb (val x)))) := tab_num rfl _
@[simp] theorem fn_117 : fnOf 117 = Tryz.f117 := by kernel_rfl
@[simp] theorem lv_117_9 : livesOf 117 9 = [0, 1, 11, 12, 13] := by kernel_rfl
@[simp] theorem lv_117_1000009 : livesOf 117 1000009 = [11, 12] := by kernel_rfl
@[simp] theorem tb_117 (n : Nat) : tab (n + 1) 117 = some (.pure (oND fun x y => .tup [natA (lmb (val x / val y)), natA (lmb (val x % val y)), .lit (.int .i64 0)])) := tab_num rfl _
@[simp] theorem fn_118 : fnOf 118 = Tryz.f118 := by kernel_rfl
@[simp] theorem tb_118 (n : Nat) : tab (n + 1) 118 = some (.pure (oN1 u64N fun x => .tup [.lit (.int .u64 (val x : Nat)), .lit (.bool true)])) := tab_num rfl _
@[simp] theorem fn_119 : fnOf 119 = Tryz.f119 := by kernel_rfl
@[simp] theorem lv_119_8 : livesOf 119 8 = [0, 2, 7, 8] := by kernel_rfl
@[simp] theorem lv_119_1000008 : livesOf 119 1000008 = [0, 7] := by kernel_rfl
@[simp] theorem tb_119 (n : Nat) : tab (n + 1) 119 = some (.lin [true, false, false] (runL n 119)) := tab_lin (k := false) (by kernel_rfl) (by kernel_rfl) (by kernel_rfl)
@[simp] theorem kp_119 : keepOf 119 = false := by kernel_rfl
@[simp] theorem fn_120 : fnOf 120 = Tryz.f120 := by kernel_rfl
@[simp] theorem tb_120 (n : Nat) : tab (n + 1) 120 = some (.lin [true] (runL n 120)) := tab_lin (k := false) (by kernel_rfl) (by kernel_rfl) (by kernel_rfl)
@[simp] theorem kp_120 : keepOf 120 = false := by kernel_rfl
@[simp] theorem fn_121 : fnOf 121 = Tryz.f121 := by kernel_rfl
@[simp] theorem tb_121 (n : Nat) : tab (n + 1) 121 = some (.pure (run n 121)) := tab_pure (by kernel_rfl) (by kernel_rfl) (by kernel_rfl)
@[simp] theorem fn_122 : fnOf 122 = Tryz.f122 := by kernel_rfl
@[simp] theorem tb_122 (n : Nat) : tab (n + 1) 122 = some (.pure (run n 122)) := tab_pure (by kernel_rfl) (by kernel_rfl) (by kernel_rfl)
@[simp] theorem fn_123 : fnOf 123 = Tryz.f123 := by kernel_rfl
@[simp] theorem tb_123 (n : Nat) : tab (n + 1) 123 = some (.pure (run n 123)) := tab_pure (by kernel_rfl) (by kernel_rfl) (by kernel_rfl)
@[simp] theorem fn_124 : fnOf 124 = Tryz.f124 := by kernel_rfl
@[simp] theorem lv_124_6 : livesOf 124 6 = [1, 5, 29, 30, 31] := by kernel_rfl
@[simp] theorem lv_124_10 : livesOf 124 10 = [1, 5, 6, 7, 8, 29, 30, 31, 36, 37, 38] := by kernel_rfl
@[simp] theorem lv_124_1000006 : livesOf 124 1000006 = [5] := by kernel_rfl
@[simp] theorem lv_124_1000010 : livesOf 124 1000010 = [1, 5, 6, 8, 29, 30, 31] := by kernel_rfl
@[simp] theorem tb_124 (n : Nat) : tab (n + 1) 124 = some (.pure (oN2 fun x y => natA (lmb (val x * val y)))) := tab_num rfl _
@[simp] theorem fn_125 : fnOf 125 = Tryz.f125 := by kernel_rfl
@[simp] theorem tb_125 (n : Nat) : tab (n + 1) 125 = some (.pure (run n 125)) := tab_pure (by kernel_rfl) (by kernel_rfl) (by kernel_rfl)
@[simp] theorem fn_126 : fnOf 126 = Tryz.f126 := by kernel_rfl
@[simp] theorem tb_126 (n : Nat) : tab (n + 1) 126 = some (.pure (run n 126)) := tab_pure (by kernel_rfl) (by kernel_rfl) (by kernel_rfl)
@[simp] theorem fn_127 : fnOf 127 = Tryz.f127 := by kernel_rfl
@[simp] theorem tb_127 (n : Nat) : tab (n + 1) 127 = some (.pure (run n 127)) := tab_pure (by kernel_rfl) (by kernel_rfl) (by kernel_rfl)
@[simp] theorem fn_128 : fnOf 128 = Tryz.f128 := by kernel_rfl
@[simp] theorem lv_128_4 : livesOf 128 4 = [0, 1, 12, 13] := by kernel_rfl
@[simp] theorem lv_128_1000004 : livesOf 128 1000004 = [4] := by kernel_rfl
@[simp] theorem tb_128 (n : Nat) : tab (n + 1) 128 = some (.pure (run n 128)) := tab_pure (by kernel_rfl) (by kernel_rfl) (by kernel_rfl)
@[simp] theorem fn_129 : fnOf 129 = Tryz.f129 := by kernel_rfl
@[simp] theorem tb_129 (n : Nat) : tab (n + 1) 129 = some (.pure (run n 129)) := tab_pure (by kernel_rfl) (by kernel_rfl) (by kernel_rfl)
@[simp] theorem fn_130 : fnOf 130 = Tryz.f130 := by kernel_rfl
@[simp] theorem tb_130 (n : Nat) : tab (n + 1) 130 = some (.pure (run n 130)) := tab_pure (by kernel_rfl) (by kernel_rfl) (by kernel_rfl)
@[simp] theorem fn_131 : fnOf 131 = Tryz.f131 := by kernel_rfl
@[simp] theorem lv_131_4 : livesOf 131 4 = [0, 1, 5, 6, 7] := by kernel_rfl
@[simp] theorem lv_131_1000004 : livesOf 131 1000004 = [5, 6] := by kernel_rfl
@[simp] theorem tb_131 (n : Nat) : tab (n + 1) 131 = some (.pure (run n 131)) := tab_pure (by kernel_rfl) (by kernel_rfl) (by kernel_rfl)
@[simp] theorem fn_132 : fnOf 132 = Tryz.f132 := by kernel_rfl
@[simp] theorem lv_132_6 : livesOf 132 6 = [0, 1, 6, 7, 8] := by kernel_rfl
@[simp] theorem lv_132_1000006 : livesOf 132 1000006 = [6] := by kernel_rfl
@[simp] theorem tb_132 (n : Nat) : tab (n + 1) 132 = some (.pure (run n 132)) := tab_pure (by kernel_rfl) (by kernel_rfl) (by kernel_rfl)
@[simp] theorem fn_133 : fnOf 133 = Tryz.f133 := by kernel_rfl
@[simp] theorem lv_133_2 : livesOf 133 2 = [0, 1] := by kernel_rfl
@[simp] theorem lv_133_1000002 : livesOf 133 1000002 = [0] := by kernel_rfl
@[simp] theorem tb_133 (n : Nat) : tab (n + 1) 133 = some (.pure (run n 133)) := tab_pure (by kernel_rfl) (by kernel_rfl) (by kernel_rfl)
@[simp] theorem fn_134 : fnOf 134 = Tryz.f134 := by kernel_rfl
@[simp] theorem tb_134 (n : Nat) : tab (n + 1) 134 = some (.pure (oN1 (fun _ => true) fun x => natA (lmb (val x)))) := tab_num rfl _
@[simp] theorem fn_135 : fnOf 135 = Tryz.f135 := by kernel_rfl
@[simp] theorem lv_135_2 : livesOf 135 2 = [0, 1, 2, 6, 7, 8] := by kernel_rfl
@[simp] theorem lv_135_7 : livesOf 135 7 = [0, 1, 2, 6] := by kernel_rfl
@[simp] theorem lv_135_9 : livesOf 135 9 = [0, 1, 2, 6, 7, 8] := by kernel_rfl
@[simp] theorem lv_135_1000002 : livesOf 135 1000002 = [0, 1, 2, 6, 7] := by kernel_rfl
@[simp] theorem lv_135_1000007 : livesOf 135 1000007 = [] := by kernel_rfl
@[simp] theorem lv_135_1000009 : livesOf 135 1000009 = [0, 1, 2, 6, 7] := by kernel_rfl
@[simp] theorem tb_135 (n : Nat) : tab (n + 1) 135 = some (.lin [true, false, false] (runL n 135)) := tab_lin (k := false) (by kernel_rfl) (by kernel_rfl) (by kernel_rfl)
@[simp] theorem kp_135 : keepOf 135 = false := by kernel_rfl
@[simp] theorem fn_136 : fnOf 136 = Tryz.f136 := by kernel_rfl
@[simp] theorem tb_136 (n : Nat) : tab (n + 1) 136 = some (.pure (run n 136)) := tab_pure (by kernel_rfl) (by kernel_rfl) (by kernel_rfl)
@[simp] theorem fn_137 : fnOf 137 = Tryz.f137 := by kernel_rfl
@[simp] theorem tb_137 (n : Nat) : tab (n + 1) 137 = some (.pure (run n 137)) := tab_pure (by kernel_rfl) (by kernel_rfl) (by kernel_rfl)
@[simp] theorem fn_138 : fnOf 138 = Tryz.f138 := by kernel_rfl
@[simp] theorem tb_138 (n : Nat) : tab (n + 1) 138 = some (.pure (run n 138)) := tab_pure (by kernel_rfl) (by kernel_rfl) (by kernel_rfl)
@[simp] theorem fn_139 : fnOf 139 = Tryz.f139 := by kernel_rfl
@[simp] theorem lv_139_7 : livesOf 139 7 = [0, 1, 5] := by kernel_rfl
@[simp] theorem lv_139_1000007 : livesOf 139 1000007 = [4] := by kernel_rfl
@[simp] theorem tb_139 (n : Nat) : tab (n + 1) 139 = some (.pure (run n 139)) := tab_pure (by kernel_rfl) (by kernel_rfl) (by kernel_rfl)
@[simp] theorem fn_141 : fnOf 141 = Tryz.f141 := by kernel_rfl
@[simp] theorem tb_141 (n : Nat) : tab (n + 1) 141 = some (.pure (run n 141)) := tab_pure (by kernel_rfl) (by kernel_rfl) (by kernel_rfl)
@[simp] theorem fn_142 : fnOf 142 = Tryz.f142 := by kernel_rfl
@[simp] theorem lv_142_13 : livesOf 142 13 = [9, 10, 11, 12, 13] := by kernel_rfl
@[simp] theorem lv_142_1000013 : livesOf 142 1000013 = [9, 10, 12] := by kernel_rfl
@[simp] theorem tb_142 (n : Nat) : tab (n + 1) 142 = some (.pure (oND fun x y => .tup [natA (lmb (val x / val y)), natA (lmb (val x % val y)), .lit (.int .i64 0)])) := tab_num rfl _
@[simp] theorem fn_143 : fnOf 143 = Tryz.f143 := by kernel_rfl
@[simp] theorem lv_143_6 : livesOf 143 6 = [4, 12, 13, 14] := by kernel_rfl
@[simp] theorem lv_143_1000006 : livesOf 143 1000006 = [4] := by kernel_rfl
@[simp] theorem tb_143 (n : Nat) : tab (n + 1) 143 = some (.pure (oN1 u64N fun x => .tup [.lit (.int .u64 (val x : Nat)), .lit (.bool true)])) := tab_num rfl _
@[simp] theorem fn_144 : fnOf 144 = Tryz.f144 := by kernel_rfl
@[simp] theorem tb_144 (n : Nat) : tab (n + 1) 144 = some (.pure (oFU)) := tab_num rfl _
@[simp] theorem fn_145 : fnOf 145 = Tryz.f145 := by kernel_rfl
@[simp] theorem lv_145_38 : livesOf 145 38 = [7, 8, 9] := by kernel_rfl
@[simp] theorem lv_145_1000038 : livesOf 145 1000038 = [9] := by kernel_rfl
@[simp] theorem tb_145 (n : Nat) : tab (n + 1) 145 = some (.pure (oRepeat)) := tab_num rfl _
@[simp] theorem fn_146 : fnOf 146 = Tryz.f146 := by kernel_rfl
@[simp] theorem lv_146_1 : livesOf 146 1 = [0, 2, 3] := by kernel_rfl
@[simp] theorem lv_146_1000001 : livesOf 146 1000001 = [] := by kernel_rfl
@[simp] theorem tb_146 (n : Nat) : tab (n + 1) 146 = some (.lin [true] (runL n 146)) := tab_lin (k := false) (by kernel_rfl) (by kernel_rfl) (by kernel_rfl)
@[simp] theorem kp_146 : keepOf 146 = false := by kernel_rfl
@[simp] theorem fn_147 : fnOf 147 = Tryz.f147 := by kernel_rfl
@[simp] theorem lv_147_12 : livesOf 147 12 = [0, 1, 5, 39, 40, 41] := by kernel_rfl
@[simp] theorem lv_147_22 : livesOf 147 22 = [1, 8, 63, 64, 65] := by kernel_rfl
@[simp] theorem lv_147_1000012 : livesOf 147 1000012 = [0, 1, 5] := by kernel_rfl
@[simp] theorem lv_147_1000022 : livesOf 147 1000022 = [8] := by kernel_rfl
@[simp] theorem tb_147 (n : Nat) : tab (n + 1) 147 = some (.pure (oJoin)) := tab_num rfl _
@[simp] theorem fn_148 : fnOf 148 = Tryz.f148 := by kernel_rfl
@[simp] theorem tb_148 (n : Nat) : tab (n + 1) 148 = some (.pure (run n 148)) := tab_pure (by kernel_rfl) (by kernel_rfl) (by kernel_rfl)
@[simp] theorem fn_149 : fnOf 149 = Tryz.f149 := by kernel_rfl
@[simp] theorem lv_149_2 : livesOf 149 2 = [0, 3] := by kernel_rfl
@[simp] theorem lv_149_1000002 : livesOf 149 1000002 = [0, 3] := by kernel_rfl
@[simp] theorem tb_149 (n : Nat) : tab (n + 1) 149 = some (.pure (run n 149)) := tab_pure (by kernel_rfl) (by kernel_rfl) (by kernel_rfl)
@[simp] theorem fn_150 : fnOf 150 = Tryz.f150 := by kernel_rfl
@[simp] theorem lv_150_7 : livesOf 150 7 = [0, 1, 5, 6, 24, 25, 26] := by kernel_rfl
@[simp] theorem lv_150_1000007 : livesOf 150 1000007 = [0, 5, 6] := by kernel_rfl
@[simp] theorem tb_150 (n : Nat) : tab (n + 1) 150 = some (.pure (oN2 fun x y => natA (lmb (val x + val y)))) := tab_num rfl _
@[simp] theorem fn_151 : fnOf 151 = Tryz.f151 := by kernel_rfl
@[simp] theorem tb_151 (n : Nat) : tab (n + 1) 151 = some (.pure (oAtoi)) := tab_num rfl _
@[simp] theorem fn_152 : fnOf 152 = Tryz.f152 := by kernel_rfl
@[simp] theorem lv_152_6 : livesOf 152 6 = [3, 4] := by kernel_rfl
@[simp] theorem lv_152_1000006 : livesOf 152 1000006 = [3] := by kernel_rfl
@[simp] theorem tb_152 (n : Nat) : tab (n + 1) 152 = some (.pure (run n 152)) := tab_pure (by kernel_rfl) (by kernel_rfl) (by kernel_rfl)
@[simp] theorem fn_153 : fnOf 153 = Tryz.f153 := by kernel_rfl
@[simp] theorem lv_153_4 : livesOf 153 4 = [0, 1, 5, 6, 7] := by kernel_rfl
@[simp] theorem lv_153_1000004 : livesOf 153 1000004 = [5, 6] := by kernel_rfl
@[simp] theorem tb_153 (n : Nat) : tab (n + 1) 153 = some (.pure (run n 153)) := tab_pure (by kernel_rfl) (by kernel_rfl) (by kernel_rfl)
@[simp] theorem fn_154 : fnOf 154 = Tryz.f154 := by kernel_rfl
@[simp] theorem lv_154_2 : livesOf 154 2 = [0, 1, 5] := by kernel_rfl
@[simp] theorem lv_154_1000002 : livesOf 154 1000002 = [4] := by kernel_rfl
@[simp] theorem tb_154 (n : Nat) : tab (n + 1) 154 = some (.pure (run n 154)) := tab_pure (by kernel_rfl) (by kernel_rfl) (by kernel_rfl)
@[simp] theorem fn_155 : fnOf 155 = Tryz.f155 := by kernel_rfl
@[simp] theorem tb_155 (n : Nat) : tab (n + 1) 155 = some (.pure (run n 155)) := tab_pure (by kernel_rfl) (by kernel_rfl) (by kernel_rfl)
@[simp] theorem fn_156 : fnOf 156 = Tryz.f156 := by kernel_rfl
@[simp] theorem tb_156 (n : Nat) : tab (n + 1) 156 = some (.pure (run n 156)) := tab_pure (by kernel_rfl) (by kernel_rfl) (by kernel_rfl)
@[simp] theorem fn_157 : fnOf 157 = Tryz.f157 := by kernel_rfl
@[simp] theorem lv_157_7 : livesOf 157 7 = [1, 6, 7, 22, 23, 24] := by kernel_rfl
@[simp] theorem lv_157_1000007 : livesOf 157 1000007 = [6] := by kernel_rfl
@[simp] theorem tb_157 (n : Nat) : tab (n + 1) 157 = some (.pure (run n 157)) := tab_pure (by kernel_rfl) (by kernel_rfl) (by kernel_rfl)
@[simp] theorem fn_158 : fnOf 158 = Tryz.f158 := by kernel_rfl
@[simp] theorem tb_158 (n : Nat) : tab (n + 1) 158 = some (.pure (run n 158)) := tab_pure (by kernel_rfl) (by kernel_rfl) (by kernel_rfl)
@[simp] theorem fn_159 : fnOf 159 = Tryz.f159 := by kernel_rfl
@[simp] theorem lv_159_2 : livesOf 159 2 = [0, 1] := by kernel_rfl
@[simp] theorem lv_159_10 : livesOf 159 10 = [11, 13] := by kernel_rfl
@[simp] theorem lv_159_1000002 : livesOf 159 1000002 = [0, 1] := by kernel_rfl
@[simp] theorem lv_159_1000010 : livesOf 159 1000010 = [11] := by kernel_rfl
@[simp] theorem tb_159 (n : Nat) : tab (n + 1) 159 = some (.pure (run n 159)) := tab_pure (by kernel_rfl) (by kernel_rfl) (by kernel_rfl)
@[simp] theorem fn_160 : fnOf 160 = Tryz.f160 := by kernel_rfl
@[simp] theorem tb_160 (n : Nat) : tab (n + 1) 160 = some (.pure (run n 160)) := tab_pure (by kernel_rfl) (by kernel_rfl) (by kernel_rfl)
@[simp] theorem fn_161 : fnOf 161 = Tryz.f161 := by kernel_rfl
@[simp] theorem tb_161 (n : Nat) : tab (n + 1) 161 = some (.pure (run n 161)) := tab_pure (by kernel_rfl) (by kernel_rfl) (by kernel_rfl)
@[simp] theorem fn_162 : fnOf 162 = Tryz.f162 := by kernel_rfl
@[simp] theorem tb_162 (n : Nat) : tab (n + 1) 162 = some (.pure (run n 162)) := tab_pure (by kernel_rfl) (by kernel_rfl) (by kernel_rfl)
@[simp] theorem fn_163 : fnOf 163 = Tryz.f163 := by kernel_rfl
@[simp] theorem lv_163_1 : livesOf 163 1 = [0, 1, 2, 3, 8] := by kernel_rfl
@[simp] theorem lv_163_4 : livesOf 163 4 = [0, 1, 2, 3, 8, 9] := by kernel_rfl
@[simp] theorem lv_163_1000001 : livesOf 163 1000001 = [] := by kernel_rfl
@[simp] theorem lv_163_1000004 : livesOf 163 1000004 = [0, 1, 2, 3, 8] := by kernel_rfl
@[simp] theorem tb_163 (n : Nat) : tab (n + 1) 163 = some (.lin [true, false, false, false] (runL n 163)) := tab_lin (k := false) (by kernel_rfl) (by kernel_rfl) (by kernel_rfl)
@[simp] theorem kp_163 : keepOf 163 = false := by kernel_rfl
@[simp] theorem fn_164 : fnOf 164 = Tryz.f164 := by kernel_rfl
@[simp] theorem lv_164_3 : livesOf 164 3 = [0, 1, 4, 10, 11] := by kernel_rfl
@[simp] theorem lv_164_9 : livesOf 164 9 = [0, 10, 13] := by kernel_rfl
@[simp] theorem lv_164_15 : livesOf 164 15 = [0, 2, 4, 14, 15] := by kernel_rfl
@[simp] theorem lv_164_21 : livesOf 164 21 = [0, 14, 17] := by kernel_rfl
@[simp] theorem lv_164_33 : livesOf 164 33 = [0, 1, 2, 3, 4, 18, 19, 20, 21, 22] := by kernel_rfl
@[simp] theorem lv_164_1000003 : livesOf 164 1000003 = [0, 1, 10] := by kernel_rfl
@[simp] theorem lv_164_1000009 : livesOf 164 1000009 = [] := by kernel_rfl
@[simp] theorem lv_164_1000015 : livesOf 164 1000015 = [0, 2, 14] := by kernel_rfl
@[simp] theorem lv_164_1000021 : livesOf 164 1000021 = [] := by kernel_rfl
@[simp] theorem lv_164_1000033 : livesOf 164 1000033 = [0, 1, 2, 3, 4, 18, 19, 20] := by kernel_rfl
@[simp] theorem tb_164 (n : Nat) : tab (n + 1) 164 = some (.lin [true, false, false, false, false] (runL n 164)) := tab_lin (k := false) (by kernel_rfl) (by kernel_rfl) (by kernel_rfl)
@[simp] theorem kp_164 : keepOf 164 = false := by kernel_rfl
@[simp] theorem fn_165 : fnOf 165 = Tryz.f165 := by kernel_rfl
@[simp] theorem tb_165 (n : Nat) : tab (n + 1) 165 = some (.pure (run n 165)) := tab_pure (by kernel_rfl) (by kernel_rfl) (by kernel_rfl)
@[simp] theorem fn_166 : fnOf 166 = Tryz.f166 := by kernel_rfl
@[simp] theorem tb_166 (n : Nat) : tab (n + 1) 166 = some (.pure (run n 166)) := tab_pure (by kernel_rfl) (by kernel_rfl) (by kernel_rfl)
@[simp] theorem fn_167 : fnOf 167 = Tryz.f167 := by kernel_rfl
@[simp] theorem lv_167_1 : livesOf 167 1 = [0, 1, 4] := by kernel_rfl
@[simp] theorem lv_167_1000001 : livesOf 167 1000001 = [0, 1, 4] := by kernel_rfl
@[simp] theorem tb_167 (n : Nat) : tab (n + 1) 167 = some (.lin [true, false] (runL n 167)) := tab_lin (k := false) (by kernel_rfl) (by kernel_rfl) (by kernel_rfl)
@[simp] theorem kp_167 : keepOf 167 = false := by kernel_rfl
@[simp] theorem fn_168 : fnOf 168 = Tryz.f168 := by kernel_rfl
@[simp] theorem lv_168_11 : livesOf 168 11 = [0, 1, 3, 4, 10, 11, 12, 13, 14, 15, 16] := by kernel_rfl
@[simp] theorem lv_168_18 : livesOf 168 18 = [0, 1, 3, 4, 10, 11, 12, 13, 17] := by kernel_rfl
@[simp] theorem lv_168_1000011 : livesOf 168 1000011 = [0, 1, 3, 4, 10, 11, 12, 13] := by kernel_rfl
@[simp] theorem lv_168_1000018 : livesOf 168 1000018 = [0, 1, 3, 4, 10, 11, 12, 13] := by kernel_rfl
@[simp] theorem tb_168 (n : Nat) : tab (n + 1) 168 = some (.lin [true, false, false, false, false] (runL n 168)) := tab_lin (k := true) (by kernel_rfl) (by kernel_rfl) (by kernel_rfl)
@[simp] theorem kp_168 : keepOf 168 = true := by kernel_rfl
@[simp] theorem fn_169 : fnOf 169 = Tryz.f169 := by kernel_rfl
@[simp] theorem lv_169_4 : livesOf 169 4 = [0, 1, 6, 7, 8] := by kernel_rfl
@[simp] theorem lv_169_1000004 : livesOf 169 1000004 = [6, 7] := by kernel_rfl
@[simp] theorem tb_169 (n : Nat) : tab (n + 1) 169 = some (.pure (run n 169)) := tab_pure (by kernel_rfl) (by kernel_rfl) (by kernel_rfl)
@[simp] theorem fn_170 : fnOf 170 = Tryz.f170 := by kernel_rfl
@[simp] theorem tb_170 (n : Nat) : tab (n + 1) 170 = some (.pure (run n 170)) := tab_pure (by kernel_rfl) (by kernel_rfl) (by kernel_rfl)
@[simp] theorem fn_171 : fnOf 171 = Tryz.f171 := by kernel_rfl
@[simp] theorem lv_171_3 : livesOf 171 3 = [1, 5, 13, 14, 15] := by kernel_rfl
@[simp] theorem lv_171_1000003 : livesOf 171 1000003 = [5] := by kernel_rfl
@[simp] theorem tb_171 (n : Nat) : tab (n + 1) 171 = some (.pure (run n 171)) := tab_pure (by kernel_rfl) (by kernel_rfl) (by kernel_rfl)
@[simp] theorem fn_172 : fnOf 172 = Tryz.f172 := by kernel_rfl
@[simp] theorem lv_172_3 : livesOf 172 3 = [0, 1, 2, 7, 8, 15, 16, 17] := by kernel_rfl
@[simp] theorem lv_172_17 : livesOf 172 17 = [0, 1, 2, 7, 70, 71, 72] := by kernel_rfl
@[simp] theorem lv_172_1000003 : livesOf 172 1000003 = [0, 1, 2, 7, 8] := by kernel_rfl
@[simp] theorem lv_172_1000017 : livesOf 172 1000017 = [0, 1, 2, 7] := by kernel_rfl
@[simp] theorem tb_172 (n : Nat) : tab (n + 1) 172 = some (.lin [true, false, false] (runL n 172)) := tab_lin (k := false) (by kernel_rfl) (by kernel_rfl) (by kernel_rfl)
@[simp] theorem kp_172 : keepOf 172 = false := by kernel_rfl
@[simp] theorem fn_173 : fnOf 173 = Tryz.f173 := by kernel_rfl
@[simp] theorem lv_173_4 : livesOf 173 4 = [0, 1, 5, 7, 8] := by kernel_rfl
@[simp] theorem lv_173_1000004 : livesOf 173 1000004 = [7] := by kernel_rfl
@[simp] theorem tb_173 (n : Nat) : tab (n + 1) 173 = some (.pure (run n 173)) := tab_pure (by kernel_rfl) (by kernel_rfl) (by kernel_rfl)
@[simp] theorem fn_174 : fnOf 174 = Tryz.f174 := by kernel_rfl
@[simp] theorem lv_174_9 : livesOf 174 9 = [0, 1, 6, 30, 31, 32] := by kernel_rfl
@[simp] theorem lv_174_1000009 : livesOf 174 1000009 = [6] := by kernel_rfl
@[simp] theorem tb_174 (n : Nat) : tab (n + 1) 174 = some (.pure (run n 174)) := tab_pure (by kernel_rfl) (by kernel_rfl) (by kernel_rfl)
@[simp] theorem fn_175 : fnOf 175 = Tryz.f175 := by kernel_rfl
@[simp] theorem tb_175 (n : Nat) : tab (n + 1) 175 = some (.pure (run n 175)) := tab_pure (by kernel_rfl) (by kernel_rfl) (by kernel_rfl)
@[simp] theorem fn_176 : fnOf 176 = Tryz.f176 := by kernel_rfl
@[simp] theorem tb_176 (n : Nat) : tab (n + 1) 176 = some (.pure (run n 176)) := tab_pure (by kernel_rfl) (by kernel_rfl) (by kernel_rfl)
@[simp] theorem fn_177 : fnOf 177 = Tryz.f177 := by kernel_rfl
@[simp] theorem tb_177 (n : Nat) : tab (n + 1) 177 = some (.pure (run n 177)) := tab_pure (by kernel_rfl) (by kernel_rfl) (by kernel_rfl)
@[simp] theorem fn_178 : fnOf 178 = Tryz.f178 := by kernel_rfl
@[simp] theorem tb_178 (n : Nat) : tab (n + 1) 178 = some (.lin [true, false] (runL n 178)) := tab_lin (k := false) (by kernel_rfl) (by kernel_rfl) (by kernel_rfl)
@[simp] theorem kp_178 : keepOf 178 = false := by kernel_rfl
@[simp] theorem fn_180 : fnOf 180 = Tryz.f180 := by kernel_rfl
@[simp] theorem lv_180_10 : livesOf 180 10 = [5, 6, 47, 48, 49] := by kernel_rfl
@[simp] theorem lv_180_1000010 : livesOf 180 1000010 = [2, 3, 5, 6] := by kernel_rfl
@[simp] theorem tb_180 (n : Nat) : tab (n + 1) 180 = some (.pure (run n 180)) := tab_pure (by kernel_rfl) (by kernel_rfl) (by kernel_rfl)
@[simp] theorem fn_181 : fnOf 181 = Tryz.f181 := by kernel_rfl
@[simp] theorem tb_181 (n : Nat) : tab (n + 1) 181 = some (.pure (run n 181)) := tab_pure (by kernel_rfl) (by kernel_rfl) (by kernel_rfl)
@[simp] theorem fn_182 : fnOf 182 = Tryz.f182 := by kernel_rfl
@[simp] theorem tb_182 (n : Nat) : tab (n + 1) 182 = some (.pure (run n 182)) := tab_pure (by kernel_rfl) (by kernel_rfl) (by kernel_rfl)
@[simp] theorem fn_183 : fnOf 183 = Tryz.f183 := by kernel_rfl
@[simp] theorem lv_183_2 : livesOf 183 2 = [0, 2, 4, 10, 11] := by kernel_rfl
@[simp] theorem lv_183_1000002 : livesOf 183 1000002 = [0, 2, 4, 10] := by kernel_rfl
@[simp] theorem tb_183 (n : Nat) : tab (n + 1) 183 = some (.lin [true, false, false, false, false] (runL n 183)) := tab_lin (k := false) (by kernel_rfl) (by kernel_rfl) (by kernel_rfl)
@[simp] theorem kp_183 : keepOf 183 = false := by kernel_rfl
@[simp] theorem fn_184 : fnOf 184 = Tryz.f184 := by kernel_rfl
@[simp] theorem tb_184 (n : Nat) : tab (n + 1) 184 = some (.pure (run n 184)) := tab_pure (by kernel_rfl) (by kernel_rfl) (by kernel_rfl)
@[simp] theorem fn_185 : fnOf 185 = Tryz.f185 := by kernel_rfl
@[simp] theorem tb_185 (n : Nat) : tab (n + 1) 185 = some (.pure (run n 185)) := tab_pure (by kernel_rfl) (by kernel_rfl) (by kernel_rfl)
@[simp] theorem fn_186 : fnOf 186 = Tryz.f186 := by kernel_rfl
@[simp] theorem tb_186 (n : Nat) : tab (n + 1) 186 = some (.pure (run n 186)) := tab_pure (by kernel_rfl) (by kernel_rfl) (by kernel_rfl)
@[simp] theorem fn_187 : fnOf 187 = Tryz.f187 := by kernel_rfl
@[simp] theorem tb_187 (n : Nat) : tab (n + 1) 187 = some (.pure (run n 187)) := tab_pure (by kernel_rfl) (by kernel_rfl) (by kernel_rfl)
@[simp] theorem fn_188 : fnOf 188 = Tryz.f188 := by kernel_rfl
@[simp] theorem tb_188 (n : Nat) : tab (n + 1) 188 = some (.pure (run n 188)) := tab_pure (by kernel_rfl) (by kernel_rfl) (by kernel_rfl)
@[simp] theorem fn_189 : fnOf 189 = Tryz.f189 := by kernel_rfl
@[simp] theorem tb_189 (n : Nat) : tab (n + 1) 189 = some (.pure (run n 189)) := tab_pure (by kernel_rfl) (by kernel_rfl) (by kernel_rfl)
@[simp] theorem fn_190 : fnOf 190 = Tryz.f190 := by kernel_rfl
@[simp] theorem tb_190 (n : Nat) : tab (n + 1) 190 = some (.pure (run n 190)) := tab_pure (by kernel_rfl) (by kernel_rfl) (by kernel_rfl)
@[simp] theorem fn_191 : fnOf 191 = Tryz.f191 := by kernel_rfl
@[simp] theorem tb_191 (n : Nat) : tab (n + 1) 191 = some (.pure (run n 191)) := tab_pure (by kernel_rfl) (by kernel_rfl) (by kernel_rfl)
@[simp] theorem fn_192 : fnOf 192 = Tryz.f192 := by kernel_rfl
@[simp] theorem tb_192 (n : Nat) : tab (n + 1) 192 = some (.lin [true, false] (runL n 192)) := tab_lin (k := false) (by kernel_rfl) (by kernel_rfl) (by kernel_rfl)
@[simp] theorem kp_192 : keepOf 192 = false := by kernel_rfl
@[simp] theorem fn_193 : fnOf 193 = Tryz.f193 := by kernel_rfl
@[simp] theorem tb_193 (n : Nat) : tab (n + 1) 193 = some (.pure (run n 193)) := tab_pure (by kernel_rfl) (by kernel_rfl) (by kernel_rfl)
@[simp] theorem fn_194 : fnOf 194 = Tryz.f194 := by kernel_rfl
@[simp] theorem tb_194 (n : Nat) : tab (n + 1) 194 = some (.lin [] (runL n 194)) := tab_lin (k := true) (by kernel_rfl) (by kernel_rfl) (by kernel_rfl)
@[simp] theorem kp_194 : keepOf 194 = true := by kernel_rfl
@[simp] theorem fn_195 : fnOf 195 = Tryz.f195 := by kernel_rfl
@[simp] theorem tb_195 (n : Nat) : tab (n + 1) 195 = some (.lin [] (runL n 195)) := tab_lin (k := true) (by kernel_rfl) (by kernel_rfl) (by kernel_rfl)
@[simp] theorem kp_195 : keepOf 195 = true := by kernel_rfl
@[simp] theorem fn_196 : fnOf 196 = Tryz.f196 := by kernel_rfl
@[simp] theorem tb_196 (n : Nat) : tab (n + 1) 196 = some (.lin [] (runL n 196)) := tab_lin (k := true) (by kernel_rfl) (by kernel_rfl) (by kernel_rfl)
@[simp] theorem kp_196 : keepOf 196 = true := by kernel_rfl
@[simp] theorem fn_197 : fnOf 197 = Tryz.f197 := by kernel_rfl
@[simp] theorem tb_197 (n : Nat) : tab (n + 1) 197 = some (.lin [] (runL n 197)) := tab_lin (k := true) (by kernel_rfl) (by kernel_rfl) (by kernel_rfl)
@[simp] theorem kp_197 : keepOf 197 = true := by kernel_rfl
@[simp] theorem fn_198 : fnOf 198 = Tryz.f198 := by kernel_rfl
@[simp] theorem lv_198_1 : livesOf 198 1 = [0, 1, 2, 3, 10] := by kernel_rfl
@[simp] theorem lv_198_1000001 : livesOf 198 1000001 = [] := by kernel_rfl
@[simp] theorem tb_198 (n : Nat) : tab (n + 1) 198 = some (.lin [true, false, false, false, false] (runL n 198)) := tab_lin (k := false) (by kernel_rfl) (by kernel_rfl) (by kernel_rfl)
@[simp] theorem kp_198 : keepOf 198 = false := by kernel_rfl
@[simp] theorem fn_199 : fnOf 199 = Tryz.f199 := by kernel_rfl
@[simp] theorem tb_199 (n : Nat) : tab (n + 1) 199 = some (.pure (run n 199)) := tab_pure (by kernel_rfl) (by kernel_rfl) (by kernel_rfl)
@[simp] theorem fn_200 : fnOf 200 = Tryz.f200 := by kernel_rfl
@[simp] theorem tb_200 (n : Nat) : tab (n + 1) 200 = some (.pure (run n 200)) := tab_pure (by kernel_rfl) (by kernel_rfl) (by kernel_rfl)
@[simp] theorem fn_202 : fnOf 202 = Tryz.f202 := by kernel_rfl
@[simp] theorem lv_202_36 : livesOf 202 36 = [1, 8, 9, 10, 11, 12, 13, 99, 100, 101] := by kernel_rfl
@[simp] theorem lv_202_1000036 : livesOf 202 1000036 = [6, 7, 9, 12, 13] := by kernel_rfl
@[simp] theorem tb_202 (n : Nat) : tab (n + 1) 202 = some (.pure (run n 202)) := tab_pure (by kernel_rfl) (by kernel_rfl) (by kernel_rfl)
@[simp] theorem fn_203 : fnOf 203 = Tryz.f203 := by kernel_rfl
@[simp] theorem tb_203 (n : Nat) : tab (n + 1) 203 = some (.pure (run n 203)) := tab_pure (by kernel_rfl) (by kernel_rfl) (by kernel_rfl)
@[simp] theorem fn_204 : fnOf 204 = Tryz.f204 := by kernel_rfl
@[simp] theorem tb_204 (n : Nat) : tab (n + 1) 204 = some (.pure (run n 204)) := tab_pure (by kernel_rfl) (by kernel_rfl) (by kernel_rfl)
@[simp] theorem fn_205 : fnOf 205 = Tryz.f205 := by kernel_rfl
@[simp] theorem tb_205 (n : Nat) : tab (n + 1) 205 = some (.pure (run n 205)) := tab_pure (by kernel_rfl) (by kernel_rfl) (by kernel_rfl)
@[simp] theorem fn_206 : fnOf 206 = Tryz.f206 := by kernel_rfl
@[simp] theorem lv_206_10 : livesOf 206 10 = [0, 3, 4, 5] := by kernel_rfl
@[simp] theorem lv_206_1000010 : livesOf 206 1000010 = [2, 3] := by kernel_rfl
@[simp] theorem tb_206 (n : Nat) : tab (n + 1) 206 = some (.pure (run n 206)) := tab_pure (by kernel_rfl) (by kernel_rfl) (by kernel_rfl)
@[simp] theorem fn_234 : fnOf 234 = Tryz.f234 := by kernel_rfl
@[simp] theorem tb_234 (n : Nat) : tab (n + 1) 234 = some (.pure (run n 234)) := tab_pure (by kernel_rfl) (by kernel_rfl) (by kernel_rfl)
end Go.Proofs.YthkkmokbjmempaaGreatDoor
