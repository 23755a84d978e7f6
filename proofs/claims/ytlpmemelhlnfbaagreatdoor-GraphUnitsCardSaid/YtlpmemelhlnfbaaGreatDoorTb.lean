/- The table of callees: live slots, modes. -/
import Derived.Test.YtlpmemelhlnfbaaGreatDoorCn
import Derived.Test.YtlpmemelhlnfbaaGreatDoorQ3
set_option linter.all false
set_option linter.all false
set_option maxRecDepth 100000
namespace Go.Proofs.YtlpmemelhlnfbaaGreatDoor
open Go.RowKit
def livesT : List (Nat × List (Nat × List Nat)) := [(7, [(12, [5, 7, 9, 11]), (1000012, [4])]), (15, [(4, [1, 3]), (12, [1, 3, 4, 5]), (1000004, [2]), (1000012, [1, 2, 3])]), (16, [(6, [3, 16, 17, 18]), (1000006, [3])]), (17, [(5, [1, 3, 4]), (1000005, [3])]), (25, [(4, [1, 3]), (1000004, [1, 2])]), (27, [(4, [1, 5, 6, 7]), (1000004, [6])]), (28, [(6, [1, 3, 18, 19, 20]), (11, [3, 39, 40, 41]), (1000006, [1, 3]), (1000011, [3])]), (29, [(5, [1, 3, 4]), (9, [1, 3, 5]), (1000005, [1, 3]), (1000009, [3])]), (31, [(2, [0, 3]), (1000002, [0, 2])]), (34, [(6, [6, 9, 25, 26, 27]), (1000006, [9])]), (35, [(5, [1, 2, 6, 7]), (9, [2, 6, 8]), (1000005, [2, 6]), (1000009, [6])]), (38, [(4, [0, 1, 5]), (1000004, [4])]), (41, [(4, [1, 32, 33, 34]), (1000004, [1, 2])]), (45, [(5, [1, 2, 4, 6, 31, 32]), (10, [1, 2, 4, 6, 39, 40, 41]), (19, [2, 4, 10, 11, 71, 72, 73]), (1000005, [1, 2, 4, 6]), (1000010, [1, 2, 4, 5, 6]), (1000019, [2, 4, 5, 10, 11])]), (46, [(5, [1, 2, 4, 6, 7]), (11, [1, 2, 4, 6, 8]), (18, [1, 2, 4, 6, 9, 10]), (22, [2, 4, 6, 9, 11]), (1000005, [1, 2, 4, 6]), (1000011, [1, 2, 4, 5, 6]), (1000018, [2, 4, 6, 9]), (1000022, [4, 9])]), (47, [(12, [1, 2, 4, 8, 11, 12, 50, 51, 52]), (1000012, [2, 4, 8, 12])]), (48, [(8, [1, 2, 4, 7, 8]), (19, [1, 2, 4, 7, 9, 13, 14]), (23, [1, 2, 4, 7, 9, 13, 15]), (1000008, [1, 2, 4, 7]), (1000019, [1, 2, 4, 7, 9, 13]), (1000023, [4, 13])]), (51, [(2, [1, 2, 5]), (1000002, [2, 4])]), (52, [(4, [1, 3, 4, 11, 12, 13]), (1000004, [1, 3, 4])]), (53, [(7, [0, 2, 5, 6, 7]), (1000007, [2, 3, 4])]), (54, [(3, [1, 3, 4]), (1000003, [1, 3])]), (55, [(4, [2, 3, 5]), (1000004, [4])]), (56, [(4, [0, 2, 5, 6, 7]), (1000004, [2, 3, 4, 5])]), (57, [(4, [0, 5]), (1000004, [4])]), (58, [(7, [4, 6, 7, 8]), (9, [4, 6, 7, 8, 9, 10]), (1000007, [4, 7]), (1000009, [4, 6, 7, 8, 9, 10])]), (59, [(3, [0, 4, 6, 7, ph 6 0 0 0]), (1000003, [4, 5, 6])]), (60, [(2, [1, 2, 8, 9, 10]), (1000002, [2, 4])]), (61, [(8, [1, 2, 4, 5, 41, 42]), (13, [1, 2, 4, 5, 57, 58]), (1000008, [1, 2, 4, 5]), (1000013, [2, 5])]), (65, [(4, [1, 28, 29, 30]), (1000004, [2])]), (66, [(4, [1, 20, 21, 22]), (1000004, [4])]), (67, [(4, [2, 3, 5]), (1000004, [4])]), (71, [(4, [1, 3]), (1000004, [2])]), (75, [(4, [0, 2, 3, 4, 5, 6, ph 3 1 29 4]), (8, [0, 2, 3, 4, 5, 7, ph 3 2 29 4]), (1000004, [0, 2, 3, 4, 5]), (1000008, [2, 3])]), (81, [(4, [1, 5, 6, 7, 8, 16, 17, 18, ph 7 0 84 4, ph 8 1 0 0, ph 8 2 0 0]), (1000004, [5, 6, 7, 8])]), (83, [(3, [1, 5, 8, 9, 10]), (1000003, [5])]), (87, [(3, [2, 3, 4, 5, 6, ph 5 0 84 4]), (1000003, [4, 5])]), (89, [(3, [0, 1, 5, 7, 8]), (1000003, [7])]), (90, [(4, [0, 1, 5]), (1000004, [4])]), (91, [(2, [0, 1, 5]), (1000002, [4])]), (95, [(2, [0, 3]), (7, [0, 3, 4]), (1000002, [2]), (1000007, [0, 2, 3])]), (96, [(4, [2, 4, 5, 23, 24, 25]), (9, [4, 5, 36, 37, 38]), (1000004, [2, 4, 5]), (1000009, [4, 5])]), (97, [(3, [1, 4, 6, 12, 13, 14]), (1000003, [4, 5, 6])]), (99, [(3, [1, 2, 4, 6, 7]), (1000003, [4, 5, 6])]), (101, [(6, [1, 8, 10, 11]), (1000006, [10])]), (105, [(4, [1, 2, 15, 16, 17]), (1000004, [6])]), (106, [(4, [3, 23, 24, 25]), (1000004, [4])]), (108, [(3, [1, 2, 4, 5, 11, 12, 13]), (1000003, [2, 4, 5])]), (110, [(3, [1, 2, 4, 5, 6]), (1000003, [2, 4, 5])]), (115, [(3, [3, 4, 5, 6]), (1000003, [4, 5])]), (122, [(0, [0]), (1000000, [])]), (127, [(3, [0, 3]), (1000003, [3])]), (129, [(0, [0]), (1000000, [])]), (138, [(4, [1, 3, 5, 6, 7, 8, 9]), (1000004, [1, 3, 5, 6, 7, 8])]), (140, [(3, [1, 5, 6, 13, 14, 15]), (1000003, [5, 6])]), (143, [(2, [1, 4, 8, 9, 10]), (1000002, [4])]), (148, [(4, [0, 1, 5]), (1000004, [4])]), (150, [(3, [0, 1, 4, 5, 6, ph 5 0 0 0]), (1000003, [4, 5])]), (154, [(6, [1, 5, 29, 30, 31]), (10, [1, 5, 6, 7, 8, 29, 30, 31, 36, 37, 38]), (1000006, [5]), (1000010, [1, 5, 6, 8, 29, 30, 31])]), (158, [(3, [5, 6, 7, 8, 9, ph 7 0 84 4]), (1000003, [6, 7])]), (160, [(3, [0, 1, 5, 6]), (7, [0, 1, 5, 6, 7, 8]), (1000003, [5]), (1000007, [0, 1, 5, 6])]), (175, [(2, [1, 2, 4, 5]), (1000002, [4])]), (176, [(5, [0, 3, 4]), (1000005, [4])]), (179, [(7, [0, 1, 8]), (1000007, [0, 8])]), (180, [(4, [3, 4, 9, 10, 11]), (1000004, [3])]), (182, [(2, [0, 3]), (1000002, [0, 3])]), (183, [(9, [0, 1, 11, 12, 13]), (1000009, [11, 12])]), (185, [(8, [0, 2, 7, 8]), (1000008, [0, 7])]), (187, [(2, [0, 1, 2, 6, 7, 8]), (7, [0, 1, 2, 6]), (9, [0, 1, 2, 6, 7, 8]), (1000002, [0, 1, 2, 6, 7]), (1000007, []), (1000009, [0, 1, 2, 6, 7])]), (191, [(7, [0, 1, 5]), (1000007, [4])]), (198, [(2, [0, 1]), (10, [11, 13]), (1000002, [0, 1]), (1000010, [11])]), (199, [(13, [9, 10, 11, 12, 13]), (1000013, [9, 10, 12])]), (200, [(2, [0, 3]), (1000002, [0, 3])]), (202, [(2, [0, 1]), (1000002, [0])]), (207, [(2, [0, 1, 7, 8]), (1000002, [4])]), (208, [(4, [0, 1, 12, 13]), (1000004, [4])]), (209, [(6, [4, 12, 13, 14]), (1000006, [4])]), (211, [(38, [7, 8, 9]), (1000038, [9])]), (212, [(1, [0, 2, 3]), (1000001, [])]), (213, [(12, [0, 1, 5, 39, 40, 41]), (22, [1, 8, 63, 64, 65]), (1000012, [0, 1, 5]), (1000022, [8])]), (215, [(7, [0, 1, 5, 6, 24, 25, 26]), (1000007, [0, 5, 6])]), (217, [(6, [3, 4]), (1000006, [3])]), (218, [(4, [0, 1, 5, 6, 7]), (1000004, [5, 6])]), (219, [(4, [0, 1, 5, 6, 7]), (1000004, [5, 6])]), (220, [(2, [0, 1, 5]), (1000002, [4])]), (221, [(6, [0, 1, 6, 7, 8]), (1000006, [6])]), (222, [(1, [0, 1, 2, 3, 8]), (4, [0, 1, 2, 3, 8, 9]), (1000001, []), (1000004, [0, 1, 2, 3, 8])]), (223, [(3, [0, 1, 4, 10, 11]), (9, [0, 10, 13]), (15, [0, 2, 4, 14, 15]), (21, [0, 14, 17]), (33, [0, 1, 2, 3, 4, 18, 19, 20, 21, 22]), (1000003, [0, 1, 10]), (1000009, []), (1000015, [0, 2, 14]), (1000021, []), (1000033, [0, 1, 2, 3, 4, 18, 19, 20])]), (225, [(7, [1, 6, 7, 22, 23, 24]), (1000007, [6])]), (228, [(4, [0, 1, 6, 7, 8]), (1000004, [6, 7])]), (230, [(3, [1, 5, 13, 14, 15]), (1000003, [5])]), (231, [(3, [0, 1, 2, 7, 8, 15, 16, 17]), (17, [0, 1, 2, 7, 70, 71, 72]), (1000003, [0, 1, 2, 7, 8]), (1000017, [0, 1, 2, 7])]), (232, [(4, [0, 1, 5, 7, 8]), (1000004, [7])]), (233, [(9, [0, 1, 6, 30, 31, 32]), (1000009, [6])]), (236, [(1, [0, 1, 4]), (1000001, [0, 1, 4])]), (237, [(11, [0, 1, 3, 4, 10, 11, 12, 13, 14, 15, 16]), (18, [0, 1, 3, 4, 10, 11, 12, 13, 17]), (1000011, [0, 1, 3, 4, 10, 11, 12, 13]), (1000018, [0, 1, 3, 4, 10, 11, 12, 13])]), (244, [(10, [5, 6, 47, 48, 49]), (1000010, [2, 3, 5, 6])]), (246, [(2, [0, 2, 4, 10, 11]), (1000002, [0, 2, 4, 10])]), (261, [(1, [0, 1, 2, 3, 10]), (1000001, [])]), (265, [(36, [1, 8, 9, 10, 11, 12, 13, 99, 100, 101]), (1000036, [6, 7, 9, 12, 13])]), (269, [(10, [0, 3, 4, 5]), (1000010, [2, 3])])]
def livesOf (f : FuncId) : Nat → List Nat := lv ((livesT.lookup f).getD [])
def modesT : List (Nat × (List Bool × Bool)) := [(69, ([true, false], false)), (70, ([true], false)), (74, ([], true)), (75, ([true], false)), (83, ([], true)), (89, ([], true)), (92, ([true], false)), (119, ([false, false, true], false)), (120, ([true], false)), (122, ([true], false)), (123, ([true, false], false)), (124, ([true, false, false], false)), (129, ([true], false)), (130, ([true], false)), (131, ([true, false, false], false)), (133, ([true, false], false)), (137, ([true, false, false], true)), (146, ([true], false)), (149, ([true, false], false)), (150, ([true, false], false)), (163, ([true, false], true)), (179, ([true, false, false], false)), (181, ([true], false)), (185, ([true, false, false], false)), (186, ([true], false)), (187, ([true, false, false], false)), (212, ([true], false)), (222, ([true, false, false, false], false)), (223, ([true, false, false, false, false], false)), (231, ([true, false, false], false)), (236, ([true, false], false)), (237, ([true, false, false, false, false], true)), (242, ([true, false], false)), (246, ([true, false, false, false, false], false)), (255, ([true, false], false)), (257, ([], true)), (258, ([], true)), (259, ([], true)), (260, ([], true)), (261, ([true, false, false, false, false], false)), (278, ([true], false)), (279, ([true], false)), (280, ([true], false)), (281, ([true], false)), (282, ([true], false)), (285, ([true], false)), (287, ([true], false)), (288, ([true], false))]
noncomputable def fnOf (f : FuncId) : Func := (Tryz.prog.funcs[f]?).getD default
def keepOf (f : FuncId) : Bool := ((modesT.lookup f).getD ([], false)).2
noncomputable def tab : Nat → FuncId → Option Orc
  | 0, f => orc0 f
  | n + 1, f => match orc0 f with
    | some x => some x
    | none => match plainF Tryz.prog f with
      | true => (match modesT.lookup f with
        | some (ms, k) => some (.lin ms (fnL Tryz.prog (tab n) (livesOf f) big (fnOf f) (keepOf f)))
        | none => some (.pure (fnP Tryz.prog (tab n) (livesOf f) big (fnOf f))))
      | false => none
theorem plain_fn {f : FuncId} (h : plainF Tryz.prog f = true) : Tryz.prog.funcs[f]? = some (fnOf f) := by
  unfold plainF at h
  unfold fnOf
  split at h
  · rename_i fn hf; rw [hf]; rfl
  · cases h
theorem tab_ok : ∀ n, OrcOk Tryz.prog (tab n)
  | 0 => orc0_ok
  | n + 1 => by
    have key : ∀ f x, tab (n + 1) f = some x → (orc0 f = some x) ∨ (plainF Tryz.prog f = true ∧ ((∃ (ms : List Bool) (k : Bool), x = .lin ms (fnL Tryz.prog (tab n) (livesOf f) big (fnOf f) (keepOf f))) ∨ x = .pure (fnP Tryz.prog (tab n) (livesOf f) big (fnOf f)))) := fun f x h => by
      unfold tab at h
      split at h
      · rename_i y hy; cases h; exact .inl hy
      · split at h
        · rename_i hp
          split at h
          · cases h; exact .inr ⟨hp, .inl ⟨_, false, rfl⟩⟩
          · cases h; exact .inr ⟨hp, .inr rfl⟩
        · cases h
    refine ⟨fun f g h => ?_, fun f ms g h => ?_⟩
    · rcases key f _ h with h | ⟨hp, ⟨ms, k, h⟩ | h⟩
      · exact orc0_ok.pure f g h
      · cases h
      · cases h
        exact ⟨hp, fun args r hr => con_of (tab_ok n) mixed (plain_fn hp) (body_some hp (plain_fn hp)) hr⟩
    · rcases key f _ h with h | ⟨hp, ⟨ms, k, h⟩ | h⟩
      · exact orc0_ok.lin f ms g h
      · cases h
        exact ⟨hp, fun bin args r outs hr => conL_of (tab_ok n) mixed (plain_fn hp) (body_some hp (plain_fn hp)) hr⟩
      · cases h
/-- a function run abstractly, with n levels of calls below it -/
noncomputable def run (n : Nat) (f : FuncId) (args : List AV) : Option AV := fnP Tryz.prog (tab n) (livesOf f) big (fnOf f) args
noncomputable def runL (n : Nat) (f : FuncId) (args : List AV) (bin : List AB) : Option (AV × List (Nat × AB)) := fnL Tryz.prog (tab n) (livesOf f) big (fnOf f) (keepOf f) args bin
theorem run_con {n : Nat} {f : FuncId} {args : List AV} {r : AV} (hp : plainF Tryz.prog f = true) (h : run n f args = some r) : Con Tryz.prog f args r := con_of (tab_ok n) mixed (plain_fn hp) (body_some hp (plain_fn hp)) h
/-- a callee of the table, by its mode -/
theorem tab_pure {n : Nat} {f : FuncId} (h0 : orc0 f = none) (hp : plainF Tryz.prog f = true) (hm : modesT.lookup f = none) : tab (n + 1) f = some (.pure (run n f)) := by
  unfold tab
  rw [h0]
  simp only [hp, hm]
  rfl
theorem tab_lin {n : Nat} {f : FuncId} {ms : List Bool} {k : Bool} (h0 : orc0 f = none) (hp : plainF Tryz.prog f = true) (hm : modesT.lookup f = some (ms, k)) : tab (n + 1) f = some (.lin ms (runL n f)) := by
  unfold tab
  rw [h0]
  simp only [hp, hm]
  rfl
theorem tab_num {f : FuncId} {x : Orc} (h : orc0 f = some x) : ∀ n, tab n f = some x
  | 0 => h
  | n + 1 => by unfold tab; rw [h]
@[simp] theorem fn_2 : fnOf 2 = Tryz.f2 := by kernel_rfl
@[simp] theorem tb_2 (n : Nat) : tab (n + 1) 2 = some (.pure (run n 2)) := tab_pure (by kernel_rfl) (by kernel_rfl) (by kernel_rfl)
@[simp] theorem fn_3 : fnOf 3 = Tryz.f3 := by kernel_rfl
@[simp] theorem tb_3 (n : Nat) : tab (n + 1) 3 = some (.pure (run n 3)) := tab_pure (by kernel_rfl) (by kernel_rfl) (by kernel_rfl)
@[simp] theorem fn_4 : fnOf 4 = Tryz.f4 := by kernel_rfl
@[simp] theorem tb_4 (n : Nat) : tab (n + 1) 4 = some (.pure (run n 4)) := tab_pure (by kernel_rfl) (by kernel_rfl) (by kernel_rfl)
@[simp] theorem fn_5 : fnOf 5 = Tryz.f5 := by kernel_rfl
@[simp] theorem tb_5 (n : Nat) : tab (n + 1) 5 = some (.pure (run n 5)) := tab_pure (by kernel_rfl) (by kernel_rfl) (by kernel_rfl)
@[simp] theorem fn_6 : fnOf 6 = Tryz.f6 := by kernel_rfl
@[simp] theorem tb_6 (n : Nat) : tab (n + 1) 6 = some (.pure (run n 6)) := tab_pure (by kernel_rfl) (by kernel_rfl) (by kernel_rfl)
@[simp] theorem fn_7 : fnOf 7 = Tryz.f7 := by kernel_rfl
@[simp] theorem lv_7_12 : livesOf 7 12 = [5, 7, 9, 11] := by kernel_rfl
@[simp] theorem lv_7_1000012 : livesOf 7 1000012 = [4] := by kernel_rfl
@[simp] theorem tb_7 (n : Nat) : tab (n + 1) 7 = some (.pure (run n 7)) := tab_pure (by kernel_rfl) (by kernel_rfl) (by kernel_rfl)
@[simp] theorem fn_8 : fnOf 8 = Tryz.f8 := by kernel_rfl
@[simp] theorem tb_8 (n : Nat) : tab (n + 1) 8 = some (.pure (run n 8)) := tab_pure (by kernel_rfl) (by kernel_rfl) (by kernel_rfl)
@[simp] theorem fn_9 : fnOf 9 = Tryz.f9 := by kernel_rfl
@[simp] theorem tb_9 (n : Nat) : tab (n + 1) 9 = some (.pure (run n 9)) := tab_pure (by kernel_rfl) (by kernel_rfl) (by kernel_rfl)
@[simp] theorem fn_10 : fnOf 10 = Tryz.f10 := by kernel_rfl
@[simp] theorem tb_10 (n : Nat) : tab (n + 1) 10 = some (.pure (run n 10)) := tab_pure (by kernel_rfl) (by kernel_rfl) (by kernel_rfl)
@[simp] theorem fn_11 : fnOf 11 = Tryz.f11 := by kernel_rfl
@[simp] theorem tb_11 (n : Nat) : tab (n + 1) 11 = some (.pure (run n 11)) := tab_pure (by kernel_rfl) (by kernel_rfl) (by kernel_rfl)
@[simp] theorem fn_12 : fnOf 12 = Tryz.f12 := by kernel_rfl
@[simp] theorem tb_12 (n : Nat) : tab (n + 1) 12 = some (.pure (run n 12)) := tab_pure (by kernel_rfl) (by kernel_rfl) (by kernel_rfl)
@[simp] theorem fn_13 : fnOf 13 = Tryz.f13 := by kernel_rfl
@[simp] theorem tb_13 (n : Nat) : tab (n + 1) 13 = some (.pure (run n 13)) := tab_pure (by kernel_rfl) (by kernel_rfl) (by kernel_rfl)
@[simp] theorem fn_14 : fnOf 14 = Tryz.f14 := by kernel_rfl
@[simp] theorem tb_14 (n : Nat) : tab (n + 1) 14 = some (.pure (run n 14)) := tab_pure (by kernel_rfl) (by kernel_rfl) (by kernel_rfl)
@[simp] theorem fn_15 : fnOf 15 = Tryz.f15 := by kernel_rfl
@[simp] theorem lv_15_4 : livesOf 15 4 = [1, 3] := by kernel_rfl
@[simp] theorem lv_15_12 : livesOf 15 12 = [1, 3, 4, 5] := by kernel_rfl
@[simp] theorem lv_15_1000004 : livesOf 15 1000004 = [2] := by kernel_rfl
@[simp] theorem lv_15_1000012 : livesOf 15 1000012 = [1, 2, 3] := by kernel_rfl
@[simp] theorem tb_15 (n : Nat) : tab (n + 1) 15 = some (.pure (run n 15)) := tab_pure (by kernel_rfl) (by kernel_rfl) (by kernel_rfl)
@[simp] theorem fn_16 : fnOf 16 = Tryz.f16 := by kernel_rfl
@[simp] theorem lv_16_6 : livesOf 16 6 = [3, 16, 17, 18] := by kernel_rfl
@[simp] theorem lv_16_1000006 : livesOf 16 1000006 = [3] := by kernel_rfl
@[simp] theorem tb_16 (n : Nat) : tab (n + 1) 16 = some (.pure (run n 16)) := tab_pure (by kernel_rfl) (by kernel_rfl) (by kernel_rfl)
@[simp] theorem fn_17 : fnOf 17 = Tryz.f17 := by kernel_rfl
@[simp] theorem lv_17_5 : livesOf 17 5 = [1, 3, 4] := by kernel_rfl
@[simp] theorem lv_17_1000005 : livesOf 17 1000005 = [3] := by kernel_rfl
@[simp] theorem tb_17 (n : Nat) : tab (n + 1) 17 = some (.pure (run n 17)) := tab_pure (by kernel_rfl) (by kernel_rfl) (by kernel_rfl)
@[simp] theorem fn_18 : fnOf 18 = Tryz.f18 := by kernel_rfl
@[simp] theorem tb_18 (n : Nat) : tab (n + 1) 18 = some (.pure (run n 18)) := tab_pure (by kernel_rfl) (by kernel_rfl) (by kernel_rfl)
@[simp] theorem fn_19 : fnOf 19 = Tryz.f19 := by kernel_rfl
@[simp] theorem tb_19 (n : Nat) : tab (n + 1) 19 = some (.pure (run n 19)) := tab_pure (by kernel_rfl) (by kernel_rfl) (by kernel_rfl)
@[simp] theorem fn_20 : fnOf 20 = Tryz.f20 := by kernel_rfl
@[simp] theorem tb_20 (n : Nat) : tab (n + 1) 20 = some (.pure (run n 20)) := tab_pure (by kernel_rfl) (by kernel_rfl) (by kernel_rfl)
@[simp] theorem fn_21 : fnOf 21 = Tryz.f21 := by kernel_rfl
@[simp] theorem tb_21 (n : Nat) : tab (n + 1) 21 = some (.pure (run n 21)) := tab_pure (by kernel_rfl) (by kernel_rfl) (by kernel_rfl)
@[simp] theorem fn_22 : fnOf 22 = Tryz.f22 := by kernel_rfl
@[simp] theorem tb_22 (n : Nat) : tab (n + 1) 22 = some (.pure (run n 22)) := tab_pure (by kernel_rfl) (by kernel_rfl) (by kernel_rfl)
@[simp] theorem fn_23 : fnOf 23 = Tryz.f23 := by kernel_rfl
@[simp] theorem tb_23 (n : Nat) : tab (n + 1) 23 = some (.pure (run n 23)) := tab_pure (by kernel_rfl) (by kernel_rfl) (by kernel_rfl)
@[simp] theorem fn_24 : fnOf 24 = Tryz.f24 := by kernel_rfl
@[simp] theorem tb_24 (n : Nat) : tab (n + 1) 24 = some (.pure (run n 24)) := tab_pure (by kernel_rfl) (by kernel_rfl) (by kernel_rfl)
@[simp] theorem fn_25 : fnOf 25 = Tryz.f25 := by kernel_rfl
@[simp] theorem lv_25_4 : livesOf 25 4 = [1, 3] := by kernel_rfl
@[simp] theorem lv_25_1000004 : livesOf 25 1000004 = [1, 2] := by kernel_rfl
@[simp] theorem tb_25 (n : Nat) : tab (n + 1) 25 = some (.pure (run n 25)) := tab_pure (by kernel_rfl) (by kernel_rfl) (by kernel_rfl)
@[simp] theorem fn_26 : fnOf 26 = Tryz.f26 := by kernel_rfl
@[simp] theorem tb_26 (n : Nat) : tab (n + 1) 26 = some (.pure (run n 26)) := tab_pure (by kernel_rfl) (by kernel_rfl) (by kernel_rfl)
@[simp] theorem fn_27 : fnOf 27 = Tryz.f27 := by kernel_rfl
@[simp] theorem lv_27_4 : livesOf 27 4 = [1, 5, 6, 7] := by kernel_rfl
@[simp] theorem lv_27_1000004 : livesOf 27 1000004 = [6] := by kernel_rfl
@[simp] theorem tb_27 (n : Nat) : tab (n + 1) 27 = some (.pure (run n 27)) := tab_pure (by kernel_rfl) (by kernel_rfl) (by kernel_rfl)
@[simp] theorem fn_28 : fnOf 28 = Tryz.f28 := by kernel_rfl
@[simp] theorem lv_28_6 : livesOf 28 6 = [1, 3, 18, 19, 20] := by kernel_rfl
@[simp] theorem lv_28_11 : livesOf 28 11 = [3, 39, 40, 41] := by kernel_rfl
@[simp] theorem lv_28_1000006 : livesOf 28 1000006 = [1, 3] := by kernel_rfl
@[simp] theorem lv_28_1000011 : livesOf 28 1000011 = [3] := by kernel_rfl
@[simp] theorem tb_28 (n : Nat) : tab (n + 1) 28 = some (.pure (run n 28)) := tab_pure (by kernel_rfl) (by kernel_rfl) (by kernel_rfl)
@[simp] theorem fn_29 : fnOf 29 = Tryz.f29 := by kernel_rfl
@[simp] theorem lv_29_5 : livesOf 29 5 = [1, 3, 4] := by kernel_rfl
@[simp] theorem lv_29_9 : livesOf 29 9 = [1, 3, 5] := by kernel_rfl
@[simp] theorem lv_29_1000005 : livesOf 29 1000005 = [1, 3] := by kernel_rfl
@[simp] theorem lv_29_1000009 : livesOf 29 1000009 = [3] := by kernel_rfl
@[simp] theorem tb_29 (n : Nat) : tab (n + 1) 29 = some (.pure (run n 29)) := tab_pure (by kernel_rfl) (by kernel_rfl) (by kernel_rfl)
@[simp] theorem fn_30 : fnOf 30 = Tryz.f30 := by kernel_rfl
@[simp] theorem tb_30 (n : Nat) : tab (n + 1) 30 = some (.pure (run n 30)) := tab_pure (by kernel_rfl) (by kernel_rfl) (by kernel_rfl)
@[simp] theorem fn_31 : fnOf 31 = Tryz.f31 := by kernel_rfl
@[simp] theorem lv_31_2 : livesOf 31 2 = [0, 3] := by kernel_rfl
@[simp] theorem lv_31_1000002 : livesOf 31 1000002 = [0, 2] := by kernel_rfl
@[simp] theorem tb_31 (n : Nat) : tab (n + 1) 31 = some (.pure (run n 31)) := tab_pure (by kernel_rfl) (by kernel_rfl) (by kernel_rfl)
@[simp] theorem fn_32 : fnOf 32 = Tryz.f32 := by kernel_rfl
@[simp] theorem tb_32 (n : Nat) : tab (n + 1) 32 = some (.pure (run n 32)) := tab_pure (by kernel_rfl) (by kernel_rfl) (by kernel_rfl)
@[simp] theorem fn_33 : fnOf 33 = Tryz.f33 := by kernel_rfl
@[simp] theorem tb_33 (n : Nat) : tab (n + 1) 33 = some (.pure (run n 33)) := tab_pure (by kernel_rfl) (by kernel_rfl) (by kernel_rfl)
@[simp] theorem fn_34 : fnOf 34 = Tryz.f34 := by kernel_rfl
@[simp] theorem lv_34_6 : livesOf 34 6 = [6, 9, 25, 26, 27] := by kernel_rfl
@[simp] theorem lv_34_1000006 : livesOf 34 1000006 = [9] := by kernel_rfl
@[simp] theorem tb_34 (n : Nat) : tab (n + 1) 34 = some (.pure (run n 34)) := tab_pure (by kernel_rfl) (by kernel_rfl) (by kernel_rfl)
@[simp] theorem fn_35 : fnOf 35 = Tryz.f35 := by kernel_rfl
@[simp] theorem lv_35_5 : livesOf 35 5 = [1, 2, 6, 7] := by kernel_rfl
@[simp] theorem lv_35_9 : livesOf 35 9 = [2, 6, 8] := by kernel_rfl
@[simp] theorem lv_35_1000005 : livesOf 35 1000005 = [2, 6] := by kernel_rfl
@[simp] theorem lv_35_1000009 : livesOf 35 1000009 = [6] := by kernel_rfl
@[simp] theorem tb_35 (n : Nat) : tab (n + 1) 35 = some (.pure (run n 35)) := tab_pure (by kernel_rfl) (by kernel_rfl) (by kernel_rfl)
@[simp] theorem fn_36 : fnOf 36 = Tryz.f36 := by kernel_rfl
@[simp] theorem tb_36 (n : Nat) : tab (n + 1) 36 = some (.pure (run n 36)) := tab_pure (by kernel_rfl) (by kernel_rfl) (by kernel_rfl)
@[simp] theorem fn_37 : fnOf 37 = Tryz.f37 := by kernel_rfl
@[simp] theorem tb_37 (n : Nat) : tab (n + 1) 37 = some (.pure (run n 37)) := tab_pure (by kernel_rfl) (by kernel_rfl) (by kernel_rfl)
@[simp] theorem fn_38 : fnOf 38 = Tryz.f38 := by kernel_rfl
@[simp] theorem lv_38_4 : livesOf 38 4 = [0, 1, 5] := by kernel_rfl
@[simp] theorem lv_38_1000004 : livesOf 38 1000004 = [4] := by kernel_rfl
@[simp] theorem tb_38 (n : Nat) : tab (n + 1) 38 = some (.pure (run n 38)) := tab_pure (by kernel_rfl) (by kernel_rfl) (by kernel_rfl)
@[simp] theorem fn_41 : fnOf 41 = Tryz.f41 := by kernel_rfl
@[simp] theorem lv_41_4 : livesOf 41 4 = [1, 32, 33, 34] := by kernel_rfl
@[simp] theorem lv_41_1000004 : livesOf 41 1000004 = [1, 2] := by kernel_rfl
@[simp] theorem tb_41 (n : Nat) : tab (n + 1) 41 = some (.pure (run n 41)) := tab_pure (by kernel_rfl) (by kernel_rfl) (by kernel_rfl)
@[simp] theorem fn_42 : fnOf 42 = Tryz.f42 := by kernel_rfl
@[simp] theorem tb_42 (n : Nat) : tab (n + 1) 42 = some (.pure (run n 42)) := tab_pure (by kernel_rfl) (by kernel_rfl) (by kernel_rfl)
@[simp] theorem fn_43 : fnOf 43 = Tryz.f43 := by kernel_rfl
@[simp] theorem tb_43 (n : Nat) : tab (n + 1) 43 = some (.pure (run n 43)) := tab_pure (by kernel_rfl) (by kernel_rfl) (by kernel_rfl)
@[simp] theorem fn_44 : fnOf 44 = Tryz.f44 := by kernel_rfl
@[simp] theorem tb_44 (n : Nat) : tab (n + 1) 44 = some (.pure (run n 44)) := tab_pure (by kernel_rfl) (by kernel_rfl) (by kernel_rfl)
@[simp] theorem fn_45 : fnOf 45 = Tryz.f45 := by kernel_rfl
@[simp] theorem lv_45_5 : livesOf 45 5 = [1, 2, 4, 6, 31, 32] := by kernel_rfl
@[simp] theorem lv_45_10 : livesOf 45 10 = [1, 2, 4, 6, 39, 40, 41] := by kernel_rfl
@[simp] theorem lv_45_19 : livesOf 45 19 = [2, 4, 10, 11, 71, 72, 73] := by kernel_rfl
@[simp] theorem lv_45_1000005 : livesOf 45 1000005 = [1, 2, 4, 6] := by kernel_rfl
@[simp] theorem lv_45_1000010 : livesOf 45 1000010 = [1, 2, 4, 5, 6] := by kernel_rfl
@[simp] theorem lv_45_1000019 : livesOf 45 1000019 = [2, 4, 5, 10, 11] := by kernel_rfl
@[simp] theorem tb_45 (n : Nat) : tab (n + 1) 45 = some (.pure (run n 45)) := tab_pure (by kernel_rfl) (by kernel_rfl) (by kernel_rfl)
@[simp] theorem fn_46 : fnOf 46 = Tryz.f46 := by kernel_rfl
@[simp] theorem lv_46_5 : livesOf 46 5 = [1, 2, 4, 6, 7] := by kernel_rfl
@[simp] theorem lv_46_11 : livesOf 46 11 = [1, 2, 4, 6, 8] := by kernel_rfl
@[simp] theorem lv_46_18 : livesOf 46 18 = [1, 2, 4, 6, 9, 10] := by kernel_rfl
@[simp] theorem lv_46_22 : livesOf 46 22 = [2, 4, 6, 9, 11] := by kernel_rfl
@[simp] theorem lv_46_1000005 : livesOf 46 1000005 = [1, 2, 4, 6] := by kernel_rfl
@[simp] theorem lv_46_1000011 : livesOf 46 1000011 = [1, 2, 4, 5, 6] := by kernel_rfl
@[simp] theorem lv_46_1000018 : livesOf 46 1000018 = [2, 4, 6, 9] := by kernel_rfl
@[simp] theorem lv_46_1000022 : livesOf 46 1000022 = [4, 9] := by kernel_rfl
@[simp] theorem tb_46 (n : Nat) : tab (n + 1) 46 = some (.pure (run n 46)) := tab_pure (by kernel_rfl) (by kernel_rfl) (by kernel_rfl)
@[simp] theorem fn_47 : fnOf 47 = Tryz.f47 := by kernel_rfl
@[simp] theorem lv_47_12 : livesOf 47 12 = [1, 2, 4, 8, 11, 12, 50, 51, 52] := by kernel_rfl
@[simp] theorem lv_47_1000012 : livesOf 47 1000012 = [2, 4, 8, 12] := by kernel_rfl
@[simp] theorem tb_47 (n : Nat) : tab (n + 1) 47 = some (.pure (run n 47)) := tab_pure (by kernel_rfl) (by kernel_rfl) (by kernel_rfl)
@[simp] theorem fn_48 : fnOf 48 = Tryz.f48 := by kernel_rfl
@[simp] theorem lv_48_8 : livesOf 48 8 = [1, 2, 4, 7, 8] := by kernel_rfl
@[simp] theorem lv_48_19 : livesOf 48 19 = [1, 2, 4, 7, 9, 13, 14] := by kernel_rfl
@[simp] theorem lv_48_23 : livesOf 48 23 = [1, 2, 4, 7, 9, 13, 15] := by kernel_rfl
@[simp] theorem lv_48_1000008 : livesOf 48 1000008 = [1, 2, 4, 7] := by kernel_rfl
@[simp] theorem lv_48_1000019 : livesOf 48 1000019 = [1, 2, 4, 7, 9, 13] := by kernel_rfl
@[simp] theorem lv_48_1000023 : livesOf 48 1000023 = [4, 13] := by kernel_rfl
@[simp] theorem tb_48 (n : Nat) : tab (n + 1) 48 = some (.pure (run n 48)) := tab_pure (by kernel_rfl) (by kernel_rfl) (by kernel_rfl)
@[simp] theorem fn_49 : fnOf 49 = Tryz.f49 := by kernel_rfl
@[simp] theorem tb_49 (n : Nat) : tab (n + 1) 49 = some (.pure (run n 49)) := tab_pure (by kernel_rfl) (by kernel_rfl) (by kernel_rfl)
@[simp] theorem fn_50 : fnOf 50 = Tryz.f50 := by kernel_rfl
@[simp] theorem tb_50 (n : Nat) : tab (n + 1) 50 = some (.pure (run n 50)) := tab_pure (by kernel_rfl) (by kernel_rfl) (by kernel_rfl)
@[simp] theorem fn_51 : fnOf 51 = Tryz.f51 := by kernel_rfl
@[simp] theorem lv_51_2 : livesOf 51 2 = [1, 2, 5] := by kernel_rfl
@[simp] theorem lv_51_1000002 : livesOf 51 1000002 = [2, 4] := by kernel_rfl
@[simp] theorem tb_51 (n : Nat) : tab (n + 1) 51 = some (.pure (run n 51)) := tab_pure (by kernel_rfl) (by kernel_rfl) (by kernel_rfl)
@[simp] theorem fn_52 : fnOf 52 = Tryz.f52 := by kernel_rfl
@[simp] theorem lv_52_4 : livesOf 52 4 = [1, 3, 4, 11, 12, 13] := by kernel_rfl
@[simp] theorem lv_52_1000004 : livesOf 52 1000004 = [1, 3, 4] := by kernel_rfl
@[simp] theorem tb_52 (n : Nat) : tab (n + 1) 52 = some (.pure (run n 52)) := tab_pure (by kernel_rfl) (by kernel_rfl) (by kernel_rfl)
@[simp] theorem fn_53 : fnOf 53 = Tryz.f53 := by kernel_rfl
@[simp] theorem lv_53_7 : livesOf 53 7 = [0, 2, 5, 6, 7] := by kernel_rfl
@[simp] theorem lv_53_1000007 : livesOf 53 1000007 = [2, 3, 4] := by kernel_rfl
@[simp] theorem tb_53 (n : Nat) : tab (n + 1) 53 = some (.pure (run n 53)) := tab_pure (by kernel_rfl) (by kernel_rfl) (by kernel_rfl)
@[simp] theorem fn_54 : fnOf 54 = Tryz.f54 := by kernel_rfl
@[simp] theorem lv_54_3 : livesOf 54 3 = [1, 3, 4] := by kernel_rfl
@[simp] theorem lv_54_1000003 : livesOf 54 1000003 = [1, 3] := by kernel_rfl
@[simp] theorem tb_54 (n : Nat) : tab (n + 1) 54 = some (.pure (run n 54)) := tab_pure (by kernel_rfl) (by kernel_rfl) (by kernel_rfl)
@[simp] theorem fn_55 : fnOf 55 = Tryz.f55 := by kernel_rfl
@[simp] theorem lv_55_4 : livesOf 55 4 = [2, 3, 5] := by kernel_rfl
@[simp] theorem lv_55_1000004 : livesOf 55 1000004 = [4] := by kernel_rfl
@[simp] theorem tb_55 (n : Nat) : tab (n + 1) 55 = some (.pure (run n 55)) := tab_pure (by kernel_rfl) (by kernel_rfl) (by kernel_rfl)
@[simp] theorem fn_56 : fnOf 56 = Tryz.f56 := by kernel_rfl
@[simp] theorem lv_56_4 : livesOf 56 4 = [0, 2, 5, 6, 7] := by kernel_rfl
@[simp] theorem lv_56_1000004 : livesOf 56 1000004 = [2, 3, 4, 5] := by kernel_rfl
@[simp] theorem tb_56 (n : Nat) : tab (n + 1) 56 = some (.pure (run n 56)) := tab_pure (by kernel_rfl) (by kernel_rfl) (by kernel_rfl)
@[simp] theorem fn_57 : fnOf 57 = Tryz.f57 := by kernel_rfl
@[simp] theorem lv_57_4 : livesOf 57 4 = [0, 5] := by kernel_rfl
@[simp] theorem lv_57_1000004 : livesOf 57 1000004 = [4] := by kernel_rfl
@[simp] theorem tb_57 (n : Nat) : tab (n + 1) 57 = some (.pure (run n 57)) := tab_pure (by kernel_rfl) (by kernel_rfl) (by kernel_rfl)
@[simp] theorem fn_58 : fnOf 58 = Tryz.f58 := by kernel_rfl
@[simp] theorem lv_58_7 : livesOf 58 7 = [4, 6, 7, 8] := by kernel_rfl
@[simp] theorem lv_58_9 : livesOf 58 9 = [4, 6, 7, 8, 9, 10] := by kernel_rfl
@[simp] theorem lv_58_1000007 : livesOf 58 1000007 = [4, 7] := by kernel_rfl
@[simp] theorem lv_58_1000009 : livesOf 58 1000009 = [4, 6, 7, 8, 9, 10] := by kernel_rfl
@[simp] theorem tb_58 (n : Nat) : tab (n + 1) 58 = some (.pure (run n 58)) := tab_pure (by kernel_rfl) (by kernel_rfl) (by kernel_rfl)
@[simp] theorem fn_59 : fnOf 59 = Tryz.f59 := by kernel_rfl
@[simp] theorem lv_59_3 : livesOf 59 3 = [0, 4, 6, 7, ph 6 0 0 0] := by kernel_rfl
@[simp] theorem lv_59_1000003 : livesOf 59 1000003 = [4, 5, 6] := by kernel_rfl
@[simp] theorem tb_59 (n : Nat) : tab (n + 1) 59 = some (.pure (run n 59)) := tab_pure (by kernel_rfl) (by kernel_rfl) (by kernel_rfl)
@[simp] theorem fn_60 : fnOf 60 = Tryz.f60 := by kernel_rfl
@[simp] theorem lv_60_2 : livesOf 60 2 = [1, 2, 8, 9, 10] := by kernel_rfl
@[simp] theorem lv_60_1000002 : livesOf 60 1000002 = [2, 4] := by kernel_rfl
@[simp] theorem tb_60 (n : Nat) : tab (n + 1) 60 = some (.pure (run n 60)) := tab_pure (by kernel_rfl) (by kernel_rfl) (by kernel_rfl)
@[simp] theorem fn_61 : fnOf 61 = Tryz.f61 := by kernel_rfl
@[simp] theorem lv_61_8 : livesOf 61 8 = [1, 2, 4, 5, 41, 42] := by kernel_rfl
@[simp] theorem lv_61_13 : livesOf 61 13 = [1, 2, 4, 5, 57, 58] := by kernel_rfl
@[simp] theorem lv_61_1000008 : livesOf 61 1000008 = [1, 2, 4, 5] := by kernel_rfl
@[simp] theorem lv_61_1000013 : livesOf 61 1000013 = [2, 5] := by kernel_rfl
@[simp] theorem tb_61 (n : Nat) : tab (n + 1) 61 = some (.pure (run n 61)) := tab_pure (by kernel_rfl) (by kernel_rfl) (by kernel_rfl)
@[simp] theorem fn_62 : fnOf 62 = Tryz.f62 := by kernel_rfl
@[simp] theorem tb_62 (n : Nat) : tab (n + 1) 62 = some (.pure (run n 62)) := tab_pure (by kernel_rfl) (by kernel_rfl) (by kernel_rfl)
@[simp] theorem fn_64 : fnOf 64 = Tryz.f64 := by kernel_rfl
@[simp] theorem tb_64 (n : Nat) : tab (n + 1) 64 = some (.pure (run n 64)) := tab_pure (by kernel_rfl) (by kernel_rfl) (by kernel_rfl)
@[simp] theorem fn_65 : fnOf 65 = Tryz.f65 := by kernel_rfl
@[simp] theorem lv_65_4 : livesOf 65 4 = [1, 28, 29, 30] := by kernel_rfl
@[simp] theorem lv_65_1000004 : livesOf 65 1000004 = [2] := by kernel_rfl
@[simp] theorem tb_65 (n : Nat) : tab (n + 1) 65 = some (.pure (run n 65)) := tab_pure (by kernel_rfl) (by kernel_rfl) (by kernel_rfl)
@[simp] theorem fn_66 : fnOf 66 = Tryz.f66 := by kernel_rfl
@[simp] theorem lv_66_4 : livesOf 66 4 = [1, 20, 21, 22] := by kernel_rfl
@[simp] theorem lv_66_1000004 : livesOf 66 1000004 = [4] := by kernel_rfl
@[simp] theorem tb_66 (n : Nat) : tab (n + 1) 66 = some (.pure (run n 66)) := tab_pure (by kernel_rfl) (by kernel_rfl) (by kernel_rfl)
@[simp] theorem fn_67 : fnOf 67 = Tryz.f67 := by kernel_rfl
@[simp] theorem lv_67_4 : livesOf 67 4 = [2, 3, 5] := by kernel_rfl
@[simp] theorem lv_67_1000004 : livesOf 67 1000004 = [4] := by kernel_rfl
@[simp] theorem tb_67 (n : Nat) : tab (n + 1) 67 = some (.pure (run n 67)) := tab_pure (by kernel_rfl) (by kernel_rfl) (by kernel_rfl)
@[simp] theorem fn_68 : fnOf 68 = Tryz.f68 := by kernel_rfl
@[simp] theorem tb_68 (n : Nat) : tab (n + 1) 68 = some (.pure (run n 68)) := tab_pure (by kernel_rfl) (by kernel_rfl) (by kernel_rfl)
@[simp] theorem fn_69 : fnOf 69 = Tryz.f69 := by kernel_rfl
@[simp] theorem tb_69 (n : Nat) : tab (n + 1) 69 = some (.lin [true, false] (runL n 69)) := tab_lin (k := false) (by kernel_rfl) (by kernel_rfl) (by kernel_rfl)
@[simp] theorem kp_69 : keepOf 69 = false := by kernel_rfl
@[simp] theorem fn_70 : fnOf 70 = Tryz.f70 := by kernel_rfl
@[simp] theorem tb_70 (n : Nat) : tab (n + 1) 70 = some (.lin [true] (runL n 70)) := tab_lin (k := false) (by kernel_rfl) (by kernel_rfl) (by kernel_rfl)
@[simp] theorem kp_70 : keepOf 70 = false := by kernel_rfl
@[simp] theorem fn_71 : fnOf 71 = Tryz.f71 := by kernel_rfl
@[simp] theorem lv_71_4 : livesOf 71 4 = [1, 3] := by kernel_rfl
@[simp] theorem lv_71_1000004 : livesOf 71 1000004 = [2] := by kernel_rfl
@[simp] theorem tb_71 (n : Nat) : tab (n + 1) 71 = some (.pure (run n 71)) := tab_pure (by kernel_rfl) (by kernel_rfl) (by kernel_rfl)
@[simp] theorem fn_72 : fnOf 72 = Tryz.f72 := by kernel_rfl
@[simp] theorem tb_72 (n : Nat) : tab (n + 1) 72 = some (.pure (run n 72)) := tab_pure (by kernel_rfl) (by kernel_rfl) (by kernel_rfl)
@[simp] theorem fn_74 : fnOf 74 = Tryz.f74 := by kernel_rfl
@[simp] theorem tb_74 (n : Nat) : tab (n + 1) 74 = some (.lin [] (runL n 74)) := tab_lin (k := true) (by kernel_rfl) (by kernel_rfl) (by kernel_rfl)
@[simp] theorem kp_74 : keepOf 74 = true := by kernel_rfl
@[simp] theorem fn_75 : fnOf 75 = Tryz.f75 := by kernel_rfl
@[simp] theorem lv_75_4 : livesOf 75 4 = [0, 2, 3, 4, 5, 6, ph 3 1 29 4] := by kernel_rfl
@[simp] theorem lv_75_8 : livesOf 75 8 = [0, 2, 3, 4, 5, 7, ph 3 2 29 4] := by kernel_rfl
@[simp] theorem lv_75_1000004 : livesOf 75 1000004 = [0, 2, 3, 4, 5] := by kernel_rfl
@[simp] theorem lv_75_1000008 : livesOf 75 1000008 = [2, 3] := by kernel_rfl
@[simp] theorem tb_75 (n : Nat) : tab (n + 1) 75 = some (.lin [true] (runL n 75)) := tab_lin (k := false) (by kernel_rfl) (by kernel_rfl) (by kernel_rfl)
@[simp] theorem kp_75 : keepOf 75 = false := by kernel_rfl
@[simp] theorem fn_76 : fnOf 76 = Tryz.f76 := by kernel_rfl
@[simp] theorem tb_76 (n : Nat) : tab (n + 1) 76 = some (.pure (run n 76)) := tab_pure (by kernel_rfl) (by kernel_rfl) (by kernel_rfl)
@[simp] theorem fn_78 : fnOf 78 = Tryz.f78 := by kernel_rfl
@[simp] theorem tb_78 (n : Nat) : tab (n + 1) 78 = some (.pure (run n 78)) := tab_pure (by kernel_rfl) (by kernel_rfl) (by kernel_rfl)
@[simp] theorem fn_80 : fnOf 80 = Tryz.f80 := by kernel_rfl
@[simp] theorem tb_80 (n : Nat) : tab (n + 1) 80 = some (.pure (run n 80)) := tab_pure (by kernel_rfl) (by kernel_rfl) (by kernel_rfl)
@[simp] theorem fn_81 : fnOf 81 = Tryz.f81 := by kernel_rfl
@[simp] theorem lv_81_4 : livesOf 81 4 = [1, 5, 6, 7, 8, 16, 17, 18, ph 7 0 84 4, ph 8 1 0 0, ph 8 2 0 0] := by kernel_rfl
@[simp] theorem lv_81_1000004 : livesOf 81 1000004 = [5, 6, 7, 8] := by kernel_rfl
@[simp] theorem tb_81 (n : Nat) : tab (n + 1) 81 = some (.pure (run n 81)) := tab_pure (by kernel_rfl) (by kernel_rfl) (by kernel_rfl)
@[simp] theorem fn_82 : fnOf 82 = Tryz.f82 := by kernel_rfl
@[simp] theorem tb_82 (n : Nat) : tab (n + 1) 82 = some (.pure (run n 82)) := tab_pure (by kernel_rfl) (by kernel_rfl) (by kernel_rfl)
@[simp] theorem fn_83 : fnOf 83 = Tryz.f83 := by kernel_rfl
@[simp] theorem lv_83_3 : livesOf 83 3 = [1, 5, 8, 9, 10] := by kernel_rfl
@[simp] theorem lv_83_1000003 : livesOf 83 1000003 = [5] := by kernel_rfl
@[simp] theorem tb_83 (n : Nat) : tab (n + 1) 83 = some (.lin [] (runL n 83)) := tab_lin (k := true) (by kernel_rfl) (by kernel_rfl) (by kernel_rfl)
@[simp] theorem kp_83 : keepOf 83 = true := by kernel_rfl
@[simp] theorem fn_84 : fnOf 84 = Tryz.f84 := by kernel_rfl
@[simp] theorem tb_84 (n : Nat) : tab (n + 1) 84 = some (.pure (run n 84)) := tab_pure (by kernel_rfl) (by kernel_rfl) (by kernel_rfl)
@[simp] theorem fn_85 : fnOf 85 = Tryz.f85 := by kernel_rfl
@[simp] theorem tb_85 (n : Nat) : tab (n + 1) 85 = some (.pure (run n 85)) := tab_pure (by kernel_rfl) (by kernel_rfl) (by kernel_rfl)
@[simp] theorem fn_86 : fnOf 86 = Tryz.f86 := by kernel_rfl
@[simp] theorem tb_86 (n : Nat) : tab (n + 1) 86 = some (.pure (run n 86)) := tab_pure (by kernel_rfl) (by kernel_rfl) (by kernel_rfl)
@[simp] theorem fn_87 : fnOf 87 = Tryz.f87 := by kernel_rfl
@[simp] theorem lv_87_3 : livesOf 87 3 = [2, 3, 4, 5, 6, ph 5 0 84 4] := by kernel_rfl
@[simp] theorem lv_87_1000003 : livesOf 87 1000003 = [4, 5] := by kernel_rfl
@[simp] theorem tb_87 (n : Nat) : tab (n + 1) 87 = some (.pure (run n 87)) := tab_pure (by kernel_rfl) (by kernel_rfl) (by kernel_rfl)
@[simp] theorem fn_88 : fnOf 88 = Tryz.f88 := by kernel_rfl
@[simp] theorem tb_88 (n : Nat) : tab (n + 1) 88 = some (.pure (run n 88)) := tab_pure (by kernel_rfl) (by kernel_rfl) (by kernel_rfl)
@[simp] theorem fn_89 : fnOf 89 = Tryz.f89 := by kernel_rfl
@[simp] theorem lv_89_3 : livesOf 89 3 = [0, 1, 5, 7, 8] := by kernel_rfl
@[simp] theorem lv_89_1000003 : livesOf 89 1000003 = [7] := by kernel_rfl
@[simp] theorem tb_89 (n : Nat) : tab (n + 1) 89 = some (.lin [] (runL n 89)) := tab_lin (k := true) (by kernel_rfl) (by kernel_rfl) (by kernel_rfl)
@[simp] theorem kp_89 : keepOf 89 = true := by kernel_rfl
@[simp] theorem fn_90 : fnOf 90 = Tryz.f90 := by kernel_rfl
@[simp] theorem lv_90_4 : livesOf 90 4 = [0, 1, 5] := by kernel_rfl
@[simp] theorem lv_90_1000004 : livesOf 90 1000004 = [4] := by kernel_rfl
@[simp] theorem tb_90 (n : Nat) : tab (n + 1) 90 = some (.pure (run n 90)) := tab_pure (by kernel_rfl) (by kernel_rfl) (by kernel_rfl)
@[simp] theorem fn_91 : fnOf 91 = Tryz.f91 := by kernel_rfl
@[simp] theorem lv_91_2 : livesOf 91 2 = [0, 1, 5] := by kernel_rfl
@[simp] theorem lv_91_1000002 : livesOf 91 1000002 = [4] := by kernel_rfl
@[simp] theorem tb_91 (n : Nat) : tab (n + 1) 91 = some (.pure (run n 91)) := tab_pure (by kernel_rfl) (by kernel_rfl) (by kernel_rfl)
@[simp] theorem fn_92 : fnOf 92 = Tryz.f92 := by kernel_rfl
@[simp] theorem tb_92 (n : Nat) : tab (n + 1) 92 = some (.lin [true] (runL n 92)) := tab_lin (k := false) (by kernel_rfl) (by kernel_rfl) (by kernel_rfl)
@[simp] theorem kp_92 : keepOf 92 = false := by kernel_rfl
@[simp] theorem fn_93 : fnOf 93 = Tryz.f93 := by kernel_rfl
@[simp] theorem tb_93 (n : Nat) : tab (n + 1) 93 = some (.pure (oItoa)) := tab_num rfl _
@[simp] theorem fn_94 : fnOf 94 = Tryz.f94 := by kernel_rfl
@[simp] theorem tb_94 (n : Nat) : tab (n + 1) 94 = some (.pure (run n 94)) := tab_pure (by kernel_rfl) (by kernel_rfl) (by kernel_rfl)
@[simp] theorem fn_95 : fnOf 95 = Tryz.f95 := by kernel_rfl
@[simp] theorem lv_95_2 : livesOf 95 2 = [0, 3] := by kernel_rfl
@[simp] theorem lv_95_7 : livesOf 95 7 = [0, 3, 4] := by kernel_rfl
@[simp] theorem lv_95_1000002 : livesOf 95 1000002 = [2] := by kernel_rfl
@[simp] theorem lv_95_1000007 : livesOf 95 1000007 = [0, 2, 3] := by kernel_rfl
@[simp] theorem tb_95 (n : Nat) : tab (n + 1) 95 = some (.pure (run n 95)) := tab_pure (by kernel_rfl) (by kernel_rfl) (by kernel_rfl)
@[simp] theorem fn_96 : fnOf 96 = Tryz.f96 := by kernel_rfl
@[simp] theorem lv_96_4 : livesOf 96 4 = [2, 4, 5, 23, 24, 25] := by kernel_rfl
@[simp] theorem lv_96_9 : livesOf 96 9 = [4, 5, 36, 37, 38] := by kernel_rfl
@[simp] theorem lv_96_1000004 : livesOf 96 1000004 = [2, 4, 5] := by kernel_rfl
@[simp] theorem lv_96_1000009 : livesOf 96 1000009 = [4, 5] := by kernel_rfl
@[simp] theorem tb_96 (n : Nat) : tab (n + 1) 96 = some (.pure (run n 96)) := tab_pure (by kernel_rfl) (by kernel_rfl) (by kernel_rfl)
@[simp] theorem fn_97 : fnOf 97 = Tryz.f97 := by kernel_rfl
@[simp] theorem lv_97_3 : livesOf 97 3 = [1, 4, 6, 12, 13, 14] := by kernel_rfl
@[simp] theorem lv_97_1000003 : livesOf 97 1000003 = [4, 5, 6] := by kernel_rfl
@[simp] theorem tb_97 (n : Nat) : tab (n + 1) 97 = some (.pure (run n 97)) := tab_pure (by kernel_rfl) (by kernel_rfl) (by kernel_rfl)
@[simp] theorem fn_99 : fnOf 99 = Tryz.f99 := by kernel_rfl
@[simp] theorem lv_99_3 : livesOf 99 3 = [1, 2, 4, 6, 7] := by kernel_rfl
@[simp] theorem lv_99_1000003 : livesOf 99 1000003 = [4, 5, 6] := by kernel_rfl
@[simp] theorem tb_99 (n : Nat) : tab (n + 1) 99 = some (.pure (run n 99)) := tab_pure (by kernel_rfl) (by kernel_rfl) (by kernel_rfl)
@[simp] theorem fn_100 : fnOf 100 = Tryz.f100 := by kernel_rfl
@[simp] theorem tb_100 (n : Nat) : tab (n + 1) 100 = some (.pure (run n 100)) := tab_pure (by kernel_rfl) (by kernel_rfl) (by kernel_rfl)
@[simp] theorem fn_101 : fnOf 101 = Tryz.f101 := by kernel_rfl
@[simp] theorem lv_101_6 : livesOf 101 6 = [1, 8, 10, 11] := by kernel_rfl
@[simp] theorem lv_101_1000006 : livesOf 101 1000006 = [10] := by kernel_rfl
@[simp] theorem tb_101 (n : Nat) : tab (n + 1) 101 = some (.pure (run n 101)) := tab_pure (by kernel_rfl) (by kernel_rfl) (by kernel_rfl)
@[simp] theorem fn_102 : fnOf 102 = Tryz.f102 := by kernel_rfl
@[simp] theorem tb_102 (n : Nat) : tab (n + 1) 102 = some (.pure (run n 102)) := tab_pure (by kernel_rfl) (by kernel_rfl) (by kernel_rfl)
@[simp] theorem fn_104 : fnOf 104 = Tryz.f104 := by kernel_rfl
@[simp] theorem tb_104 (n : Nat) : tab (n + 1) 104 = some (.pure (run n 104)) := tab_pure (by kernel_rfl) (by kernel_rfl) (by kernel_rfl)
@[simp] theorem fn_105 : fnOf 105 = Tryz.f105 := by kernel_rfl
@[simp] theorem lv_105_4 : livesOf 105 4 = [1, 2, 15, 16, 17] := by kernel_rfl
@[simp] theorem lv_105_1000004 : livesOf 105 1000004 = [6] := by kernel_rfl
@[simp] theorem tb_105 (n : Nat) : tab (n + 1) 105 = some (.pure (run n 105)) := tab_pure (by kernel_rfl) (by kernel_rfl) (by kernel_rfl)
@[simp] theorem fn_106 : fnOf 106 = Tryz.f106 := by kernel_rfl
@[simp] theorem lv_106_4 : livesOf 106 4 = [3, 23, 24, 25] := by kernel_rfl
@[simp] theorem lv_106_1000004 : livesOf 106 1000004 = [4] := by kernel_rfl
@[simp] theorem tb_106 (n : Nat) : tab (n + 1) 106 = some (.pure (run n 106)) := tab_pure (by kernel_rfl) (by kernel_rfl) (by kernel_rfl)
@[simp] theorem fn_107 : fnOf 107 = Tryz.f107 := by kernel_rfl
@[simp] theorem tb_107 (n : Nat) : tab (n + 1) 107 = some (.pure (run n 107)) := tab_pure (by kernel_rfl) (by kernel_rfl) (by kernel_rfl)
@[simp] theorem fn_108 : fnOf 108 = Tryz.f108 := by kernel_rfl
@[simp] theorem lv_108_3 : livesOf 108 3 = [1, 2, 4, 5, 11, 12, 13] := by kernel_rfl
@[simp] theorem lv_108_1000003 : livesOf 108 1000003 = [2, 4, 5] := by kernel_rfl
@[simp] theorem tb_108 (n : Nat) : tab (n + 1) 108 = some (.pure (run n 108)) := tab_pure (by kernel_rfl) (by kernel_rfl) (by kernel_rfl)
@[simp] theorem fn_109 : fnOf 109 = Tryz.f109 := by kernel_rfl
@[simp] theorem tb_109 (n : Nat) : tab (n + 1) 109 = some (.pure (run n 109)) := tab_pure (by kernel_rfl) (by kernel_rfl) (by kernel_rfl)
@[simp] theorem fn_110 : fnOf 110 = Tryz.f110 := by kernel_rfl
@[simp] theorem lv_110_3 : livesOf 110 3 = [1, 2, 4, 5, 6] := by kernel_rfl
@[simp] theorem lv_110_1000003 : livesOf 110 1000003 = [2, 4, 5] := by kernel_rfl
@[simp] theorem tb_110 (n : Nat) : tab (n + 1) 110 = some (.pure (run n 110)) := tab_pure (by kernel_rfl) (by kernel_rfl) (by kernel_rfl)
@[simp] theorem fn_111 : fnOf 111 = Tryz.f111 := by kernel_rfl
@[simp] theorem tb_111 (n : Nat) : tab (n + 1) 111 = some (.pure (run n 111)) := tab_pure (by kernel_rfl) (by kernel_rfl) (by kernel_rfl)
@[simp] theorem fn_112 : fnOf 112 = Tryz.f112 := by kernel_rfl
@[simp] theorem tb_112 (n : Nat) : tab (n + 1) 112 = some (.pure (run n 112)) := tab_pure (by kernel_rfl) (by kernel_rfl) (by kernel_rfl)
@[simp] theorem fn_113 : fnOf 113 = Tryz.f113 := by kernel_rfl
@[simp] theorem tb_113 (n : Nat) : tab (n + 1) 113 = some (.pure (run n 113)) := tab_pure (by kernel_rfl) (by kernel_rfl) (by kernel_rfl)
@[simp] theorem fn_114 : fnOf 114 = Tryz.f114 := by kernel_rfl
@[simp] theorem tb_114 (n : Nat) : tab (n + 1) 114 = some (.pure (run n 114)) := tab_pure (by kernel_rfl) (by kernel_rfl) (by kernel_rfl)
@[simp] theorem fn_115 : fnOf 115 = Tryz.f115 := by kernel_rfl
@[simp] theorem lv_115_3 : livesOf 115 3 = [3, 4, 5, 6] := by kernel_rfl
@[simp] theorem lv_115_1000003 : livesOf 115 1000003 = [4, 5] := by kernel_rfl
@[simp] theorem tb_115 (n : Nat) : tab (n + 1) 115 = some (.pure (run n 115)) := tab_pure (by kernel_rfl) (by kernel_rfl) (by kernel_rfl)
@[simp] theorem fn_117 : fnOf 117 = Tryz.f117 := by kernel_rfl
@[simp] theorem tb_117 (n : Nat) : tab (n + 1) 117 = some (.pure (run n 117)) := tab_pure (by kernel_rfl) (by kernel_rfl) (by kernel_rfl)
@[simp] theorem fn_119 : fnOf 119 = Tryz.f119 := by kernel_rfl
@[simp] theorem tb_119 (n : Nat) : tab (n + 1) 119 = some (.lin [false, false, true] (runL n 119)) := tab_lin (k := false) (by kernel_rfl) (by kernel_rfl) (by kernel_rfl)
@[simp] theorem kp_119 : keepOf 119 = false := by kernel_rfl
@[simp] theorem fn_120 : fnOf 120 = Tryz.f120 := by kernel_rfl
@[simp] theorem tb_120 (n : Nat) : tab (n + 1) 120 = some (.lin [true] (runL n 120)) := tab_lin (k := false) (by kernel_rfl) (by kernel_rfl) (by kernel_rfl)
@[simp] theorem kp_120 : keepOf 120 = false := by kernel_rfl
@[simp] theorem fn_121 : fnOf 121 = Tryz.f121 := by kernel_rfl
@[simp] theorem tb_121 (n : Nat) : tab (n + 1) 121 = some (.pure (run n 121)) := tab_pure (by kernel_rfl) (by kernel_rfl) (by kernel_rfl)
@[simp] theorem fn_122 : fnOf 122 = Tryz.f122 := by kernel_rfl
@[simp] theorem lv_122_0 : livesOf 122 0 = [0] := by kernel_rfl
@[simp] theorem lv_122_1000000 : livesOf 122 1000000 = [] := by kernel_rfl
@[simp] theorem tb_122 (n : Nat) : tab (n + 1) 122 = some (.lin [true] (runL n 122)) := tab_lin (k := false) (by kernel_rfl) (by kernel_rfl) (by kernel_rfl)
@[simp] theorem kp_122 : keepOf 122 = false := by kernel_rfl
@[simp] theorem fn_123 : fnOf 123 = Tryz.f123 := by kernel_rfl
@[simp] theorem tb_123 (n : Nat) : tab (n + 1) 123 = some (.lin [true, false] (runL n 123)) := tab_lin (k := false) (by kernel_rfl) (by kernel_rfl) (by kernel_rfl)
@[simp] theorem kp_123 : keepOf 123 = false := by kernel_rfl
@[simp] theorem fn_124 : fnOf 124 = Tryz.f124 := by kernel_rfl
@[simp] theorem tb_124 (n : Nat) : tab (n + 1) 124 = some (.lin [true, false, false] (runL n 124)) := tab_lin (k := false) (by kernel_rfl) (by kernel_rfl) (by kernel_rfl)
@[simp] theorem kp_124 : keepOf 124 = false := by kernel_rfl
@[simp] theorem fn_125 : fnOf 125 = Tryz.f125 := by kernel_rfl
@[simp] theorem tb_125 (n : Nat) : tab (n + 1) 125 = some (.pure (run n 125)) := tab_pure (by kernel_rfl) (by kernel_rfl) (by kernel_rfl)
@[simp] theorem fn_126 : fnOf 126 = Tryz.f126 := by kernel_rfl
@[simp] theorem tb_126 (n : Nat) : tab (n + 1) 126 = some (.pure (run n 126)) := tab_pure (by kernel_rfl) (by kernel_rfl) (by kernel_rfl)
@[simp] theorem fn_127 : fnOf 127 = Tryz.f127 := by kernel_rfl
@[simp] theorem lv_127_3 : livesOf 127 3 = [0, 3] := by kernel_rfl
@[simp] theorem lv_127_1000003 : livesOf 127 1000003 = [3] := by kernel_rfl
@[simp] theorem tb_127 (n : Nat) : tab (n + 1) 127 = some (.pure (run n 127)) := tab_pure (by kernel_rfl) (by kernel_rfl) (by kernel_rfl)
@[simp] theorem fn_128 : fnOf 128 = Tryz.f128 := by kernel_rfl
@[simp] theorem tb_128 (n : Nat) : tab (n + 1) 128 = some (.pure (oU fun k => natA (lmb k))) := tab_num rfl _
@[simp] theorem fn_129 : fnOf 129 = Tryz.f129 := by kernel_rfl
@[simp] theorem lv_129_0 : livesOf 129 0 = [0] := by kernel_rfl
@[simp] theorem lv_129_1000000 : livesOf 129 1000000 = [] := by kernel_rfl
@[simp] theorem tb_129 (n : Nat) : tab (n + 1) 129 = some (.lin [true] (runL n 129)) := tab_lin (k := false) (by kernel_rfl) (by kernel_rfl) (by kernel_rfl)
@[simp] theorem kp_129 : keepOf 129 = false := by kernel_rfl
@[simp] theorem fn_130 : fnOf 130 = Tryz.f130 := by kernel_rfl
@[simp] theorem tb_130 (n : Nat) : tab (n + 1) 130 = some (.lin [true] (runL n 130)) := tab_lin (k := false) (by kernel_rfl) (by kernel_rfl) (by kernel_rfl)
@[simp] theorem kp_130 : keepOf 130 = false := by kernel_rfl
@[simp] theorem fn_131 : fnOf 131 = Tryz.f131 := by kernel_rfl
@[simp] theorem tb_131 (n : Nat) : tab (n + 1) 131 = some (.lin [true, false, false] (runL n 131)) := tab_lin (k := false) (by kernel_rfl) (by kernel_rfl) (by kernel_rfl)
@[simp] theorem kp_131 : keepOf 131 = false := by kernel_rfl
@[simp] theorem fn_132 : fnOf 132 = Tryz.f132 := by kernel_rfl
@[simp] theorem tb_132 (n : Nat) : tab (n + 1) 132 = some (.pure (run n 132)) := tab_pure (by kernel_rfl) (by kernel_rfl) (by kernel_rfl)
@[simp] theorem fn_133 : fnOf 133 = Tryz.f133 := by kernel_rfl
@[simp] theorem tb_133 (n : Nat) : tab (n + 1) 133 = some (.lin [true, false] (runL n 133)) := tab_lin (k := false) (by kernel_rfl) (by kernel_rfl) (by kernel_rfl)
@[simp] theorem kp_133 : keepOf 133 = false := by kernel_rfl
@[simp] theorem fn_134 : fnOf 134 = Tryz.f134 := by kernel_rfl
@[simp] theorem tb_134 (n : Nat) : tab (n + 1) 134 = some (.pure (run n 134)) := tab_pure (by kernel_rfl) (by kernel_rfl) (by kernel_rfl)
@[simp] theorem fn_137 : fnOf 137 = Tryz.f137 := by kernel_rfl
@[simp] theorem tb_137 (n : Nat) : tab (n + 1) 137 = some (.lin [true, false, false] (runL n 137)) := tab_lin (k := true) (by kernel_rfl) (by kernel_rfl) (by kernel_rfl)
@[simp] theorem kp_137 : keepOf 137 = true := by kernel_rfl
@[simp] theorem fn_138 : fnOf 138 = Tryz.f138 := by kernel_rfl
@[simp] theorem lv_138_4 : livesOf 138 4 = [1, 3, 5, 6, 7, 8, 9] := by kernel_rfl
@[simp] theorem lv_138_1000004 : livesOf 138 1000004 = [1, 3, 5, 6, 7, 8] := by kernel_rfl
@[simp] theorem tb_138 (n : Nat) : tab (n + 1) 138 = some (.pure (run n 138)) := tab_pure (by kernel_rfl) (by kernel_rfl) (by kernel_rfl)
@[simp] theorem fn_140 : fnOf 140 = Tryz.f140 := by kernel_rfl
@[simp] theorem lv_140_3 : livesOf 140 3 = [1, 5, 6, 13, 14, 15] := by kernel_rfl
@[simp] theorem lv_140_1000003 : livesOf 140 1000003 = [5, 6] := by kernel_rfl
@[simp] theorem tb_140 (n : Nat) : tab (n + 1) 140 = some (.pure (run n 140)) := tab_pure (by kernel_rfl) (by kernel_rfl) (by kernel_rfl)
@[simp] theorem fn_142 : fnOf 142 = Tryz.f142 := by kernel_rfl
@[simp] theorem tb_142 (n : Nat) : tab (n + 1) 142 = some (.pure (run n 142)) := tab_pure (by kernel_rfl) (by kernel_rfl) (by kernel_rfl)
@[simp] theorem fn_143 : fnOf 143 = Tryz.f143 := by kernel_rfl
@[simp] theorem lv_143_2 : livesOf 143 2 = [1, 4, 8, 9, 10] := by kernel_rfl
@[simp] theorem lv_143_1000002 : livesOf 143 1000002 = [4] := by kernel_rfl
@[simp] theorem tb_143 (n : Nat) : tab (n + 1) 143 = some (.pure (run n 143)) := tab_pure (by kernel_rfl) (by kernel_rfl) (by kernel_rfl)
@[simp] theorem fn_144 : fnOf 144 = Tryz.f144 := by kernel_rfl
@[simp] theorem tb_144 (n : Nat) : tab (n + 1) 144 = some (.pure (run n 144)) := tab_pure (by kernel_rfl) (by kernel_rfl) (by kernel_rfl)
@[simp] theorem fn_145 : fnOf 145 = Tryz.f145 := by kernel_rfl
@[simp] theorem tb_145 (n : Nat) : tab (n + 1) 145 = some (.pure (run n 145)) := tab_pure (by kernel_rfl) (by kernel_rfl) (by kernel_rfl)
@[simp] theorem fn_146 : fnOf 146 = Tryz.f146 := by kernel_rfl
@[simp] theorem tb_146 (n : Nat) : tab (n + 1) 146 = some (.lin [true] ccG) := tab_num rfl _
@[simp] theorem fn_147 : fnOf 147 = Tryz.f147 := by kernel_rfl
@[simp] theorem tb_147 (n : Nat) : tab (n + 1) 147 = some (.pure (run n 147)) := tab_pure (by kernel_rfl) (by kernel_rfl) (by kernel_rfl)
@[simp] theorem fn_148 : fnOf 148 = Tryz.f148 := by kernel_rfl
@[simp] theorem lv_148_4 : livesOf 148 4 = [0, 1, 5] := by kernel_rfl
@[simp] theorem lv_148_1000004 : livesOf 148 1000004 = [4] := by kernel_rfl
@[simp] theorem tb_148 (n : Nat) : tab (n + 1) 148 = some (.pure (run n 148)) := tab_pure (by kernel_rfl) (by kernel_rfl) (by kernel_rfl)
@[simp] theorem fn_149 : fnOf 149 = Tryz.f149 := by kernel_rfl
@[simp] theorem tb_149 (n : Nat) : tab (n + 1) 149 = some (.lin [true, false] (runL n 149)) := tab_lin (k := false) (by kernel_rfl) (by kernel_rfl) (by kernel_rfl)
@[simp] theorem kp_149 : keepOf 149 = false := by kernel_rfl
@[simp] theorem fn_150 : fnOf 150 = Tryz.f150 := by kernel_rfl
@[simp] theorem lv_150_3 : livesOf 150 3 = [0, 1, 4, 5, 6, ph 5 0 0 0] := by kernel_rfl
@[simp] theorem lv_150_1000003 : livesOf 150 1000003 = [4, 5] := by kernel_rfl
@[simp] theorem tb_150 (n : Nat) : tab (n + 1) 150 = some (.lin [true, false] (runL n 150)) := tab_lin (k := false) (by kernel_rfl) (by kernel_rfl) (by kernel_rfl)
@[simp] theorem kp_150 : keepOf 150 = false := by kernel_rfl
@[simp] theorem fn_151 : fnOf 151 = Tryz.f151 := by kernel_rfl
@[simp] theorem tb_151 (n : Nat) : tab (n + 1) 151 = some (.pure (run n 151)) := tab_pure (by kernel_rfl) (by kernel_rfl) (by kernel_rfl)
@[simp] theorem fn_152 : fnOf 152 = Tryz.f152 := by kernel_rfl
@[simp] theorem tb_152 (n : Nat) : tab (n + 1) 152 = some (.pure (run n 152)) := tab_pure (by kernel_rfl) (by kernel_rfl) (by kernel_rfl)
@[simp] theorem fn_153 : fnOf 153 = Tryz.f153 := by kernel_rfl
@[simp] theorem tb_153 (n : Nat) : tab (n + 1) 153 = some (.pure (oQt)) := tab_num rfl _
@[simp] theorem fn_154 : fnOf 154 = Tryz.f154 := by kernel_rfl
@[simp] theorem lv_154_6 : livesOf 154 6 = [1, 5, 29, 30, 31] := by kernel_rfl
@[simp] theorem lv_154_10 : livesOf 154 10 = [1, 5, 6, 7, 8, 29, 30, 31, 36, 37, 38] := by kernel_rfl
@[simp] theorem lv_154_1000006 : livesOf 154 1000006 = [5] := by kernel_rfl
@[simp] theorem lv_154_1000010 : livesOf 154 1000010 = [1, 5, 6, 8, 29, 30, 31] := by kernel_rfl
@[simp] theorem tb_154 (n : Nat) : tab (n + 1) 154 = some (.pure (oN2 fun x y => natA (lmb (val x * val y)))) := tab_num rfl _
@[simp] theorem fn_155 : fnOf 155 = Tryz.f155 := by kernel_rfl
@[simp] theorem tb_155 (n : Nat) : tab (n + 1) 155 = some (.pure (o1 fun x => natA (unL x.l2))) := tab_num rfl _
@[simp] theorem fn_156 : fnOf 156 = Tryz.f156 := by kernel_rfl
@[simp] theorem tb_156 (n : Nat) : tab (n + 1) 156 = some (.pure (run n 156)) := tab_pure (by kernel_rfl) (by kernel_rfl) (by kernel_rfl)
@[simp] theorem fn_157 : fnOf 157 = Tryz.f157 := by kernel_rfl
@[simp] theorem tb_157 (n : Nat) : tab (n + 1) 157 = some (.pure (run n 157)) := tab_pure (by kernel_rfl) (by kernel_rfl) (by kernel_rfl)
@[simp] theorem fn_158 : fnOf 158 = Tryz.f158 := by kernel_rfl
@[simp] theorem lv_158_3 : livesOf 158 3 = [5, 6, 7, 8, 9, ph 7 0 84 4] := by kernel_rfl
@[simp] theorem lv_158_1000003 : livesOf 158 1000003 = [6, 7] := by kernel_rfl
@[simp] theorem tb_158 (n : Nat) : tab (n + 1) 158 = some (.pure (run n 158)) := tab_pure (by kernel_rfl) (by kernel_rfl) (by kernel_rfl)
@[simp] theorem fn_159 : fnOf 159 = Tryz.f159 := by kernel_rfl
@[simp] theorem tb_159 (n : Nat) : tab (n + 1) 159 = some (.pure (oQt)) := tab_num rfl _
@[simp] theorem fn_160 : fnOf 160 = Tryz.f160 := by kernel_rfl
@[simp] theorem lv_160_3 : livesOf 160 3 = [0, 1, 5, 6] := by kernel_rfl
@[simp] theorem lv_160_7 : livesOf 160 7 = [0, 1, 5, 6, 7, 8] := by kernel_rfl
@[simp] theorem lv_160_1000003 : livesOf 160 1000003 = [5] := by kernel_rfl
@[simp] theorem lv_160_1000007 : livesOf 160 1000007 = [0, 1, 5, 6] := by kernel_rfl
@[simp] theorem tb_160 (n : Nat) : tab (n + 1) 160 = some (.pure (oN2 fun x y => natA (lmb (val x * val y)))) := tab_num rfl _
@[simp] theorem fn_161 : fnOf 161 = Tryz.f161 := by kernel_rfl
@[simp] theorem tb_161 (n : Nat) : tab (n + 1) 161 = some (.pure (oN1 (fun _ => true) fun x => natA (lmb (dn x)))) := tab_num rfl _
@[simp] theorem fn_163 : fnOf 163 = Tryz.f163 := by kernel_rfl
@[simp] theorem tb_163 (n : Nat) : tab (n + 1) 163 = some (.lin [true, false] (runL n 163)) := tab_lin (k := true) (by kernel_rfl) (by kernel_rfl) (by kernel_rfl)
@[simp] theorem kp_163 : keepOf 163 = true := by kernel_rfl
@[simp] theorem fn_164 : fnOf 164 = Tryz.f164 := by kernel_rfl
@[simp] theorem tb_164 (n : Nat) : tab (n + 1) 164 = some (.pure (run n 164)) := tab_pure (by kernel_rfl) (by kernel_rfl) (by kernel_rfl)
@[simp] theorem fn_165 : fnOf 165 = Tryz.f165 := by kernel_rfl
@[simp] theorem tb_165 (n : Nat) : tab (n + 1) 165 = some (.pure (run n 165)) := tab_pure (by kernel_rfl) (by kernel_rfl) (by kernel_rfl)
@[simp] theorem fn_168 : fnOf 168 = Tryz.f168 := by kernel_rfl
@[simp] theorem tb_168 (n : Nat) : tab (n + 1) 168 = some (.pure (run n 168)) := tab_pure (by kernel_rfl) (by kernel_rfl) (by kernel_rfl)
@[simp] theorem fn_170 : fnOf 170 = Tryz.f170 := by kernel_rfl
@[simp] theorem tb_170 (n : Nat) : tab (n + 1) 170 = some (.pure (run n 170)) := tab_pure (by kernel_rfl) (by kernel_rfl) (by kernel_rfl)
@[simp] theorem fn_171 : fnOf 171 = Tryz.f171 := by kernel_rfl
@[simp] theorem tb_171 (n : Nat) : tab (n + 1) 171 = some (.pure (run n 171)) := tab_pure (by kernel_rfl) (by kernel_rfl) (by kernel_rfl)
@[simp] theorem fn_172 : fnOf 172 = Tryz.f172 := by kernel_rfl
@[simp] theorem tb_172 (n : Nat) : tab (n + 1) 172 = some (.pure (run n 172)) := tab_pure (by kernel_rfl) (by kernel_rfl) (by kernel_rfl)
@[simp] theorem fn_173 : fnOf 173 = Tryz.f173 := by kernel_rfl
@[simp] theorem tb_173 (n : Nat) : tab (n + 1) 173 = some (.pure (run n 173)) := tab_pure (by kernel_rfl) (by kernel_rfl) (by kernel_rfl)
@[simp] theorem fn_174 : fnOf 174 = Tryz.f174 := by kernel_rfl
@[simp] theorem tb_174 (n : Nat) : tab (n + 1) 174 = some (.pure (run n 174)) := tab_pure (by kernel_rfl) (by kernel_rfl) (by kernel_rfl)
@[simp] theorem fn_175 : fnOf 175 = Tryz.f175 := by kernel_rfl
@[simp] theorem lv_175_2 : livesOf 175 2 = [1, 2, 4, 5] := by kernel_rfl
@[simp] theorem lv_175_1000002 : livesOf 175 1000002 = [4] := by kernel_rfl
@[simp] theorem tb_175 (n : Nat) : tab (n + 1) 175 = some (.pure (run n 175)) := tab_pure (by kernel_rfl) (by kernel_rfl) (by kernel_rfl)
@[simp] theorem fn_176 : fnOf 176 = Tryz.f176 := by kernel_rfl
@[simp] theorem lv_176_5 : livesOf 176 5 = [0, 3, 4] := by kernel_rfl
@[simp] theorem lv_176_1000005 : livesOf 176 1000005 = [4] := by kernel_rfl
@[simp] theorem tb_176 (n : Nat) : tab (n + 1) 176 = some (.pure (run n 176)) := tab_pure (by kernel_rfl) (by kernel_rfl) (by kernel_rfl)
@[simp] theorem fn_177 : fnOf 177 = Tryz.f177 := by kernel_rfl
@[simp] theorem tb_177 (n : Nat) : tab (n + 1) 177 = some (.pure (oIB)) := tab_num rfl _
@[simp] theorem fn_178 : fnOf 178 = Tryz.f178 := by kernel_rfl
@[simp] theorem tb_178 (n : Nat) : tab (n + 1) 178 = some (.pure (oU fun k => natA (lmb k))) := tab_num rfl _
@[simp] theorem fn_179 : fnOf 179 = Tryz.f179 := by kernel_rfl
@[simp] theorem lv_179_7 : livesOf 179 7 = [0, 1, 8] := by kernel_rfl
@[simp] theorem lv_179_1000007 : livesOf 179 1000007 = [0, 8] := by kernel_rfl
@[simp] theorem tb_179 (n : Nat) : tab (n + 1) 179 = some (.lin [true, false, false] (runL n 179)) := tab_lin (k := false) (by kernel_rfl) (by kernel_rfl) (by kernel_rfl)
@[simp] theorem kp_179 : keepOf 179 = false := by kernel_rfl
@[simp] theorem fn_180 : fnOf 180 = Tryz.f180 := by kernel_rfl
@[simp] theorem lv_180_4 : livesOf 180 4 = [3, 4, 9, 10, 11] := by kernel_rfl
@[simp] theorem lv_180_1000004 : livesOf 180 1000004 = [3] := by kernel_rfl
@[simp] theorem tb_180 (n : Nat) : tab (n + 1) 180 = some (.pure (run n 180)) := tab_pure (by kernel_rfl) (by kernel_rfl) (by kernel_rfl)
@[simp] theorem fn_181 : fnOf 181 = Tryz.f181 := by kernel_rfl
@[simp] theorem tb_181 (n : Nat) : tab (n + 1) 181 = some (.lin [true] (runL n 181)) := tab_lin (k := false) (by kernel_rfl) (by kernel_rfl) (by kernel_rfl)
@[simp] theorem kp_181 : keepOf 181 = false := by kernel_rfl
@[simp] theorem fn_182 : fnOf 182 = Tryz.f182 := by kernel_rfl
@[simp] theorem lv_182_2 : livesOf 182 2 = [0, 3] := by kernel_rfl
@[simp] theorem lv_182_1000002 : livesOf 182 1000002 = [0, 3] := by kernel_rfl
@[simp] theorem tb_182 (n : Nat) : tab (n + 1) 182 = some (.pure (oN1 (fun _ => true) fun x => natA (lmb (val x)))) := tab_num rfl _
@[simp] theorem fn_183 : fnOf 183 = Tryz.f183 := by kernel_rfl
@[simp] theorem lv_183_9 : livesOf 183 9 = [0, 1, 11, 12, 13] := by kernel_rfl
@[simp] theorem lv_183_1000009 : livesOf 183 1000009 = [11, 12] := by kernel_rfl
@[simp] theorem tb_183 (n : Nat) : tab (n + 1) 183 = some (.pure (oND fun x y => .tup [natA (lmb (val x / val y)), natA (lmb (val x % val y)), .lit (.int .i64 0)])) := tab_num rfl _
@[simp] theorem fn_184 : fnOf 184 = Tryz.f184 := by kernel_rfl
@[simp] theorem tb_184 (n : Nat) : tab (n + 1) 184 = some (.pure (oN1 u64N fun x => .tup [.lit (.int .u64 (val x : Nat)), .lit (.bool true)])) := tab_num rfl _
@[simp] theorem fn_185 : fnOf 185 = Tryz.f185 := by kernel_rfl
@[simp] theorem lv_185_8 : livesOf 185 8 = [0, 2, 7, 8] := by kernel_rfl
@[simp] theorem lv_185_1000008 : livesOf 185 1000008 = [0, 7] := by kernel_rfl
@[simp] theorem tb_185 (n : Nat) : tab (n + 1) 185 = some (.lin [true, false, false] (runL n 185)) := tab_lin (k := false) (by kernel_rfl) (by kernel_rfl) (by kernel_rfl)
@[simp] theorem kp_185 : keepOf 185 = false := by kernel_rfl
@[simp] theorem fn_186 : fnOf 186 = Tryz.f186 := by kernel_rfl
@[simp] theorem tb_186 (n : Nat) : tab (n + 1) 186 = some (.lin [true] (runL n 186)) := tab_lin (k := false) (by kernel_rfl) (by kernel_rfl) (by kernel_rfl)
@[simp] theorem kp_186 : keepOf 186 = false := by kernel_rfl
@[simp] theorem fn_187 : fnOf 187 = Tryz.f187 := by kernel_rfl
@[simp] theorem lv_187_2 : livesOf 187 2 = [0, 1, 2, 6, 7, 8] := by kernel_rfl
@[simp] theorem lv_187_7 : livesOf 187 7 = [0, 1, 2, 6] := by kernel_rfl
@[simp] theorem lv_187_9 : livesOf 187 9 = [0, 1, 2, 6, 7, 8] := by kernel_rfl
@[simp] theorem lv_187_1000002 : livesOf 187 1000002 = [0, 1, 2, 6, 7] := by kernel_rfl
@[simp] theorem lv_187_1000007 : livesOf 187 1000007 = [] := by kernel_rfl
@[simp] theorem lv_187_1000009 : livesOf 187 1000009 = [0, 1, 2, 6, 7] := by kernel_rfl
@[simp] theorem tb_187 (n : Nat) : tab (n + 1) 187 = some (.lin [true, false, false] (runL n 187)) := tab_lin (k := false) (by kernel_rfl) (by kernel_rfl) (by kernel_rfl)
@[simp] theorem kp_187 : keepOf 187 = false := by kernel_rfl
@[simp] theorem fn_188 : fnOf 188 = Tryz.f188 := by kernel_rfl
@[simp] theorem tb_188 (n : Nat) : tab (n + 1) 188 = some (.pure (run n 188)) := tab_pure (by kernel_rfl) (by kernel_rfl) (by kernel_rfl)
@[simp] theorem fn_189 : fnOf 189 = Tryz.f189 := by kernel_rfl
@[simp] theorem tb_189 (n : Nat) : tab (n + 1) 189 = some (.pure (run n 189)) := tab_pure (by kernel_rfl) (by kernel_rfl) (by kernel_rfl)
@[simp] theorem fn_190 : fnOf 190 = Tryz.f190 := by kernel_rfl
@[simp] theorem tb_190 (n : Nat) : tab (n + 1) 190 = some (.pure (run n 190)) := tab_pure (by kernel_rfl) (by kernel_rfl) (by kernel_rfl)
@[simp] theorem fn_191 : fnOf 191 = Tryz.f191 := by kernel_rfl
@[simp] theorem lv_191_7 : livesOf 191 7 = [0, 1, 5] := by kernel_rfl
@[simp] theorem lv_191_1000007 : livesOf 191 1000007 = [4] := by kernel_rfl
@[simp] theorem tb_191 (n : Nat) : tab (n + 1) 191 = some (.pure (run n 191)) := tab_pure (by kernel_rfl) (by kernel_rfl) (by kernel_rfl)
@[simp] theorem fn_192 : fnOf 192 = Tryz.f192 := by kernel_rfl
@[simp] theorem tb_192 (n : Nat) : tab (n + 1) 192 = some (.pure (run n 192)) := tab_pure (by kernel_rfl) (by kernel_rfl) (by kernel_rfl)
@[simp] theorem fn_194 : fnOf 194 = Tryz.f194 := by kernel_rfl
@[simp] theorem tb_194 (n : Nat) : tab (n + 1) 194 = some (.pure (run n 194)) := tab_pure (by kernel_rfl) (by kernel_rfl) (by kernel_rfl)
@[simp] theorem fn_195 : fnOf 195 = Tryz.f195 := by kernel_rfl
@[simp] theorem tb_195 (n : Nat) : tab (n + 1) 195 = some (.pure (run n 195)) := tab_pure (by kernel_rfl) (by kernel_rfl) (by kernel_rfl)
@[simp] theorem fn_196 : fnOf 196 = Tryz.f196 := by kernel_rfl
@[simp] theorem tb_196 (n : Nat) : tab (n + 1) 196 = some (.pure (oN1 (fun _ => true) fun x => natA (lmb (val x)))) := tab_num rfl _
@[simp] theorem fn_197 : fnOf 197 = Tryz.f197 := by kernel_rfl
@[simp] theorem tb_197 (n : Nat) : tab (n + 1) 197 = some (.pure (run n 197)) := tab_pure (by kernel_rfl) (by kernel_rfl) (by kernel_rfl)
@[simp] theorem fn_198 : fnOf 198 = Tryz.f198 := by kernel_rfl
@[simp] theorem lv_198_2 : livesOf 198 2 = [0, 1] := by kernel_rfl
@[simp] theorem lv_198_10 : livesOf 198 10 = [11, 13] := by kernel_rfl
@[simp] theorem lv_198_1000002 : livesOf 198 1000002 = [0, 1] := by kernel_rfl
@[simp] theorem lv_198_1000010 : livesOf 198 1000010 = [11] := by kernel_rfl
@[simp] theorem tb_198 (n : Nat) : tab (n + 1) 198 = some (.pure (run n 198)) := tab_pure (by kernel_rfl) (by kernel_rfl) (by kernel_rfl)
@[simp] theorem fn_199 : fnOf 199 = Tryz.f199 := by kernel_rfl
@[simp] theorem lv_199_13 : livesOf 199 13 = [9, 10, 11, 12, 13] := by kernel_rfl
@[simp] theorem lv_199_1000013 : livesOf 199 1000013 = [9, 10, 12] := by kernel_rfl
@[simp] theorem tb_199 (n : Nat) : tab (n + 1) 199 = some (.pure (oND fun x y => .tup [natA (lmb (val x / val y)), natA (lmb (val x % val y)), .lit (.int .i64 0)])) := tab_num rfl _
@[simp] theorem fn_200 : fnOf 200 = Tryz.f200 := by kernel_rfl
@[simp] theorem lv_200_2 : livesOf 200 2 = [0, 3] := by kernel_rfl
@[simp] theorem lv_200_1000002 : livesOf 200 1000002 = [0, 3] := by kernel_rfl
@[simp] theorem tb_200 (n : Nat) : tab (n + 1) 200 = some (.pure (run n 200)) := tab_pure (by kernel_rfl) (by kernel_rfl) (by kernel_rfl)
@[simp] theorem fn_201 : fnOf 201 = Tryz.f201 := by kernel_rfl
@[simp] theorem tb_201 (n : Nat) : tab (n + 1) 201 = some (.pure (run n 201)) := tab_pure (by kernel_rfl) (by kernel_rfl) (by kernel_rfl)
@[simp] theorem fn_202 : fnOf 202 = Tryz.f202 := by kernel_rfl
@[simp] theorem lv_202_2 : livesOf 202 2 = [0, 1] := by kernel_rfl
@[simp] theorem lv_202_1000002 : livesOf 202 1000002 = [0] := by kernel_rfl
@[simp] theorem tb_202 (n : Nat) : tab (n + 1) 202 = some (.pure (run n 202)) := tab_pure (by kernel_rfl) (by kernel_rfl) (by kernel_rfl)
@[simp] theorem fn_203 : fnOf 203 = Tryz.f203 := by kernel_rfl
@[simp] theorem tb_203 (n : Nat) : tab (n + 1) 203 = some (.pure (run n 203)) := tab_pure (by kernel_rfl) (by kernel_rfl) (by kernel_rfl)
@[simp] theorem fn_204 : fnOf 204 = Tryz.f204 := by kernel_rfl
@[simp] theorem tb_204 (n : Nat) : tab (n + 1) 204 = some (.pure (run n 204)) := tab_pure (by kernel_rfl) (by kernel_rfl) (by kernel_rfl)
@[simp] theorem fn_206 : fnOf 206 = Tryz.f206 := by kernel_rfl
@[simp] theorem tb_206 (n : Nat) : tab (n + 1) 206 = some (.pure (run n 206)) := tab_pure (by kernel_rfl) (by kernel_rfl) (by kernel_rfl)
@[simp] theorem fn_207 : fnOf 207 = Tryz.f207 := by kernel_rfl
@[simp] theorem lv_207_2 : livesOf 207 2 = [0, 1, 7, 8] := by kernel_rfl
@[simp] theorem lv_207_1000002 : livesOf 207 1000002 = [4] := by kernel_rfl
@[simp] theorem tb_207 (n : Nat) : tab (n + 1) 207 = some (.pure (run n 207)) := tab_pure (by kernel_rfl) (by kernel_rfl) (by kernel_rfl)
@[simp] theorem fn_208 : fnOf 208 = Tryz.f208 := by kernel_rfl
@[simp] theorem lv_208_4 : livesOf 208 4 = [0, 1, 12, 13] := by kernel_rfl
@[simp] theorem lv_208_1000004 : livesOf 208 1000004 = [4] := by kernel_rfl
@[simp] theorem tb_208 (n : Nat) : tab (n + 1) 208 = some (.pure (run n 208)) := tab_pure (by kernel_rfl) (by kernel_rfl) (by kernel_rfl)
@[simp] theorem fn_209 : fnOf 209 = Tryz.f209 := by kernel_rfl
@[simp] theorem lv_209_6 : livesOf 209 6 = [4, 12, 13, 14] := by kernel_rfl
@[simp] theorem lv_209_1000006 : livesOf 209 1000006 = [4] := by kernel_rfl
@[simp] theorem tb_209 (n : Nat) : tab (n + 1) 209 = some (.pure (oN1 u64N fun x => .tup [.lit (.int .u64 (val x : Nat)), .lit (.bool true)])) := tab_num rfl _
@[simp] theorem fn_210 : fnOf 210 = Tryz.f210 := by kernel_rfl
@[simp] theorem tb_210 (n : Nat) : tab (n + 1) 210 = some (.pure (oFU)) := tab_num rfl _
@[simp] theorem fn_211 : fnOf 211 = Tryz.f211 := by kernel_rfl
@[simp] theorem lv_211_38 : livesOf 211 38 = [7, 8, 9] := by kernel_rfl
@[simp] theorem lv_211_1000038 : livesOf 211 1000038 = [9] := by kernel_rfl
@[simp] theorem tb_211 (n : Nat) : tab (n + 1) 211 = some (.pure (oRepeat)) := tab_num rfl _
@[simp] theorem fn_212 : fnOf 212 = Tryz.f212 := by kernel_rfl
@[simp] theorem lv_212_1 : livesOf 212 1 = [0, 2, 3] := by kernel_rfl
@[simp] theorem lv_212_1000001 : livesOf 212 1000001 = [] := by kernel_rfl
@[simp] theorem tb_212 (n : Nat) : tab (n + 1) 212 = some (.lin [true] (runL n 212)) := tab_lin (k := false) (by kernel_rfl) (by kernel_rfl) (by kernel_rfl)
@[simp] theorem kp_212 : keepOf 212 = false := by kernel_rfl
@[simp] theorem fn_213 : fnOf 213 = Tryz.f213 := by kernel_rfl
@[simp] theorem lv_213_12 : livesOf 213 12 = [0, 1, 5, 39, 40, 41] := by kernel_rfl
@[simp] theorem lv_213_22 : livesOf 213 22 = [1, 8, 63, 64, 65] := by kernel_rfl
@[simp] theorem lv_213_1000012 : livesOf 213 1000012 = [0, 1, 5] := by kernel_rfl
@[simp] theorem lv_213_1000022 : livesOf 213 1000022 = [8] := by kernel_rfl
@[simp] theorem tb_213 (n : Nat) : tab (n + 1) 213 = some (.pure (oJoin)) := tab_num rfl _
@[simp] theorem fn_214 : fnOf 214 = Tryz.f214 := by kernel_rfl
@[simp] theorem tb_214 (n : Nat) : tab (n + 1) 214 = some (.pure (run n 214)) := tab_pure (by kernel_rfl) (by kernel_rfl) (by kernel_rfl)
@[simp] theorem fn_215 : fnOf 215 = Tryz.f215 := by kernel_rfl
@[simp] theorem lv_215_7 : livesOf 215 7 = [0, 1, 5, 6, 24, 25, 26] := by kernel_rfl
@[simp] theorem lv_215_1000007 : livesOf 215 1000007 = [0, 5, 6] := by kernel_rfl
@[simp] theorem tb_215 (n : Nat) : tab (n + 1) 215 = some (.pure (oN2 fun x y => natA (lmb (val x + val y)))) := tab_num rfl _
@[simp] theorem fn_216 : fnOf 216 = Tryz.f216 := by kernel_rfl
@[simp] theorem tb_216 (n : Nat) : tab (n + 1) 216 = some (.pure (run n 216)) := tab_pure (by kernel_rfl) (by kernel_rfl) (by kernel_rfl)
@[simp] theorem fn_217 : fnOf 217 = Tryz.f217 := by kernel_rfl
@[simp] theorem lv_217_6 : livesOf 217 6 = [3, 4] := by kernel_rfl
@[simp] theorem lv_217_1000006 : livesOf 217 1000006 = [3] := by kernel_rfl
@[simp] theorem tb_217 (n : Nat) : tab (n + 1) 217 = some (.pure (run n 217)) := tab_pure (by kernel_rfl) (by kernel_rfl) (by kernel_rfl)
@[simp] theorem fn_218 : fnOf 218 = Tryz.f218 := by kernel_rfl
@[simp] theorem lv_218_4 : livesOf 218 4 = [0, 1, 5, 6, 7] := by kernel_rfl
@[simp] theorem lv_218_1000004 : livesOf 218 1000004 = [5, 6] := by kernel_rfl
@[simp] theorem tb_218 (n : Nat) : tab (n + 1) 218 = some (.pure (run n 218)) := tab_pure (by kernel_rfl) (by kernel_rfl) (by kernel_rfl)
@[simp] theorem fn_219 : fnOf 219 = Tryz.f219 := by kernel_rfl
@[simp] theorem lv_219_4 : livesOf 219 4 = [0, 1, 5, 6, 7] := by kernel_rfl
@[simp] theorem lv_219_1000004 : livesOf 219 1000004 = [5, 6] := by kernel_rfl
@[simp] theorem tb_219 (n : Nat) : tab (n + 1) 219 = some (.pure (run n 219)) := tab_pure (by kernel_rfl) (by kernel_rfl) (by kernel_rfl)
@[simp] theorem fn_220 : fnOf 220 = Tryz.f220 := by kernel_rfl
@[simp] theorem lv_220_2 : livesOf 220 2 = [0, 1, 5] := by kernel_rfl
@[simp] theorem lv_220_1000002 : livesOf 220 1000002 = [4] := by kernel_rfl
@[simp] theorem tb_220 (n : Nat) : tab (n + 1) 220 = some (.pure (run n 220)) := tab_pure (by kernel_rfl) (by kernel_rfl) (by kernel_rfl)
@[simp] theorem fn_221 : fnOf 221 = Tryz.f221 := by kernel_rfl
@[simp] theorem lv_221_6 : livesOf 221 6 = [0, 1, 6, 7, 8] := by kernel_rfl
@[simp] theorem lv_221_1000006 : livesOf 221 1000006 = [6] := by kernel_rfl
@[simp] theorem tb_221 (n : Nat) : tab (n + 1) 221 = some (.pure (run n 221)) := tab_pure (by kernel_rfl) (by kernel_rfl) (by kernel_rfl)
@[simp] theorem fn_222 : fnOf 222 = Tryz.f222 := by kernel_rfl
@[simp] theorem lv_222_1 : livesOf 222 1 = [0, 1, 2, 3, 8] := by kernel_rfl
@[simp] theorem lv_222_4 : livesOf 222 4 = [0, 1, 2, 3, 8, 9] := by kernel_rfl
@[simp] theorem lv_222_1000001 : livesOf 222 1000001 = [] := by kernel_rfl
@[simp] theorem lv_222_1000004 : livesOf 222 1000004 = [0, 1, 2, 3, 8] := by kernel_rfl
@[simp] theorem tb_222 (n : Nat) : tab (n + 1) 222 = some (.lin [true, false, false, false] (runL n 222)) := tab_lin (k := false) (by kernel_rfl) (by kernel_rfl) (by kernel_rfl)
@[simp] theorem kp_222 : keepOf 222 = false := by kernel_rfl
@[simp] theorem fn_223 : fnOf 223 = Tryz.f223 := by kernel_rfl
@[simp] theorem lv_223_3 : livesOf 223 3 = [0, 1, 4, 10, 11] := by kernel_rfl
@[simp] theorem lv_223_9 : livesOf 223 9 = [0, 10, 13] := by kernel_rfl
@[simp] theorem lv_223_15 : livesOf 223 15 = [0, 2, 4, 14, 15] := by kernel_rfl
@[simp] theorem lv_223_21 : livesOf 223 21 = [0, 14, 17] := by kernel_rfl
@[simp] theorem lv_223_33 : livesOf 223 33 = [0, 1, 2, 3, 4, 18, 19, 20, 21, 22] := by kernel_rfl
@[simp] theorem lv_223_1000003 : livesOf 223 1000003 = [0, 1, 10] := by kernel_rfl
@[simp] theorem lv_223_1000009 : livesOf 223 1000009 = [] := by kernel_rfl
@[simp] theorem lv_223_1000015 : livesOf 223 1000015 = [0, 2, 14] := by kernel_rfl
@[simp] theorem lv_223_1000021 : livesOf 223 1000021 = [] := by kernel_rfl
@[simp] theorem lv_223_1000033 : livesOf 223 1000033 = [0, 1, 2, 3, 4, 18, 19, 20] := by kernel_rfl
@[simp] theorem tb_223 (n : Nat) : tab (n + 1) 223 = some (.lin [true, false, false, false, false] (runL n 223)) := tab_lin (k := false) (by kernel_rfl) (by kernel_rfl) (by kernel_rfl)
@[simp] theorem kp_223 : keepOf 223 = false := by kernel_rfl
@[simp] theorem fn_224 : fnOf 224 = Tryz.f224 := by kernel_rfl
@[simp] theorem tb_224 (n : Nat) : tab (n + 1) 224 = some (.pure (run n 224)) := tab_pure (by kernel_rfl) (by kernel_rfl) (by kernel_rfl)
@[simp] theorem fn_225 : fnOf 225 = Tryz.f225 := by kernel_rfl
@[simp] theorem lv_225_7 : livesOf 225 7 = [1, 6, 7, 22, 23, 24] := by kernel_rfl
@[simp] theorem lv_225_1000007 : livesOf 225 1000007 = [6] := by kernel_rfl
@[simp] theorem tb_225 (n : Nat) : tab (n + 1) 225 = some (.pure (run n 225)) := tab_pure (by kernel_rfl) (by kernel_rfl) (by kernel_rfl)
@[simp] theorem fn_226 : fnOf 226 = Tryz.f226 := by kernel_rfl
@[simp] theorem tb_226 (n : Nat) : tab (n + 1) 226 = some (.pure (run n 226)) := tab_pure (by kernel_rfl) (by kernel_rfl) (by kernel_rfl)
@[simp] theorem fn_227 : fnOf 227 = Tryz.f227 := by kernel_rfl
@[simp] theorem tb_227 (n : Nat) : tab (n + 1) 227 = some (.pure (run n 227)) := tab_pure (by kernel_rfl) (by kernel_rfl) (by kernel_rfl)
@[simp] theorem fn_228 : fnOf 228 = Tryz.f228 := by kernel_rfl
@[simp] theorem lv_228_4 : livesOf 228 4 = [0, 1, 6, 7, 8] := by kernel_rfl
@[simp] theorem lv_228_1000004 : livesOf 228 1000004 = [6, 7] := by kernel_rfl
@[simp] theorem tb_228 (n : Nat) : tab (n + 1) 228 = some (.pure (run n 228)) := tab_pure (by kernel_rfl) (by kernel_rfl) (by kernel_rfl)
@[simp] theorem fn_229 : fnOf 229 = Tryz.f229 := by kernel_rfl
@[simp] theorem tb_229 (n : Nat) : tab (n + 1) 229 = some (.pure (run n 229)) := tab_pure (by kernel_rfl) (by kernel_rfl) (by kernel_rfl)
@[simp] theorem fn_230 : fnOf 230 = Tryz.f230 := by kernel_rfl
@[simp] theorem lv_230_3 : livesOf 230 3 = [1, 5, 13, 14, 15] := by kernel_rfl
@[simp] theorem lv_230_1000003 : livesOf 230 1000003 = [5] := by kernel_rfl
@[simp] theorem tb_230 (n : Nat) : tab (n + 1) 230 = some (.pure (run n 230)) := tab_pure (by kernel_rfl) (by kernel_rfl) (by kernel_rfl)
@[simp] theorem fn_231 : fnOf 231 = Tryz.f231 := by kernel_rfl
@[simp] theorem lv_231_3 : livesOf 231 3 = [0, 1, 2, 7, 8, 15, 16, 17] := by kernel_rfl
@[simp] theorem lv_231_17 : livesOf 231 17 = [0, 1, 2, 7, 70, 71, 72] := by kernel_rfl
@[simp] theorem lv_231_1000003 : livesOf 231 1000003 = [0, 1, 2, 7, 8] := by kernel_rfl
@[simp] theorem lv_231_1000017 : livesOf 231 1000017 = [0, 1, 2, 7] := by kernel_rfl
@[simp] theorem tb_231 (n : Nat) : tab (n + 1) 231 = some (.lin [true, false, false] (runL n 231)) := tab_lin (k := false) (by kernel_rfl) (by kernel_rfl) (by kernel_rfl)
@[simp] theorem kp_231 : keepOf 231 = false := by kernel_rfl
@[simp] theorem fn_232 : fnOf 232 = Tryz.f232 := by kernel_rfl
@[simp] theorem lv_232_4 : livesOf 232 4 = [0, 1, 5, 7, 8] := by kernel_rfl
@[simp] theorem lv_232_1000004 : livesOf 232 1000004 = [7] := by kernel_rfl
@[simp] theorem tb_232 (n : Nat) : tab (n + 1) 232 = some (.pure (run n 232)) := tab_pure (by kernel_rfl) (by kernel_rfl) (by kernel_rfl)
@[simp] theorem fn_233 : fnOf 233 = Tryz.f233 := by kernel_rfl
@[simp] theorem lv_233_9 : livesOf 233 9 = [0, 1, 6, 30, 31, 32] := by kernel_rfl
@[simp] theorem lv_233_1000009 : livesOf 233 1000009 = [6] := by kernel_rfl
@[simp] theorem tb_233 (n : Nat) : tab (n + 1) 233 = some (.pure (run n 233)) := tab_pure (by kernel_rfl) (by kernel_rfl) (by kernel_rfl)
@[simp] theorem fn_234 : fnOf 234 = Tryz.f234 := by kernel_rfl
@[simp] theorem tb_234 (n : Nat) : tab (n + 1) 234 = some (.pure (run n 234)) := tab_pure (by kernel_rfl) (by kernel_rfl) (by kernel_rfl)
@[simp] theorem fn_235 : fnOf 235 = Tryz.f235 := by kernel_rfl
@[simp] theorem tb_235 (n : Nat) : tab (n + 1) 235 = some (.pure (run n 235)) := tab_pure (by kernel_rfl) (by kernel_rfl) (by kernel_rfl)
@[simp] theorem fn_236 : fnOf 236 = Tryz.f236 := by kernel_rfl
@[simp] theorem lv_236_1 : livesOf 236 1 = [0, 1, 4] := by kernel_rfl
@[simp] theorem lv_236_1000001 : livesOf 236 1000001 = [0, 1, 4] := by kernel_rfl
@[simp] theorem tb_236 (n : Nat) : tab (n + 1) 236 = some (.lin [true, false] (runL n 236)) := tab_lin (k := false) (by kernel_rfl) (by kernel_rfl) (by kernel_rfl)
@[simp] theorem kp_236 : keepOf 236 = false := by kernel_rfl
@[simp] theorem fn_237 : fnOf 237 = Tryz.f237 := by kernel_rfl
@[simp] theorem lv_237_11 : livesOf 237 11 = [0, 1, 3, 4, 10, 11, 12, 13, 14, 15, 16] := by kernel_rfl
@[simp] theorem lv_237_18 : livesOf 237 18 = [0, 1, 3, 4, 10, 11, 12, 13, 17] := by kernel_rfl
@[simp] theorem lv_237_1000011 : livesOf 237 1000011 = [0, 1, 3, 4, 10, 11, 12, 13] := by kernel_rfl
@[simp] theorem lv_237_1000018 : livesOf 237 1000018 = [0, 1, 3, 4, 10, 11, 12, 13] := by kernel_rfl
@[simp] theorem tb_237 (n : Nat) : tab (n + 1) 237 = some (.lin [true, false, false, false, false] (runL n 237)) := tab_lin (k := true) (by kernel_rfl) (by kernel_rfl) (by kernel_rfl)
@[simp] theorem kp_237 : keepOf 237 = true := by kernel_rfl
@[simp] theorem fn_238 : fnOf 238 = Tryz.f238 := by kernel_rfl
@[simp] theorem tb_238 (n : Nat) : tab (n + 1) 238 = some (.pure (run n 238)) := tab_pure (by kernel_rfl) (by kernel_rfl) (by kernel_rfl)
@[simp] theorem fn_239 : fnOf 239 = Tryz.f239 := by kernel_rfl
@[simp] theorem tb_239 (n : Nat) : tab (n + 1) 239 = some (.pure (run n 239)) := tab_pure (by kernel_rfl) (by kernel_rfl) (by kernel_rfl)
@[simp] theorem fn_240 : fnOf 240 = Tryz.f240 := by kernel_rfl
@[simp] theorem tb_240 (n : Nat) : tab (n + 1) 240 = some (.pure (run n 240)) := tab_pure (by kernel_rfl) (by kernel_rfl) (by kernel_rfl)
@[simp] theorem fn_241 : fnOf 241 = Tryz.f241 := by kernel_rfl
@[simp] theorem tb_241 (n : Nat) : tab (n + 1) 241 = some (.pure (run n 241)) := tab_pure (by kernel_rfl) (by kernel_rfl) (by kernel_rfl)
@[simp] theorem fn_242 : fnOf 242 = Tryz.f242 := by kernel_rfl
@[simp] theorem tb_242 (n : Nat) : tab (n + 1) 242 = some (.lin [true, false] (runL n 242)) := tab_lin (k := false) (by kernel_rfl) (by kernel_rfl) (by kernel_rfl)
@[simp] theorem kp_242 : keepOf 242 = false := by kernel_rfl
@[simp] theorem fn_244 : fnOf 244 = Tryz.f244 := by kernel_rfl
@[simp] theorem lv_244_10 : livesOf 244 10 = [5, 6, 47, 48, 49] := by kernel_rfl
@[simp] theorem lv_244_1000010 : livesOf 244 1000010 = [2, 3, 5, 6] := by kernel_rfl
@[simp] theorem tb_244 (n : Nat) : tab (n + 1) 244 = some (.pure (run n 244)) := tab_pure (by kernel_rfl) (by kernel_rfl) (by kernel_rfl)
@[simp] theorem fn_245 : fnOf 245 = Tryz.f245 := by kernel_rfl
@[simp] theorem tb_245 (n : Nat) : tab (n + 1) 245 = some (.pure (run n 245)) := tab_pure (by kernel_rfl) (by kernel_rfl) (by kernel_rfl)
@[simp] theorem fn_246 : fnOf 246 = Tryz.f246 := by kernel_rfl
@[simp] theorem lv_246_2 : livesOf 246 2 = [0, 2, 4, 10, 11] := by kernel_rfl
@[simp] theorem lv_246_1000002 : livesOf 246 1000002 = [0, 2, 4, 10] := by kernel_rfl
@[simp] theorem tb_246 (n : Nat) : tab (n + 1) 246 = some (.lin [true, false, false, false, false] (runL n 246)) := tab_lin (k := false) (by kernel_rfl) (by kernel_rfl) (by kernel_rfl)
@[simp] theorem kp_246 : keepOf 246 = false := by kernel_rfl
@[simp] theorem fn_247 : fnOf 247 = Tryz.f247 := by kernel_rfl
@[simp] theorem tb_247 (n : Nat) : tab (n + 1) 247 = some (.pure (run n 247)) := tab_pure (by kernel_rfl) (by kernel_rfl) (by kernel_rfl)
@[simp] theorem fn_248 : fnOf 248 = Tryz.f248 := by kernel_rfl
@[simp] theorem tb_248 (n : Nat) : tab (n + 1) 248 = some (.pure (run n 248)) := tab_pure (by kernel_rfl) (by kernel_rfl) (by kernel_rfl)
@[simp] theorem fn_249 : fnOf 249 = Tryz.f249 := by kernel_rfl
@[simp] theorem tb_249 (n : Nat) : tab (n + 1) 249 = some (.pure (run n 249)) := tab_pure (by kernel_rfl) (by kernel_rfl) (by kernel_rfl)
@[simp] theorem fn_250 : fnOf 250 = Tryz.f250 := by kernel_rfl
@[simp] theorem tb_250 (n : Nat) : tab (n + 1) 250 = some (.pure (run n 250)) := tab_pure (by kernel_rfl) (by kernel_rfl) (by kernel_rfl)
@[simp] theorem fn_251 : fnOf 251 = Tryz.f251 := by kernel_rfl
@[simp] theorem tb_251 (n : Nat) : tab (n + 1) 251 = some (.pure (run n 251)) := tab_pure (by kernel_rfl) (by kernel_rfl) (by kernel_rfl)
@[simp] theorem fn_252 : fnOf 252 = Tryz.f252 := by kernel_rfl
@[simp] theorem tb_252 (n : Nat) : tab (n + 1) 252 = some (.pure (run n 252)) := tab_pure (by kernel_rfl) (by kernel_rfl) (by kernel_rfl)
@[simp] theorem fn_253 : fnOf 253 = Tryz.f253 := by kernel_rfl
@[simp] theorem tb_253 (n : Nat) : tab (n + 1) 253 = some (.pure (run n 253)) := tab_pure (by kernel_rfl) (by kernel_rfl) (by kernel_rfl)
@[simp] theorem fn_254 : fnOf 254 = Tryz.f254 := by kernel_rfl
@[simp] theorem tb_254 (n : Nat) : tab (n + 1) 254 = some (.pure (run n 254)) := tab_pure (by kernel_rfl) (by kernel_rfl) (by kernel_rfl)
@[simp] theorem fn_255 : fnOf 255 = Tryz.f255 := by kernel_rfl
@[simp] theorem tb_255 (n : Nat) : tab (n + 1) 255 = some (.lin [true, false] (runL n 255)) := tab_lin (k := false) (by kernel_rfl) (by kernel_rfl) (by kernel_rfl)
@[simp] theorem kp_255 : keepOf 255 = false := by kernel_rfl
@[simp] theorem fn_256 : fnOf 256 = Tryz.f256 := by kernel_rfl
@[simp] theorem tb_256 (n : Nat) : tab (n + 1) 256 = some (.pure (run n 256)) := tab_pure (by kernel_rfl) (by kernel_rfl) (by kernel_rfl)
@[simp] theorem fn_257 : fnOf 257 = Tryz.f257 := by kernel_rfl
@[simp] theorem tb_257 (n : Nat) : tab (n + 1) 257 = some (.lin [] (runL n 257)) := tab_lin (k := true) (by kernel_rfl) (by kernel_rfl) (by kernel_rfl)
@[simp] theorem kp_257 : keepOf 257 = true := by kernel_rfl
@[simp] theorem fn_258 : fnOf 258 = Tryz.f258 := by kernel_rfl
@[simp] theorem tb_258 (n : Nat) : tab (n + 1) 258 = some (.lin [] (runL n 258)) := tab_lin (k := true) (by kernel_rfl) (by kernel_rfl) (by kernel_rfl)
@[simp] theorem kp_258 : keepOf 258 = true := by kernel_rfl
@[simp] theorem fn_259 : fnOf 259 = Tryz.f259 := by kernel_rfl
@[simp] theorem tb_259 (n : Nat) : tab (n + 1) 259 = some (.lin [] (runL n 259)) := tab_lin (k := true) (by kernel_rfl) (by kernel_rfl) (by kernel_rfl)
@[simp] theorem kp_259 : keepOf 259 = true := by kernel_rfl
@[simp] theorem fn_260 : fnOf 260 = Tryz.f260 := by kernel_rfl
@[simp] theorem tb_260 (n : Nat) : tab (n + 1) 260 = some (.lin [] (runL n 260)) := tab_lin (k := true) (by kernel_rfl) (by kernel_rfl) (by kernel_rfl)
@[simp] theorem kp_260 : keepOf 260 = true := by kernel_rfl
@[simp] theorem fn_261 : fnOf 261 = Tryz.f261 := by kernel_rfl
@[simp] theorem lv_261_1 : livesOf 261 1 = [0, 1, 2, 3, 10] := by kernel_rfl
@[simp] theorem lv_261_1000001 : livesOf 261 1000001 = [] := by kernel_rfl
@[simp] theorem tb_261 (n : Nat) : tab (n + 1) 261 = some (.lin [true, false, false, false, false] (runL n 261)) := tab_lin (k := false) (by kernel_rfl) (by kernel_rfl) (by kernel_rfl)
@[simp] theorem kp_261 : keepOf 261 = false := by kernel_rfl
@[simp] theorem fn_262 : fnOf 262 = Tryz.f262 := by kernel_rfl
@[simp] theorem tb_262 (n : Nat) : tab (n + 1) 262 = some (.pure (run n 262)) := tab_pure (by kernel_rfl) (by kernel_rfl) (by kernel_rfl)
@[simp] theorem fn_263 : fnOf 263 = Tryz.f263 := by kernel_rfl
@[simp] theorem tb_263 (n : Nat) : tab (n + 1) 263 = some (.pure (run n 263)) := tab_pure (by kernel_rfl) (by kernel_rfl) (by kernel_rfl)
@[simp] theorem fn_265 : fnOf 265 = Tryz.f265 := by kernel_rfl
@[simp] theorem lv_265_36 : livesOf 265 36 = [1, 8, 9, 10, 11, 12, 13, 99, 100, 101] := by kernel_rfl
@[simp] theorem lv_265_1000036 : livesOf 265 1000036 = [6, 7, 9, 12, 13] := by kernel_rfl
@[simp] theorem tb_265 (n : Nat) : tab (n + 1) 265 = some (.pure (run n 265)) := tab_pure (by kernel_rfl) (by kernel_rfl) (by kernel_rfl)
@[simp] theorem fn_266 : fnOf 266 = Tryz.f266 := by kernel_rfl
@[simp] theorem tb_266 (n : Nat) : tab (n + 1) 266 = some (.pure (run n 266)) := tab_pure (by kernel_rfl) (by kernel_rfl) (by kernel_rfl)
@[simp] theorem fn_267 : fnOf 267 = Tryz.f267 := by kernel_rfl
@[simp] theorem tb_267 (n : Nat) : tab (n + 1) 267 = some (.pure (run n 267)) := tab_pure (by kernel_rfl) (by kernel_rfl) (by kernel_rfl)
@[simp] theorem fn_268 : fnOf 268 = Tryz.f268 := by kernel_rfl
@[simp] theorem tb_268 (n : Nat) : tab (n + 1) 268 = some (.pure (run n 268)) := tab_pure (by kernel_rfl) (by kernel_rfl) (by kernel_rfl)
@[simp] theorem fn_269 : fnOf 269 = Tryz.f269 := by kernel_rfl
@[simp] theorem lv_269_10 : livesOf 269 10 = [0, 3, 4, 5] := by kernel_rfl
@[simp] theorem lv_269_1000010 : livesOf 269 1000010 = [2, 3] := by kernel_rfl
@[simp] theorem tb_269 (n : Nat) : tab (n + 1) 269 = some (.pure (run n 269)) := tab_pure (by kernel_rfl) (by kernel_rfl) (by kernel_rfl)
@[simp] theorem fn_297 : fnOf 297 = Tryz.f297 := by kernel_rfl
@[simp] theorem tb_297 (n : Nat) : tab (n + 1) 297 = some (.pure (run n 297)) := tab_pure (by kernel_rfl) (by kernel_rfl) (by kernel_rfl)
end Go.Proofs.YtlpmemelhlnfbaaGreatDoor
