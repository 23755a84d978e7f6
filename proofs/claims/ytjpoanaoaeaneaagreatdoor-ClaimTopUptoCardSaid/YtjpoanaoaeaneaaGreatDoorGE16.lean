import Derived.Test.YtjpoanaoaeaneaaGreatDoorGE15
import Derived.Test.YtjpoanaoaeaneaaGreatDoorGE13
import Derived.Test.YtjpoanaoaeaneaaGreatDoorGE8
set_option linter.all false
set_option maxRecDepth 100000
namespace Go.Proofs.YtjpoanaoaeaneaaGreatDoor
open Go.RowKit
def livesT : List (Nat × List (Nat × List Nat)) := [(11, [(8, [0, 5, 6, 7, 8, 9]), (1000008, [0, 5, 6, 7, 8])]), (17, [(2, [1, 2, 5]), (1000002, [2, 4])]), (18, [(4, [1, 3, 4, 11, 12, 13]), (1000004, [1, 3, 4])]), (19, [(7, [0, 2, 5, 6, 7, ph 6 0 0 0, ph 6 2 0 0, ph 6 3 0 0]), (1000007, [2, 3, 4])]), (20, [(3, [1, 3, 4]), (1000003, [1, 3])]), (34, [(2, [1, 2, 8, 9, 10]), (1000002, [2, 4])]), (36, [(4, [1, 3]), (9, [1, 3, 4]), (1000004, [2]), (1000009, [1, 2, 3])]), (37, [(6, [1, 2, 6, 7, 19, 20, 21]), (12, [2, 6, 7, 35, 36]), (1000006, [1, 2, 6, 7]), (1000012, [7])]), (39, [(7, [2, 6, 7, 8]), (12, [1, 2, 6, 7, 9]), (1000007, [6]), (1000012, [6])]), (43, [(2, [0, 3]), (1000002, [0, 2])]), (44, [(5, [1, 23, 24, 25]), (1000005, [4, 5, 6])]), (45, [(5, [1, 7, 9]), (1000005, [4, 5, 6])]), (52, [(7, [1, 4, 18, 19, 20]), (1000007, [1, 4])]), (59, [(3, [1, 2, 4, 6, 7]), (1000003, [4, 5, 6])]), (69, [(0, [0]), (1000000, [])]), (74, [(3, [0, 3]), (1000003, [3])]), (98, [(4, [1, 3, 5, 6, 7, 8, 9]), (1000004, [1, 3, 5, 6, 7, 8])]), (108, [(2, [0, 1, 5]), (1000002, [4])]), (109, [(3, [1, 4, 6, 12, 13, 14]), (1000003, [4, 5, 6])]), (119, [(12, [0, 1, 5, 39, 40, 41]), (22, [1, 8, 63, 64, 65]), (1000012, [0, 1, 5]), (1000022, [8])]), (125, [(4, [5, 6, 14, 15, 16]), (1000004, [2, 3, 4, 5])]), (133, [(3, [5, 6, 7, 8, 9, ph 7 0 82 4]), (1000003, [6, 7])]), (137, [(5, [0, 3, 4]), (1000005, [4])]), (140, [(7, [0, 1, 8]), (1000007, [0, 8])]), (141, [(4, [3, 4, 9, 10, 11]), (1000004, [3])]), (144, [(2, [0, 3]), (1000002, [0, 3])]), (145, [(9, [0, 1, 11, 12, 13]), (1000009, [11, 12])]), (159, [(11, [0, 1, 2, 3, 9, 10]), (1000011, [0, 9, 10])]), (160, [(10, [5, 6, 47, 48, 49]), (1000010, [2, 3, 5, 6])]), (165, [(4, [0, 1, 5, 6, 7]), (1000004, [5, 6])]), (172, [(6, [1, 5, 29, 30, 31]), (10, [1, 5, 6, 7, 8, 29, 30, 31, 36, 37, 38]), (1000006, [5]), (1000010, [1, 5, 6, 8, 29, 30, 31])]), (177, [(7, [0, 1, 5]), (1000007, [4])]), (179, [(3, [3, 4, 5, 6]), (1000003, [4, 5])]), (180, [(3, [2, 3, 4, 5, 6, ph 5 0 82 4]), (1000003, [4, 5])]), (181, [(2, [0, 1, 7, 8]), (1000002, [4])]), (184, [(6, [0, 1, 6, 7, 8]), (1000006, [6])]), (186, [(13, [0, 1, 2, 10, 11, 52, 53]), (21, [0, 2, 10, 11, 77, 78]), (1000013, [0, 10, 11]), (1000021, [0, 10, 11])]), (188, [(2, [0, 1, 5]), (1000002, [4])]), (189, [(6, [0, 1, 5, 6, 7, 8, 9, 10]), (12, [0, 1, 5, 6, 7, 9, 11]), (1000006, [0, 1, 5, 6, 7, 8, 9]), (1000012, [4])]), (191, [(1, [0, 1]), (1000001, [0])]), (192, [(2, [0, 2, 4]), (1000002, [2, 3])]), (193, [(1, [0, 1]), (1000001, [0])]), (194, [(1, [0, 1]), (1000001, [0])]), (202, [(13, [9, 10, 11, 12, 13]), (1000013, [9, 10, 12])]), (203, [(6, [4, 12, 13, 14]), (1000006, [4])]), (205, [(38, [7, 8, 9]), (1000038, [9])]), (206, [(1, [0, 2, 3]), (1000001, [])]), (208, [(2, [0, 3]), (1000002, [0, 3])]), (209, [(7, [0, 1, 5, 6, 24, 25, 26]), (1000007, [0, 5, 6])]), (210, [(6, [3, 4]), (1000006, [3])]), (211, [(4, [0, 1, 5, 6, 7]), (1000004, [5, 6])]), (212, [(2, [0, 1, 5]), (1000002, [4])]), (216, [(6, [0, 1, 6, 7]), (1000006, [0, 1, 6])]), (217, [(6, [0, 1, 5]), (1000006, [4])]), (240, [(3, [0, 4, 5]), (8, [4, 6, 7, 8]), (1000003, [0, 4]), (1000008, [4, 6])]), (244, [(1, [0, 1]), (1000001, [0])]), (245, [(1, [0, 1]), (1000001, [0])]), (246, [(1, [0, 1]), (1000001, [0])]), (247, [(15, [0, 1, 5, 6, 7, 8, 9, 10]), (1000015, [4])]), (250, [(1, [0, 1, 4]), (1000001, [0, 1, 4])]), (251, [(11, [0, 1, 3, 4, 10, 11, 12, 13, 14, 15, 16]), (18, [0, 1, 3, 4, 10, 11, 12, 13, 17]), (1000011, [0, 1, 3, 4, 10, 11, 12, 13]), (1000018, [0, 1, 3, 4, 10, 11, 12, 13])]), (252, [(4, [0, 1, 6, 7, 8]), (1000004, [6, 7])]), (254, [(3, [1, 5, 13, 14, 15]), (1000003, [5])]), (255, [(3, [0, 1, 2, 7, 8, 15, 16, 17]), (17, [0, 1, 2, 7, 70, 71, 72]), (1000003, [0, 1, 2, 7, 8]), (1000017, [0, 1, 2, 7])]), (256, [(4, [0, 1, 5, 7, 8]), (1000004, [7])]), (257, [(9, [0, 1, 6, 30, 31, 32]), (1000009, [6])]), (262, [(2, [2, 4]), (1000002, [2])]), (264, [(36, [1, 8, 9, 10, 11, 12, 13, 99, 100, 101]), (1000036, [6, 7, 9, 12, 13])]), (272, [(10, [0, 4, 5, 6]), (1000010, [0, 4, 5])]), (275, [(5, [0, 1, 5, 6, 7, 8, 9]), (11, [0, 1, 5, 6, 7, 8, 10]), (1000005, [0, 1, 5, 6, 7, 8]), (1000011, [4])]), (284, [(10, [0, 3, 4, 5]), (1000010, [2, 3])]), (288, [(3, [0, 4, 5]), (8, [4, 6, 7, 8]), (1000003, [0, 4]), (1000008, [4, 6])])]
def livesOf (f : FuncId) : Nat → List Nat := lv ((livesT.lookup f).getD [])
def modesT : List (Nat × (List Bool × Bool)) := [(63, ([false, false, true], false)), (64, ([true], false)), (65, ([true, false], false)), (68, ([true], false)), (69, ([true], false)), (70, ([true, false], false)), (71, ([true, false, false], false)), (97, ([true, false, false], true)), (135, ([true], false)), (140, ([true, false, false], false)), (143, ([true], false)), (173, ([true, false], true)), (187, ([true, false], false)), (193, ([false, true], false)), (206, ([true], false)), (219, ([], true)), (220, ([], true)), (221, ([], true)), (222, ([], true)), (239, ([true, false], false)), (241, ([true, false], false)), (245, ([false, true], false)), (250, ([true, false], false)), (251, ([true, false, false, false, false], true)), (255, ([true, false, false], false))]
noncomputable def fnOf (f : FuncId) : Func := (Tryz.prog.funcs[f]?).getD default
def keepOf (f : FuncId) : Bool := ((modesT.lookup f).getD ([], false)).2
noncomputable def tab : Nat → FuncId → Option Orc
  | 0, f => orc0 f
  | n + 1, f => match orc0 f with
    | some x => some x
    | none => match plainF Tryz.prog f with
      | true => (match modesT.lookup f with
        | some (ms, k) => some (.lin ms (fnL Tryz.prog (tab n) (livesOf f) big (fnOf f) (keepOf f)))
        | none => some (.pure (fnP Tryz.prog (tab n) (livesOf f) big (fnOf f))))
      | false => none
theorem plain_fn {f : FuncId} (h : plainF Tryz.prog f = true) : Tryz.prog.funcs[f]? = some (fnOf f) := by
  unfold plainF at h
  unfold fnOf
  split at h
  · rename_i fn hf; rw [hf]; rfl
  · cases h
theorem tab_ok : ∀ n, OrcOk Tryz.prog (tab n)
  | 0 => orc0_ok
  | n + 1 => by
    have key : ∀ f x, tab (n + 1) f = some x → (orc0 f = some x) ∨ (plainF Tryz.prog f = true ∧ ((∃ (ms : List Bool) (k : Bool), x = .lin ms (fnL Tryz.prog (tab n) (livesOf f) big (fnOf f) (keepOf f))) ∨ x = .pure (fnP Tryz.prog (tab n) (livesOf f) big (fnOf f)))) := fun f x h => by
      unfold tab at h
      split at h
      · rename_i y hy; cases h; exact .inl hy
      · split at h
        · rename_i hp
          split at h
          · cases h; exact .inr ⟨hp, .inl ⟨_, false, rfl⟩⟩
          · cases h; exact .inr ⟨hp, .inr rfl⟩
        · cases h
    refine ⟨fun f g h => ?_, fun f ms g h => ?_⟩
    · rcases key f _ h with h | ⟨hp, ⟨ms, k, h⟩ | h⟩
      · exact orc0_ok.pure f g h
      · cases h
      · cases h
        exact ⟨hp, fun args r hr => con_of (tab_ok n) mixed (plain_fn hp) (body_some hp (plain_fn hp)) hr⟩
    · rcases key f _ h with h | ⟨hp, ⟨ms, k, h⟩ | h⟩
      · exact orc0_ok.lin f ms g h
      · cases h
        exact ⟨hp, fun bin args r outs hr => conL_of (tab_ok n) mixed (plain_fn hp) (body_some hp (plain_fn hp)) hr⟩
      · cases h
noncomputable def run (n : Nat) (f : FuncId) (args : List AV) : Option AV := fnP Tryz.prog (tab n) (livesOf f) big (fnOf f) args
noncomputable def runL (n : Nat) (f : FuncId) (args : List AV) (bin : List AB) : Option (AV × List (Nat × AB)) := fnL Tryz.prog (tab n) (livesOf f) big (fnOf f) (keepOf f) args bin
theorem tab_pure {n : Nat} {f : FuncId} (h0 : orc0 f = none) (hp : plainF Tryz.prog f = true) (hm : modesT.lookup f = none) : tab (n + 1) f = some (.pure (run n f)) := by
  unfold tab
  rw [h0]
  simp only [hp, hm]
  rfl
theorem tab_lin {n : Nat} {f : FuncId} {ms : List Bool} {k : Bool} (h0 : orc0 f = none) (hp : plainF Tryz.prog f = true) (hm : modesT.lookup f = some (ms, k)) : tab (n + 1) f = some (.lin ms (runL n f)) := by
  unfold tab
  rw [h0]
  simp only [hp, hm]
  rfl
theorem tab_num {f : FuncId} {x : Orc} (h : orc0 f = some x) : ∀ n, tab n f = some x
  | 0 => h
  | n + 1 => by unfold tab; rw [h]
@[simp] theorem fn_9 : fnOf 9 = Tryz.f9 := by kernel_rfl
@[simp] theorem tb_9 (n : Nat) : tab (n + 1) 9 = some (.pure (run n 9)) := tab_pure (by kernel_rfl) (by kernel_rfl) (by kernel_rfl)
@[simp] theorem fn_11 : fnOf 11 = Tryz.f11 := by kernel_rfl
@[simp] theorem lv_11_8 : livesOf 11 8 = [0, 5, 6, 7, 8, 9] := by kernel_rfl
@[simp] theorem lv_11_1000008 : livesOf 11 1000008 = [0, 5, 6, 7, 8] := by kernel_rfl
@[simp] theorem tb_11 (n : Nat) : tab (n + 1) 11 = some (.pure (run n 11)) := tab_pure (by kernel_rfl) (by kernel_rfl) (by kernel_rfl)
@[simp] theorem fn_17 : fnOf 17 = Tryz.f17 := by kernel_rfl
@[simp] theorem lv_17_2 : livesOf 17 2 = [1, 2, 5] := by kernel_rfl
@[simp] theorem lv_17_1000002 : livesOf 17 1000002 = [2, 4] := by kernel_rfl
@[simp] theorem tb_17 (n : Nat) : tab (n + 1) 17 = some (.pure (run n 17)) := tab_pure (by kernel_rfl) (by kernel_rfl) (by kernel_rfl)
@[simp] theorem fn_18 : fnOf 18 = Tryz.f18 := by kernel_rfl
@[simp] theorem lv_18_4 : livesOf 18 4 = [1, 3, 4, 11, 12, 13] := by kernel_rfl
@[simp] theorem lv_18_1000004 : livesOf 18 1000004 = [1, 3, 4] := by kernel_rfl
@[simp] theorem tb_18 (n : Nat) : tab (n + 1) 18 = some (.pure (run n 18)) := tab_pure (by kernel_rfl) (by kernel_rfl) (by kernel_rfl)
@[simp] theorem fn_19 : fnOf 19 = Tryz.f19 := by kernel_rfl
@[simp] theorem lv_19_7 : livesOf 19 7 = [0, 2, 5, 6, 7, ph 6 0 0 0, ph 6 2 0 0, ph 6 3 0 0] := by kernel_rfl
@[simp] theorem lv_19_1000007 : livesOf 19 1000007 = [2, 3, 4] := by kernel_rfl
@[simp] theorem tb_19 (n : Nat) : tab (n + 1) 19 = some (.pure (run n 19)) := tab_pure (by kernel_rfl) (by kernel_rfl) (by kernel_rfl)
@[simp] theorem fn_20 : fnOf 20 = Tryz.f20 := by kernel_rfl
@[simp] theorem lv_20_3 : livesOf 20 3 = [1, 3, 4] := by kernel_rfl
@[simp] theorem lv_20_1000003 : livesOf 20 1000003 = [1, 3] := by kernel_rfl
@[simp] theorem tb_20 (n : Nat) : tab (n + 1) 20 = some (.pure (run n 20)) := tab_pure (by kernel_rfl) (by kernel_rfl) (by kernel_rfl)
@[simp] theorem fn_34 : fnOf 34 = Tryz.f34 := by kernel_rfl
@[simp] theorem lv_34_2 : livesOf 34 2 = [1, 2, 8, 9, 10] := by kernel_rfl
@[simp] theorem lv_34_1000002 : livesOf 34 1000002 = [2, 4] := by kernel_rfl
@[simp] theorem tb_34 (n : Nat) : tab (n + 1) 34 = some (.pure (run n 34)) := tab_pure (by kernel_rfl) (by kernel_rfl) (by kernel_rfl)
@[simp] theorem fn_35 : fnOf 35 = Tryz.f35 := by kernel_rfl
@[simp] theorem tb_35 (n : Nat) : tab (n + 1) 35 = some (.pure (run n 35)) := tab_pure (by kernel_rfl) (by kernel_rfl) (by kernel_rfl)
@[simp] theorem fn_36 : fnOf 36 = Tryz.f36 := by kernel_rfl
@[simp] theorem lv_36_4 : livesOf 36 4 = [1, 3] := by kernel_rfl
@[simp] theorem lv_36_9 : livesOf 36 9 = [1, 3, 4] := by kernel_rfl
@[simp] theorem lv_36_1000004 : livesOf 36 1000004 = [2] := by kernel_rfl
@[simp] theorem lv_36_1000009 : livesOf 36 1000009 = [1, 2, 3] := by kernel_rfl
@[simp] theorem tb_36 (n : Nat) : tab (n + 1) 36 = some (.pure (run n 36)) := tab_pure (by kernel_rfl) (by kernel_rfl) (by kernel_rfl)
@[simp] theorem fn_37 : fnOf 37 = Tryz.f37 := by kernel_rfl
@[simp] theorem lv_37_6 : livesOf 37 6 = [1, 2, 6, 7, 19, 20, 21] := by kernel_rfl
@[simp] theorem lv_37_12 : livesOf 37 12 = [2, 6, 7, 35, 36] := by kernel_rfl
@[simp] theorem lv_37_1000006 : livesOf 37 1000006 = [1, 2, 6, 7] := by kernel_rfl
@[simp] theorem lv_37_1000012 : livesOf 37 1000012 = [7] := by kernel_rfl
@[simp] theorem tb_37 (n : Nat) : tab (n + 1) 37 = some (.pure (run n 37)) := tab_pure (by kernel_rfl) (by kernel_rfl) (by kernel_rfl)
@[simp] theorem fn_38 : fnOf 38 = Tryz.f38 := by kernel_rfl
@[simp] theorem tb_38 (n : Nat) : tab (n + 1) 38 = some (.pure (run n 38)) := tab_pure (by kernel_rfl) (by kernel_rfl) (by kernel_rfl)
@[simp] theorem fn_39 : fnOf 39 = Tryz.f39 := by kernel_rfl
@[simp] theorem lv_39_7 : livesOf 39 7 = [2, 6, 7, 8] := by kernel_rfl
@[simp] theorem lv_39_12 : livesOf 39 12 = [1, 2, 6, 7, 9] := by kernel_rfl
@[simp] theorem lv_39_1000007 : livesOf 39 1000007 = [6] := by kernel_rfl
@[simp] theorem lv_39_1000012 : livesOf 39 1000012 = [6] := by kernel_rfl
@[simp] theorem tb_39 (n : Nat) : tab (n + 1) 39 = some (.pure (run n 39)) := tab_pure (by kernel_rfl) (by kernel_rfl) (by kernel_rfl)
@[simp] theorem fn_40 : fnOf 40 = Tryz.f40 := by kernel_rfl
@[simp] theorem tb_40 (n : Nat) : tab (n + 1) 40 = some (.pure (run n 40)) := tab_pure (by kernel_rfl) (by kernel_rfl) (by kernel_rfl)
@[simp] theorem fn_41 : fnOf 41 = Tryz.f41 := by kernel_rfl
@[simp] theorem tb_41 (n : Nat) : tab (n + 1) 41 = some (.pure (run n 41)) := tab_pure (by kernel_rfl) (by kernel_rfl) (by kernel_rfl)
@[simp] theorem fn_43 : fnOf 43 = Tryz.f43 := by kernel_rfl
@[simp] theorem lv_43_2 : livesOf 43 2 = [0, 3] := by kernel_rfl
@[simp] theorem lv_43_1000002 : livesOf 43 1000002 = [0, 2] := by kernel_rfl
@[simp] theorem tb_43 (n : Nat) : tab (n + 1) 43 = some (.pure (run n 43)) := tab_pure (by kernel_rfl) (by kernel_rfl) (by kernel_rfl)
@[simp] theorem fn_44 : fnOf 44 = Tryz.f44 := by kernel_rfl
@[simp] theorem lv_44_5 : livesOf 44 5 = [1, 23, 24, 25] := by kernel_rfl
@[simp] theorem lv_44_1000005 : livesOf 44 1000005 = [4, 5, 6] := by kernel_rfl
@[simp] theorem tb_44 (n : Nat) : tab (n + 1) 44 = some (.pure (run n 44)) := tab_pure (by kernel_rfl) (by kernel_rfl) (by kernel_rfl)
@[simp] theorem fn_45 : fnOf 45 = Tryz.f45 := by kernel_rfl
@[simp] theorem lv_45_5 : livesOf 45 5 = [1, 7, 9] := by kernel_rfl
@[simp] theorem lv_45_1000005 : livesOf 45 1000005 = [4, 5, 6] := by kernel_rfl
@[simp] theorem tb_45 (n : Nat) : tab (n + 1) 45 = some (.pure (run n 45)) := tab_pure (by kernel_rfl) (by kernel_rfl) (by kernel_rfl)
@[simp] theorem fn_52 : fnOf 52 = Tryz.f52 := by kernel_rfl
@[simp] theorem lv_52_7 : livesOf 52 7 = [1, 4, 18, 19, 20] := by kernel_rfl
@[simp] theorem lv_52_1000007 : livesOf 52 1000007 = [1, 4] := by kernel_rfl
@[simp] theorem tb_52 (n : Nat) : tab (n + 1) 52 = some (.pure (run n 52)) := tab_pure (by kernel_rfl) (by kernel_rfl) (by kernel_rfl)
@[simp] theorem fn_54 : fnOf 54 = Tryz.f54 := by kernel_rfl
@[simp] theorem tb_54 (n : Nat) : tab (n + 1) 54 = some (.pure (run n 54)) := tab_pure (by kernel_rfl) (by kernel_rfl) (by kernel_rfl)
@[simp] theorem fn_58 : fnOf 58 = Tryz.f58 := by kernel_rfl
@[simp] theorem tb_58 (n : Nat) : tab (n + 1) 58 = some (.pure (run n 58)) := tab_pure (by kernel_rfl) (by kernel_rfl) (by kernel_rfl)
@[simp] theorem fn_59 : fnOf 59 = Tryz.f59 := by kernel_rfl
@[simp] theorem lv_59_3 : livesOf 59 3 = [1, 2, 4, 6, 7] := by kernel_rfl
@[simp] theorem lv_59_1000003 : livesOf 59 1000003 = [4, 5, 6] := by kernel_rfl
@[simp] theorem tb_59 (n : Nat) : tab (n + 1) 59 = some (.pure (run n 59)) := tab_pure (by kernel_rfl) (by kernel_rfl) (by kernel_rfl)
@[simp] theorem fn_63 : fnOf 63 = Tryz.f63 := by kernel_rfl
@[simp] theorem tb_63 (n : Nat) : tab (n + 1) 63 = some (.lin [false, false, true] (runL n 63)) := tab_lin (k := false) (by kernel_rfl) (by kernel_rfl) (by kernel_rfl)
@[simp] theorem kp_63 : keepOf 63 = false := by kernel_rfl
@[simp] theorem fn_64 : fnOf 64 = Tryz.f64 := by kernel_rfl
@[simp] theorem tb_64 (n : Nat) : tab (n + 1) 64 = some (.lin [true] (runL n 64)) := tab_lin (k := false) (by kernel_rfl) (by kernel_rfl) (by kernel_rfl)
@[simp] theorem kp_64 : keepOf 64 = false := by kernel_rfl
@[simp] theorem fn_65 : fnOf 65 = Tryz.f65 := by kernel_rfl
@[simp] theorem tb_65 (n : Nat) : tab (n + 1) 65 = some (.lin [true, false] (runL n 65)) := tab_lin (k := false) (by kernel_rfl) (by kernel_rfl) (by kernel_rfl)
@[simp] theorem kp_65 : keepOf 65 = false := by kernel_rfl
@[simp] theorem fn_66 : fnOf 66 = Tryz.f66 := by kernel_rfl
@[simp] theorem tb_66 (n : Nat) : tab (n + 1) 66 = some (.pure (oItoa)) := tab_num rfl _
@[simp] theorem fn_67 : fnOf 67 = Tryz.f67 := by kernel_rfl
@[simp] theorem tb_67 (n : Nat) : tab (n + 1) 67 = some (.pure (run n 67)) := tab_pure (by kernel_rfl) (by kernel_rfl) (by kernel_rfl)
@[simp] theorem fn_68 : fnOf 68 = Tryz.f68 := by kernel_rfl
@[simp] theorem tb_68 (n : Nat) : tab (n + 1) 68 = some (.lin [true] (runL n 68)) := tab_lin (k := false) (by kernel_rfl) (by kernel_rfl) (by kernel_rfl)
@[simp] theorem kp_68 : keepOf 68 = false := by kernel_rfl
@[simp] theorem fn_69 : fnOf 69 = Tryz.f69 := by kernel_rfl
@[simp] theorem lv_69_0 : livesOf 69 0 = [0] := by kernel_rfl
@[simp] theorem lv_69_1000000 : livesOf 69 1000000 = [] := by kernel_rfl
@[simp] theorem tb_69 (n : Nat) : tab (n + 1) 69 = some (.lin [true] (runL n 69)) := tab_lin (k := false) (by kernel_rfl) (by kernel_rfl) (by kernel_rfl)
@[simp] theorem kp_69 : keepOf 69 = false := by kernel_rfl
@[simp] theorem fn_70 : fnOf 70 = Tryz.f70 := by kernel_rfl
@[simp] theorem tb_70 (n : Nat) : tab (n + 1) 70 = some (.lin [true, false] (runL n 70)) := tab_lin (k := false) (by kernel_rfl) (by kernel_rfl) (by kernel_rfl)
@[simp] theorem kp_70 : keepOf 70 = false := by kernel_rfl
@[simp] theorem fn_71 : fnOf 71 = Tryz.f71 := by kernel_rfl
@[simp] theorem tb_71 (n : Nat) : tab (n + 1) 71 = some (.lin [true, false, false] (runL n 71)) := tab_lin (k := false) (by kernel_rfl) (by kernel_rfl) (by kernel_rfl)
@[simp] theorem kp_71 : keepOf 71 = false := by kernel_rfl
@[simp] theorem fn_72 : fnOf 72 = Tryz.f72 := by kernel_rfl
@[simp] theorem tb_72 (n : Nat) : tab (n + 1) 72 = some (.pure (run n 72)) := tab_pure (by kernel_rfl) (by kernel_rfl) (by kernel_rfl)
@[simp] theorem fn_73 : fnOf 73 = Tryz.f73 := by kernel_rfl
@[simp] theorem tb_73 (n : Nat) : tab (n + 1) 73 = some (.pure (run n 73)) := tab_pure (by kernel_rfl) (by kernel_rfl) (by kernel_rfl)
@[simp] theorem fn_74 : fnOf 74 = Tryz.f74 := by kernel_rfl
@[simp] theorem lv_74_3 : livesOf 74 3 = [0, 3] := by kernel_rfl
@[simp] theorem lv_74_1000003 : livesOf 74 1000003 = [3] := by kernel_rfl
@[simp] theorem tb_74 (n : Nat) : tab (n + 1) 74 = some (.pure (run n 74)) := tab_pure (by kernel_rfl) (by kernel_rfl) (by kernel_rfl)
@[simp] theorem fn_75 : fnOf 75 = Tryz.f75 := by kernel_rfl
@[simp] theorem tb_75 (n : Nat) : tab (n + 1) 75 = some (.pure (oU fun k => natA (lmb k))) := tab_num rfl _
@[simp] theorem fn_88 : fnOf 88 = Tryz.f88 := by kernel_rfl
@[simp] theorem tb_88 (n : Nat) : tab (n + 1) 88 = some (.pure (oSplit)) := tab_num rfl _
@[simp] theorem fn_89 : fnOf 89 = Tryz.f89 := by kernel_rfl
@[simp] theorem tb_89 (n : Nat) : tab (n + 1) 89 = some (.pure (oAtoi)) := tab_num rfl _
@[simp] theorem fn_97 : fnOf 97 = Tryz.f97 := by kernel_rfl
@[simp] theorem tb_97 (n : Nat) : tab (n + 1) 97 = some (.lin [true, false, false] (runL n 97)) := tab_lin (k := true) (by kernel_rfl) (by kernel_rfl) (by kernel_rfl)
@[simp] theorem kp_97 : keepOf 97 = true := by kernel_rfl
@[simp] theorem fn_98 : fnOf 98 = Tryz.f98 := by kernel_rfl
@[simp] theorem lv_98_4 : livesOf 98 4 = [1, 3, 5, 6, 7, 8, 9] := by kernel_rfl
@[simp] theorem lv_98_1000004 : livesOf 98 1000004 = [1, 3, 5, 6, 7, 8] := by kernel_rfl
@[simp] theorem tb_98 (n : Nat) : tab (n + 1) 98 = some (.pure (run n 98)) := tab_pure (by kernel_rfl) (by kernel_rfl) (by kernel_rfl)
@[simp] theorem fn_101 : fnOf 101 = Tryz.f101 := by kernel_rfl
@[simp] theorem tb_101 (n : Nat) : tab (n + 1) 101 = some (.pure (run n 101)) := tab_pure (by kernel_rfl) (by kernel_rfl) (by kernel_rfl)
@[simp] theorem fn_102 : fnOf 102 = Tryz.f102 := by kernel_rfl
@[simp] theorem tb_102 (n : Nat) : tab (n + 1) 102 = some (.pure (run n 102)) := tab_pure (by kernel_rfl) (by kernel_rfl) (by kernel_rfl)
@[simp] theorem fn_103 : fnOf 103 = Tryz.f103 := by kernel_rfl
@[simp] theorem tb_103 (n : Nat) : tab (n + 1) 103 = some (.pure (run n 103)) := tab_pure (by kernel_rfl) (by kernel_rfl) (by kernel_rfl)
@[simp] theorem fn_104 : fnOf 104 = Tryz.f104 := by kernel_rfl
@[simp] theorem tb_104 (n : Nat) : tab (n + 1) 104 = some (.pure (run n 104)) := tab_pure (by kernel_rfl) (by kernel_rfl) (by kernel_rfl)
@[simp] theorem fn_105 : fnOf 105 = Tryz.f105 := by kernel_rfl
@[simp] theorem tb_105 (n : Nat) : tab (n + 1) 105 = some (.pure (run n 105)) := tab_pure (by kernel_rfl) (by kernel_rfl) (by kernel_rfl)
@[simp] theorem fn_106 : fnOf 106 = Tryz.f106 := by kernel_rfl
@[simp] theorem tb_106 (n : Nat) : tab (n + 1) 106 = some (.pure (run n 106)) := tab_pure (by kernel_rfl) (by kernel_rfl) (by kernel_rfl)
@[simp] theorem fn_107 : fnOf 107 = Tryz.f107 := by kernel_rfl
@[simp] theorem tb_107 (n : Nat) : tab (n + 1) 107 = some (.pure (run n 107)) := tab_pure (by kernel_rfl) (by kernel_rfl) (by kernel_rfl)
@[simp] theorem fn_108 : fnOf 108 = Tryz.f108 := by kernel_rfl
@[simp] theorem lv_108_2 : livesOf 108 2 = [0, 1, 5] := by kernel_rfl
@[simp] theorem lv_108_1000002 : livesOf 108 1000002 = [4] := by kernel_rfl
@[simp] theorem tb_108 (n : Nat) : tab (n + 1) 108 = some (.pure (run n 108)) := tab_pure (by kernel_rfl) (by kernel_rfl) (by kernel_rfl)
@[simp] theorem fn_109 : fnOf 109 = Tryz.f109 := by kernel_rfl
@[simp] theorem lv_109_3 : livesOf 109 3 = [1, 4, 6, 12, 13, 14] := by kernel_rfl
@[simp] theorem lv_109_1000003 : livesOf 109 1000003 = [4, 5, 6] := by kernel_rfl
@[simp] theorem tb_109 (n : Nat) : tab (n + 1) 109 = some (.pure (run n 109)) := tab_pure (by kernel_rfl) (by kernel_rfl) (by kernel_rfl)
@[simp] theorem fn_118 : fnOf 118 = Tryz.f118 := by kernel_rfl
@[simp] theorem tb_118 (n : Nat) : tab (n + 1) 118 = some (.pure (oReplaceAll)) := tab_num rfl _
@[simp] theorem fn_119 : fnOf 119 = Tryz.f119 := by kernel_rfl
@[simp] theorem lv_119_12 : livesOf 119 12 = [0, 1, 5, 39, 40, 41] := by kernel_rfl
@[simp] theorem lv_119_22 : livesOf 119 22 = [1, 8, 63, 64, 65] := by kernel_rfl
@[simp] theorem lv_119_1000012 : livesOf 119 1000012 = [0, 1, 5] := by kernel_rfl
@[simp] theorem lv_119_1000022 : livesOf 119 1000022 = [8] := by kernel_rfl
@[simp] theorem tb_119 (n : Nat) : tab (n + 1) 119 = some (.pure (oJoin)) := tab_num rfl _
@[simp] theorem fn_121 : fnOf 121 = Tryz.f121 := by kernel_rfl
@[simp] theorem tb_121 (n : Nat) : tab (n + 1) 121 = some (.pure (oLastIndex)) := tab_num rfl _
@[simp] theorem fn_122 : fnOf 122 = Tryz.f122 := by kernel_rfl
@[simp] theorem tb_122 (n : Nat) : tab (n + 1) 122 = some (.pure (oHasPrefix)) := tab_num rfl _
@[simp] theorem fn_123 : fnOf 123 = Tryz.f123 := by kernel_rfl
@[simp] theorem tb_123 (n : Nat) : tab (n + 1) 123 = some (.pure (oTrimLeft)) := tab_num rfl _
@[simp] theorem fn_124 : fnOf 124 = Tryz.f124 := by kernel_rfl
@[simp] theorem tb_124 (n : Nat) : tab (n + 1) 124 = some (.pure (run n 124)) := tab_pure (by kernel_rfl) (by kernel_rfl) (by kernel_rfl)
@[simp] theorem fn_125 : fnOf 125 = Tryz.f125 := by kernel_rfl
@[simp] theorem lv_125_4 : livesOf 125 4 = [5, 6, 14, 15, 16] := by kernel_rfl
@[simp] theorem lv_125_1000004 : livesOf 125 1000004 = [2, 3, 4, 5] := by kernel_rfl
@[simp] theorem tb_125 (n : Nat) : tab (n + 1) 125 = some (.pure (run n 125)) := tab_pure (by kernel_rfl) (by kernel_rfl) (by kernel_rfl)
@[simp] theorem fn_126 : fnOf 126 = Tryz.f126 := by kernel_rfl
@[simp] theorem tb_126 (n : Nat) : tab (n + 1) 126 = some (.pure (run n 126)) := tab_pure (by kernel_rfl) (by kernel_rfl) (by kernel_rfl)
@[simp] theorem fn_127 : fnOf 127 = Tryz.f127 := by kernel_rfl
@[simp] theorem tb_127 (n : Nat) : tab (n + 1) 127 = some (.pure (oContains)) := tab_num rfl _
@[simp] theorem fn_133 : fnOf 133 = Tryz.f133 := by kernel_rfl
@[simp] theorem lv_133_3 : livesOf 133 3 = [5, 6, 7, 8, 9, ph 7 0 82 4] := by kernel_rfl
@[simp] theorem lv_133_1000003 : livesOf 133 1000003 = [6, 7] := by kernel_rfl
@[simp] theorem tb_133 (n : Nat) : tab (n + 1) 133 = some (.pure (run n 133)) := tab_pure (by kernel_rfl) (by kernel_rfl) (by kernel_rfl)
@[simp] theorem fn_135 : fnOf 135 = Tryz.f135 := by kernel_rfl
@[simp] theorem tb_135 (n : Nat) : tab (n + 1) 135 = some (.lin [true] ccG) := tab_num rfl _
@[simp] theorem fn_136 : fnOf 136 = Tryz.f136 := by kernel_rfl
@[simp] theorem tb_136 (n : Nat) : tab (n + 1) 136 = some (.pure (run n 136)) := tab_pure (by kernel_rfl) (by kernel_rfl) (by kernel_rfl)
@[simp] theorem fn_137 : fnOf 137 = Tryz.f137 := by kernel_rfl
@[simp] theorem lv_137_5 : livesOf 137 5 = [0, 3, 4] := by kernel_rfl
@[simp] theorem lv_137_1000005 : livesOf 137 1000005 = [4] := by kernel_rfl
@[simp] theorem tb_137 (n : Nat) : tab (n + 1) 137 = some (.pure (run n 137)) := tab_pure (by kernel_rfl) (by kernel_rfl) (by kernel_rfl)
@[simp] theorem fn_138 : fnOf 138 = Tryz.f138 := by kernel_rfl
@[simp] theorem tb_138 (n : Nat) : tab (n + 1) 138 = some (.pure (oIB)) := tab_num rfl _
@[simp] theorem fn_139 : fnOf 139 = Tryz.f139 := by kernel_rfl
@[simp] theorem tb_139 (n : Nat) : tab (n + 1) 139 = some (.pure (oU fun k => natA (lmb k))) := tab_num rfl _
@[simp] theorem fn_140 : fnOf 140 = Tryz.f140 := by kernel_rfl
@[simp] theorem lv_140_7 : livesOf 140 7 = [0, 1, 8] := by kernel_rfl
@[simp] theorem lv_140_1000007 : livesOf 140 1000007 = [0, 8] := by kernel_rfl
@[simp] theorem tb_140 (n : Nat) : tab (n + 1) 140 = some (.lin [true, false, false] (runL n 140)) := tab_lin (k := false) (by kernel_rfl) (by kernel_rfl) (by kernel_rfl)
@[simp] theorem kp_140 : keepOf 140 = false := by kernel_rfl
@[simp] theorem fn_141 : fnOf 141 = Tryz.f141 := by kernel_rfl
@[simp] theorem lv_141_4 : livesOf 141 4 = [3, 4, 9, 10, 11] := by kernel_rfl
@[simp] theorem lv_141_1000004 : livesOf 141 1000004 = [3] := by kernel_rfl
@[simp] theorem tb_141 (n : Nat) : tab (n + 1) 141 = some (.pure (run n 141)) := tab_pure (by kernel_rfl) (by kernel_rfl) (by kernel_rfl)
@[simp] theorem fn_142 : fnOf 142 = Tryz.f142 := by kernel_rfl
@[simp] theorem tb_142 (n : Nat) : tab (n + 1) 142 = some (.pure (run n 142)) := tab_pure (by kernel_rfl) (by kernel_rfl) (by kernel_rfl)
@[simp] theorem fn_143 : fnOf 143 = Tryz.f143 := by kernel_rfl
@[simp] theorem tb_143 (n : Nat) : tab (n + 1) 143 = some (.lin [true] (runL n 143)) := tab_lin (k := false) (by kernel_rfl) (by kernel_rfl) (by kernel_rfl)
@[simp] theorem kp_143 : keepOf 143 = false := by kernel_rfl
@[simp] theorem fn_144 : fnOf 144 = Tryz.f144 := by kernel_rfl
@[simp] theorem lv_144_2 : livesOf 144 2 = [0, 3] := by kernel_rfl
@[simp] theorem lv_144_1000002 : livesOf 144 1000002 = [0, 3] := by kernel_rfl
@[simp] theorem tb_144 (n : Nat) : tab (n + 1) 144 = some (.pure (oN1 (fun _ => true) fun x => natA (lmb (val x)))) := tab_num rfl _
@[simp] theorem fn_145 : fnOf 145 = Tryz.f145 := by kernel_rfl
@[simp] theorem lv_145_9 : livesOf 145 9 = [0, 1, 11, 12, 13] := by kernel_rfl
@[simp] theorem lv_145_1000009 : livesOf 145 1000009 = [11, 12] := by kernel_rfl
@[simp] theorem tb_145 (n : Nat) : tab (n + 1) 145 = some (.pure (oND fun x y => .tup [natA (lmb (val x / val y)), natA (lmb (val x % val y)), .lit (.int .i64 0)])) := tab_num rfl _
@[simp] theorem fn_146 : fnOf 146 = Tryz.f146 := by kernel_rfl
@[simp] theorem tb_146 (n : Nat) : tab (n + 1) 146 = some (.pure (oN1 u64N fun x => .tup [.lit (.int .u64 (val x : Nat)), .lit (.bool true)])) := tab_num rfl _
@[simp] theorem fn_159 : fnOf 159 = Tryz.f159 := by kernel_rfl
@[simp] theorem lv_159_11 : livesOf 159 11 = [0, 1, 2, 3, 9, 10] := by kernel_rfl
@[simp] theorem lv_159_1000011 : livesOf 159 1000011 = [0, 9, 10] := by kernel_rfl
@[simp] theorem tb_159 (n : Nat) : tab (n + 1) 159 = some (.pure (run n 159)) := tab_pure (by kernel_rfl) (by kernel_rfl) (by kernel_rfl)
@[simp] theorem fn_160 : fnOf 160 = Tryz.f160 := by kernel_rfl
@[simp] theorem lv_160_10 : livesOf 160 10 = [5, 6, 47, 48, 49] := by kernel_rfl
@[simp] theorem lv_160_1000010 : livesOf 160 1000010 = [2, 3, 5, 6] := by kernel_rfl
@[simp] theorem tb_160 (n : Nat) : tab (n + 1) 160 = some (.pure (run n 160)) := tab_pure (by kernel_rfl) (by kernel_rfl) (by kernel_rfl)
@[simp] theorem fn_161 : fnOf 161 = Tryz.f161 := by kernel_rfl
@[simp] theorem tb_161 (n : Nat) : tab (n + 1) 161 = some (.pure (run n 161)) := tab_pure (by kernel_rfl) (by kernel_rfl) (by kernel_rfl)
@[simp] theorem fn_165 : fnOf 165 = Tryz.f165 := by kernel_rfl
@[simp] theorem lv_165_4 : livesOf 165 4 = [0, 1, 5, 6, 7] := by kernel_rfl
@[simp] theorem lv_165_1000004 : livesOf 165 1000004 = [5, 6] := by kernel_rfl
@[simp] theorem tb_165 (n : Nat) : tab (n + 1) 165 = some (.pure (oN2 fun x y => natA (lmb (val x + val y)))) := tab_num rfl _
@[simp] theorem fn_172 : fnOf 172 = Tryz.f172 := by kernel_rfl
@[simp] theorem lv_172_6 : livesOf 172 6 = [1, 5, 29, 30, 31] := by kernel_rfl
@[simp] theorem lv_172_10 : livesOf 172 10 = [1, 5, 6, 7, 8, 29, 30, 31, 36, 37, 38] := by kernel_rfl
@[simp] theorem lv_172_1000006 : livesOf 172 1000006 = [5] := by kernel_rfl
@[simp] theorem lv_172_1000010 : livesOf 172 1000010 = [1, 5, 6, 8, 29, 30, 31] := by kernel_rfl
@[simp] theorem tb_172 (n : Nat) : tab (n + 1) 172 = some (.pure (oN2 fun x y => natA (lmb (val x * val y)))) := tab_num rfl _
@[simp] theorem fn_173 : fnOf 173 = Tryz.f173 := by kernel_rfl
@[simp] theorem tb_173 (n : Nat) : tab (n + 1) 173 = some (.lin [true, false] (runL n 173)) := tab_lin (k := true) (by kernel_rfl) (by kernel_rfl) (by kernel_rfl)
@[simp] theorem kp_173 : keepOf 173 = true := by kernel_rfl
@[simp] theorem fn_177 : fnOf 177 = Tryz.f177 := by kernel_rfl
@[simp] theorem lv_177_7 : livesOf 177 7 = [0, 1, 5] := by kernel_rfl
@[simp] theorem lv_177_1000007 : livesOf 177 1000007 = [4] := by kernel_rfl
@[simp] theorem tb_177 (n : Nat) : tab (n + 1) 177 = some (.pure (run n 177)) := tab_pure (by kernel_rfl) (by kernel_rfl) (by kernel_rfl)
@[simp] theorem fn_179 : fnOf 179 = Tryz.f179 := by kernel_rfl
@[simp] theorem lv_179_3 : livesOf 179 3 = [3, 4, 5, 6] := by kernel_rfl
@[simp] theorem lv_179_1000003 : livesOf 179 1000003 = [4, 5] := by kernel_rfl
@[simp] theorem tb_179 (n : Nat) : tab (n + 1) 179 = some (.pure (run n 179)) := tab_pure (by kernel_rfl) (by kernel_rfl) (by kernel_rfl)
@[simp] theorem fn_180 : fnOf 180 = Tryz.f180 := by kernel_rfl
@[simp] theorem lv_180_3 : livesOf 180 3 = [2, 3, 4, 5, 6, ph 5 0 82 4] := by kernel_rfl
@[simp] theorem lv_180_1000003 : livesOf 180 1000003 = [4, 5] := by kernel_rfl
@[simp] theorem tb_180 (n : Nat) : tab (n + 1) 180 = some (.pure (run n 180)) := tab_pure (by kernel_rfl) (by kernel_rfl) (by kernel_rfl)
@[simp] theorem fn_181 : fnOf 181 = Tryz.f181 := by kernel_rfl
@[simp] theorem lv_181_2 : livesOf 181 2 = [0, 1, 7, 8] := by kernel_rfl
@[simp] theorem lv_181_1000002 : livesOf 181 1000002 = [4] := by kernel_rfl
@[simp] theorem tb_181 (n : Nat) : tab (n + 1) 181 = some (.pure (run n 181)) := tab_pure (by kernel_rfl) (by kernel_rfl) (by kernel_rfl)
@[simp] theorem fn_183 : fnOf 183 = Tryz.f183 := by kernel_rfl
@[simp] theorem tb_183 (n : Nat) : tab (n + 1) 183 = some (.pure (run n 183)) := tab_pure (by kernel_rfl) (by kernel_rfl) (by kernel_rfl)
@[simp] theorem fn_184 : fnOf 184 = Tryz.f184 := by kernel_rfl
@[simp] theorem lv_184_6 : livesOf 184 6 = [0, 1, 6, 7, 8] := by kernel_rfl
@[simp] theorem lv_184_1000006 : livesOf 184 1000006 = [6] := by kernel_rfl
@[simp] theorem tb_184 (n : Nat) : tab (n + 1) 184 = some (.pure (run n 184)) := tab_pure (by kernel_rfl) (by kernel_rfl) (by kernel_rfl)
@[simp] theorem fn_186 : fnOf 186 = Tryz.f186 := by kernel_rfl
@[simp] theorem lv_186_13 : livesOf 186 13 = [0, 1, 2, 10, 11, 52, 53] := by kernel_rfl
@[simp] theorem lv_186_21 : livesOf 186 21 = [0, 2, 10, 11, 77, 78] := by kernel_rfl
@[simp] theorem lv_186_1000013 : livesOf 186 1000013 = [0, 10, 11] := by kernel_rfl
@[simp] theorem lv_186_1000021 : livesOf 186 1000021 = [0, 10, 11] := by kernel_rfl
@[simp] theorem tb_186 (n : Nat) : tab (n + 1) 186 = some (.pure (run n 186)) := tab_pure (by kernel_rfl) (by kernel_rfl) (by kernel_rfl)
@[simp] theorem fn_187 : fnOf 187 = Tryz.f187 := by kernel_rfl
@[simp] theorem tb_187 (n : Nat) : tab (n + 1) 187 = some (.lin [true, false] (runL n 187)) := tab_lin (k := false) (by kernel_rfl) (by kernel_rfl) (by kernel_rfl)
@[simp] theorem kp_187 : keepOf 187 = false := by kernel_rfl
@[simp] theorem fn_188 : fnOf 188 = Tryz.f188 := by kernel_rfl
@[simp] theorem lv_188_2 : livesOf 188 2 = [0, 1, 5] := by kernel_rfl
@[simp] theorem lv_188_1000002 : livesOf 188 1000002 = [4] := by kernel_rfl
@[simp] theorem tb_188 (n : Nat) : tab (n + 1) 188 = some (.pure (run n 188)) := tab_pure (by kernel_rfl) (by kernel_rfl) (by kernel_rfl)
@[simp] theorem fn_189 : fnOf 189 = Tryz.f189 := by kernel_rfl
@[simp] theorem lv_189_6 : livesOf 189 6 = [0, 1, 5, 6, 7, 8, 9, 10] := by kernel_rfl
@[simp] theorem lv_189_12 : livesOf 189 12 = [0, 1, 5, 6, 7, 9, 11] := by kernel_rfl
@[simp] theorem lv_189_1000006 : livesOf 189 1000006 = [0, 1, 5, 6, 7, 8, 9] := by kernel_rfl
@[simp] theorem lv_189_1000012 : livesOf 189 1000012 = [4] := by kernel_rfl
@[simp] theorem tb_189 (n : Nat) : tab (n + 1) 189 = some (.pure (run n 189)) := tab_pure (by kernel_rfl) (by kernel_rfl) (by kernel_rfl)
@[simp] theorem fn_190 : fnOf 190 = Tryz.f190 := by kernel_rfl
@[simp] theorem tb_190 (n : Nat) : tab (n + 1) 190 = some (.pure (run n 190)) := tab_pure (by kernel_rfl) (by kernel_rfl) (by kernel_rfl)
@[simp] theorem fn_191 : fnOf 191 = Tryz.f191 := by kernel_rfl
@[simp] theorem lv_191_1 : livesOf 191 1 = [0, 1] := by kernel_rfl
@[simp] theorem lv_191_1000001 : livesOf 191 1000001 = [0] := by kernel_rfl
@[simp] theorem tb_191 (n : Nat) : tab (n + 1) 191 = some (.pure (run n 191)) := tab_pure (by kernel_rfl) (by kernel_rfl) (by kernel_rfl)
@[simp] theorem fn_192 : fnOf 192 = Tryz.f192 := by kernel_rfl
@[simp] theorem lv_192_2 : livesOf 192 2 = [0, 2, 4] := by kernel_rfl
@[simp] theorem lv_192_1000002 : livesOf 192 1000002 = [2, 3] := by kernel_rfl
@[simp] theorem tb_192 (n : Nat) : tab (n + 1) 192 = some (.pure (run n 192)) := tab_pure (by kernel_rfl) (by kernel_rfl) (by kernel_rfl)
@[simp] theorem fn_193 : fnOf 193 = Tryz.f193 := by kernel_rfl
@[simp] theorem lv_193_1 : livesOf 193 1 = [0, 1] := by kernel_rfl
@[simp] theorem lv_193_1000001 : livesOf 193 1000001 = [0] := by kernel_rfl
@[simp] theorem tb_193 (n : Nat) : tab (n + 1) 193 = some (.lin [false, true] (runL n 193)) := tab_lin (k := false) (by kernel_rfl) (by kernel_rfl) (by kernel_rfl)
@[simp] theorem kp_193 : keepOf 193 = false := by kernel_rfl
@[simp] theorem fn_194 : fnOf 194 = Tryz.f194 := by kernel_rfl
@[simp] theorem lv_194_1 : livesOf 194 1 = [0, 1] := by kernel_rfl
@[simp] theorem lv_194_1000001 : livesOf 194 1000001 = [0] := by kernel_rfl
@[simp] theorem tb_194 (n : Nat) : tab (n + 1) 194 = some (.pure (run n 194)) := tab_pure (by kernel_rfl) (by kernel_rfl) (by kernel_rfl)
@[simp] theorem fn_195 : fnOf 195 = Tryz.f195 := by kernel_rfl
@[simp] theorem tb_195 (n : Nat) : tab (n + 1) 195 = some (.pure (oTrimPrefix)) := tab_num rfl _
@[simp] theorem fn_196 : fnOf 196 = Tryz.f196 := by kernel_rfl
@[simp] theorem tb_196 (n : Nat) : tab (n + 1) 196 = some (.pure (oTrim)) := tab_num rfl _
@[simp] theorem fn_197 : fnOf 197 = Tryz.f197 := by kernel_rfl
@[simp] theorem tb_197 (n : Nat) : tab (n + 1) 197 = some (.pure (run n 197)) := tab_pure (by kernel_rfl) (by kernel_rfl) (by kernel_rfl)
@[simp] theorem fn_198 : fnOf 198 = Tryz.f198 := by kernel_rfl
@[simp] theorem tb_198 (n : Nat) : tab (n + 1) 198 = some (.pure (oIndex)) := tab_num rfl _
@[simp] theorem fn_201 : fnOf 201 = Tryz.f201 := by kernel_rfl
@[simp] theorem tb_201 (n : Nat) : tab (n + 1) 201 = some (.pure (run n 201)) := tab_pure (by kernel_rfl) (by kernel_rfl) (by kernel_rfl)
@[simp] theorem fn_202 : fnOf 202 = Tryz.f202 := by kernel_rfl
@[simp] theorem lv_202_13 : livesOf 202 13 = [9, 10, 11, 12, 13] := by kernel_rfl
@[simp] theorem lv_202_1000013 : livesOf 202 1000013 = [9, 10, 12] := by kernel_rfl
@[simp] theorem tb_202 (n : Nat) : tab (n + 1) 202 = some (.pure (oND fun x y => .tup [natA (lmb (val x / val y)), natA (lmb (val x % val y)), .lit (.int .i64 0)])) := tab_num rfl _
@[simp] theorem fn_203 : fnOf 203 = Tryz.f203 := by kernel_rfl
@[simp] theorem lv_203_6 : livesOf 203 6 = [4, 12, 13, 14] := by kernel_rfl
@[simp] theorem lv_203_1000006 : livesOf 203 1000006 = [4] := by kernel_rfl
@[simp] theorem tb_203 (n : Nat) : tab (n + 1) 203 = some (.pure (oN1 u64N fun x => .tup [.lit (.int .u64 (val x : Nat)), .lit (.bool true)])) := tab_num rfl _
@[simp] theorem fn_204 : fnOf 204 = Tryz.f204 := by kernel_rfl
@[simp] theorem tb_204 (n : Nat) : tab (n + 1) 204 = some (.pure (oFU)) := tab_num rfl _
@[simp] theorem fn_205 : fnOf 205 = Tryz.f205 := by kernel_rfl
@[simp] theorem lv_205_38 : livesOf 205 38 = [7, 8, 9] := by kernel_rfl
@[simp] theorem lv_205_1000038 : livesOf 205 1000038 = [9] := by kernel_rfl
@[simp] theorem tb_205 (n : Nat) : tab (n + 1) 205 = some (.pure (oRepeat)) := tab_num rfl _
@[simp] theorem fn_206 : fnOf 206 = Tryz.f206 := by kernel_rfl
@[simp] theorem lv_206_1 : livesOf 206 1 = [0, 2, 3] := by kernel_rfl
@[simp] theorem lv_206_1000001 : livesOf 206 1000001 = [] := by kernel_rfl
@[simp] theorem tb_206 (n : Nat) : tab (n + 1) 206 = some (.lin [true] (runL n 206)) := tab_lin (k := false) (by kernel_rfl) (by kernel_rfl) (by kernel_rfl)
@[simp] theorem kp_206 : keepOf 206 = false := by kernel_rfl
@[simp] theorem fn_207 : fnOf 207 = Tryz.f207 := by kernel_rfl
@[simp] theorem tb_207 (n : Nat) : tab (n + 1) 207 = some (.pure (run n 207)) := tab_pure (by kernel_rfl) (by kernel_rfl) (by kernel_rfl)
@[simp] theorem fn_208 : fnOf 208 = Tryz.f208 := by kernel_rfl
@[simp] theorem lv_208_2 : livesOf 208 2 = [0, 3] := by kernel_rfl
@[simp] theorem lv_208_1000002 : livesOf 208 1000002 = [0, 3] := by kernel_rfl
@[simp] theorem tb_208 (n : Nat) : tab (n + 1) 208 = some (.pure (run n 208)) := tab_pure (by kernel_rfl) (by kernel_rfl) (by kernel_rfl)
@[simp] theorem fn_209 : fnOf 209 = Tryz.f209 := by kernel_rfl
@[simp] theorem lv_209_7 : livesOf 209 7 = [0, 1, 5, 6, 24, 25, 26] := by kernel_rfl
@[simp] theorem lv_209_1000007 : livesOf 209 1000007 = [0, 5, 6] := by kernel_rfl
@[simp] theorem tb_209 (n : Nat) : tab (n + 1) 209 = some (.pure (oN2 fun x y => natA (lmb (val x + val y)))) := tab_num rfl _
@[simp] theorem fn_210 : fnOf 210 = Tryz.f210 := by kernel_rfl
@[simp] theorem lv_210_6 : livesOf 210 6 = [3, 4] := by kernel_rfl
@[simp] theorem lv_210_1000006 : livesOf 210 1000006 = [3] := by kernel_rfl
@[simp] theorem tb_210 (n : Nat) : tab (n + 1) 210 = some (.pure (run n 210)) := tab_pure (by kernel_rfl) (by kernel_rfl) (by kernel_rfl)
@[simp] theorem fn_211 : fnOf 211 = Tryz.f211 := by kernel_rfl
@[simp] theorem lv_211_4 : livesOf 211 4 = [0, 1, 5, 6, 7] := by kernel_rfl
@[simp] theorem lv_211_1000004 : livesOf 211 1000004 = [5, 6] := by kernel_rfl
@[simp] theorem tb_211 (n : Nat) : tab (n + 1) 211 = some (.pure (run n 211)) := tab_pure (by kernel_rfl) (by kernel_rfl) (by kernel_rfl)
@[simp] theorem fn_212 : fnOf 212 = Tryz.f212 := by kernel_rfl
@[simp] theorem lv_212_2 : livesOf 212 2 = [0, 1, 5] := by kernel_rfl
@[simp] theorem lv_212_1000002 : livesOf 212 1000002 = [4] := by kernel_rfl
@[simp] theorem tb_212 (n : Nat) : tab (n + 1) 212 = some (.pure (run n 212)) := tab_pure (by kernel_rfl) (by kernel_rfl) (by kernel_rfl)
@[simp] theorem fn_216 : fnOf 216 = Tryz.f216 := by kernel_rfl
@[simp] theorem lv_216_6 : livesOf 216 6 = [0, 1, 6, 7] := by kernel_rfl
@[simp] theorem lv_216_1000006 : livesOf 216 1000006 = [0, 1, 6] := by kernel_rfl
@[simp] theorem tb_216 (n : Nat) : tab (n + 1) 216 = some (.pure (run n 216)) := tab_pure (by kernel_rfl) (by kernel_rfl) (by kernel_rfl)
@[simp] theorem fn_217 : fnOf 217 = Tryz.f217 := by kernel_rfl
@[simp] theorem lv_217_6 : livesOf 217 6 = [0, 1, 5] := by kernel_rfl
@[simp] theorem lv_217_1000006 : livesOf 217 1000006 = [4] := by kernel_rfl
@[simp] theorem tb_217 (n : Nat) : tab (n + 1) 217 = some (.pure (run n 217)) := tab_pure (by kernel_rfl) (by kernel_rfl) (by kernel_rfl)
@[simp] theorem fn_218 : fnOf 218 = Tryz.f218 := by kernel_rfl
@[simp] theorem tb_218 (n : Nat) : tab (n + 1) 218 = some (.pure (run n 218)) := tab_pure (by kernel_rfl) (by kernel_rfl) (by kernel_rfl)
@[simp] theorem fn_219 : fnOf 219 = Tryz.f219 := by kernel_rfl
@[simp] theorem tb_219 (n : Nat) : tab (n + 1) 219 = some (.lin [] (runL n 219)) := tab_lin (k := true) (by kernel_rfl) (by kernel_rfl) (by kernel_rfl)
@[simp] theorem kp_219 : keepOf 219 = true := by kernel_rfl
@[simp] theorem fn_220 : fnOf 220 = Tryz.f220 := by kernel_rfl
@[simp] theorem tb_220 (n : Nat) : tab (n + 1) 220 = some (.lin [] (runL n 220)) := tab_lin (k := true) (by kernel_rfl) (by kernel_rfl) (by kernel_rfl)
@[simp] theorem kp_220 : keepOf 220 = true := by kernel_rfl
@[simp] theorem fn_221 : fnOf 221 = Tryz.f221 := by kernel_rfl
@[simp] theorem tb_221 (n : Nat) : tab (n + 1) 221 = some (.lin [] (runL n 221)) := tab_lin (k := true) (by kernel_rfl) (by kernel_rfl) (by kernel_rfl)
@[simp] theorem kp_221 : keepOf 221 = true := by kernel_rfl
@[simp] theorem fn_222 : fnOf 222 = Tryz.f222 := by kernel_rfl
@[simp] theorem tb_222 (n : Nat) : tab (n + 1) 222 = some (.lin [] (runL n 222)) := tab_lin (k := true) (by kernel_rfl) (by kernel_rfl) (by kernel_rfl)
@[simp] theorem kp_222 : keepOf 222 = true := by kernel_rfl
@[simp] theorem fn_230 : fnOf 230 = Tryz.f230 := by kernel_rfl
@[simp] theorem tb_230 (n : Nat) : tab (n + 1) 230 = some (.pure (oN1 (fun _ => true) fun x => natA (lmb (val x)))) := tab_num rfl _
@[simp] theorem fn_238 : fnOf 238 = Tryz.f238 := by kernel_rfl
@[simp] theorem tb_238 (n : Nat) : tab (n + 1) 238 = some (.pure (run n 238)) := tab_pure (by kernel_rfl) (by kernel_rfl) (by kernel_rfl)
@[simp] theorem fn_239 : fnOf 239 = Tryz.f239 := by kernel_rfl
@[simp] theorem tb_239 (n : Nat) : tab (n + 1) 239 = some (.lin [true, false] (runL n 239)) := tab_lin (k := false) (by kernel_rfl) (by kernel_rfl) (by kernel_rfl)
@[simp] theorem kp_239 : keepOf 239 = false := by kernel_rfl
@[simp] theorem fn_240 : fnOf 240 = Tryz.f240 := by kernel_rfl
@[simp] theorem lv_240_3 : livesOf 240 3 = [0, 4, 5] := by kernel_rfl
@[simp] theorem lv_240_8 : livesOf 240 8 = [4, 6, 7, 8] := by kernel_rfl
@[simp] theorem lv_240_1000003 : livesOf 240 1000003 = [0, 4] := by kernel_rfl
@[simp] theorem lv_240_1000008 : livesOf 240 1000008 = [4, 6] := by kernel_rfl
@[simp] theorem tb_240 (n : Nat) : tab (n + 1) 240 = some (.pure (run n 240)) := tab_pure (by kernel_rfl) (by kernel_rfl) (by kernel_rfl)
@[simp] theorem fn_241 : fnOf 241 = Tryz.f241 := by kernel_rfl
@[simp] theorem tb_241 (n : Nat) : tab (n + 1) 241 = some (.lin [true, false] (runL n 241)) := tab_lin (k := false) (by kernel_rfl) (by kernel_rfl) (by kernel_rfl)
@[simp] theorem kp_241 : keepOf 241 = false := by kernel_rfl
@[simp] theorem fn_242 : fnOf 242 = Tryz.f242 := by kernel_rfl
@[simp] theorem tb_242 (n : Nat) : tab (n + 1) 242 = some (.pure (run n 242)) := tab_pure (by kernel_rfl) (by kernel_rfl) (by kernel_rfl)
@[simp] theorem fn_243 : fnOf 243 = Tryz.f243 := by kernel_rfl
@[simp] theorem tb_243 (n : Nat) : tab (n + 1) 243 = some (.pure (run n 243)) := tab_pure (by kernel_rfl) (by kernel_rfl) (by kernel_rfl)
@[simp] theorem fn_244 : fnOf 244 = Tryz.f244 := by kernel_rfl
@[simp] theorem lv_244_1 : livesOf 244 1 = [0, 1] := by kernel_rfl
@[simp] theorem lv_244_1000001 : livesOf 244 1000001 = [0] := by kernel_rfl
@[simp] theorem tb_244 (n : Nat) : tab (n + 1) 244 = some (.pure (run n 244)) := tab_pure (by kernel_rfl) (by kernel_rfl) (by kernel_rfl)
@[simp] theorem fn_245 : fnOf 245 = Tryz.f245 := by kernel_rfl
@[simp] theorem lv_245_1 : livesOf 245 1 = [0, 1] := by kernel_rfl
@[simp] theorem lv_245_1000001 : livesOf 245 1000001 = [0] := by kernel_rfl
@[simp] theorem tb_245 (n : Nat) : tab (n + 1) 245 = some (.lin [false, true] (runL n 245)) := tab_lin (k := false) (by kernel_rfl) (by kernel_rfl) (by kernel_rfl)
@[simp] theorem kp_245 : keepOf 245 = false := by kernel_rfl
@[simp] theorem fn_246 : fnOf 246 = Tryz.f246 := by kernel_rfl
@[simp] theorem lv_246_1 : livesOf 246 1 = [0, 1] := by kernel_rfl
@[simp] theorem lv_246_1000001 : livesOf 246 1000001 = [0] := by kernel_rfl
@[simp] theorem tb_246 (n : Nat) : tab (n + 1) 246 = some (.pure (run n 246)) := tab_pure (by kernel_rfl) (by kernel_rfl) (by kernel_rfl)
@[simp] theorem fn_247 : fnOf 247 = Tryz.f247 := by kernel_rfl
@[simp] theorem lv_247_15 : livesOf 247 15 = [0, 1, 5, 6, 7, 8, 9, 10] := by kernel_rfl
@[simp] theorem lv_247_1000015 : livesOf 247 1000015 = [4] := by kernel_rfl
@[simp] theorem tb_247 (n : Nat) : tab (n + 1) 247 = some (.pure (run n 247)) := tab_pure (by kernel_rfl) (by kernel_rfl) (by kernel_rfl)
@[simp] theorem fn_248 : fnOf 248 = Tryz.f248 := by kernel_rfl
@[simp] theorem tb_248 (n : Nat) : tab (n + 1) 248 = some (.pure (run n 248)) := tab_pure (by kernel_rfl) (by kernel_rfl) (by kernel_rfl)
@[simp] theorem fn_249 : fnOf 249 = Tryz.f249 := by kernel_rfl
@[simp] theorem tb_249 (n : Nat) : tab (n + 1) 249 = some (.pure (run n 249)) := tab_pure (by kernel_rfl) (by kernel_rfl) (by kernel_rfl)
@[simp] theorem fn_250 : fnOf 250 = Tryz.f250 := by kernel_rfl
@[simp] theorem lv_250_1 : livesOf 250 1 = [0, 1, 4] := by kernel_rfl
@[simp] theorem lv_250_1000001 : livesOf 250 1000001 = [0, 1, 4] := by kernel_rfl
@[simp] theorem tb_250 (n : Nat) : tab (n + 1) 250 = some (.lin [true, false] (runL n 250)) := tab_lin (k := false) (by kernel_rfl) (by kernel_rfl) (by kernel_rfl)
@[simp] theorem kp_250 : keepOf 250 = false := by kernel_rfl
@[simp] theorem fn_251 : fnOf 251 = Tryz.f251 := by kernel_rfl
@[simp] theorem lv_251_11 : livesOf 251 11 = [0, 1, 3, 4, 10, 11, 12, 13, 14, 15, 16] := by kernel_rfl
@[simp] theorem lv_251_18 : livesOf 251 18 = [0, 1, 3, 4, 10, 11, 12, 13, 17] := by kernel_rfl
@[simp] theorem lv_251_1000011 : livesOf 251 1000011 = [0, 1, 3, 4, 10, 11, 12, 13] := by kernel_rfl
@[simp] theorem lv_251_1000018 : livesOf 251 1000018 = [0, 1, 3, 4, 10, 11, 12, 13] := by kernel_rfl
@[simp] theorem tb_251 (n : Nat) : tab (n + 1) 251 = some (.lin [true, false, false, false, false] (runL n 251)) := tab_lin (k := true) (by kernel_rfl) (by kernel_rfl) (by kernel_rfl)
@[simp] theorem kp_251 : keepOf 251 = true := by kernel_rfl
@[simp] theorem fn_252 : fnOf 252 = Tryz.f252 := by kernel_rfl
@[simp] theorem lv_252_4 : livesOf 252 4 = [0, 1, 6, 7, 8] := by kernel_rfl
@[simp] theorem lv_252_1000004 : livesOf 252 1000004 = [6, 7] := by kernel_rfl
@[simp] theorem tb_252 (n : Nat) : tab (n + 1) 252 = some (.pure (run n 252)) := tab_pure (by kernel_rfl) (by kernel_rfl) (by kernel_rfl)
@[simp] theorem fn_253 : fnOf 253 = Tryz.f253 := by kernel_rfl
@[simp] theorem tb_253 (n : Nat) : tab (n + 1) 253 = some (.pure (run n 253)) := tab_pure (by kernel_rfl) (by kernel_rfl) (by kernel_rfl)
@[simp] theorem fn_254 : fnOf 254 = Tryz.f254 := by kernel_rfl
@[simp] theorem lv_254_3 : livesOf 254 3 = [1, 5, 13, 14, 15] := by kernel_rfl
@[simp] theorem lv_254_1000003 : livesOf 254 1000003 = [5] := by kernel_rfl
@[simp] theorem tb_254 (n : Nat) : tab (n + 1) 254 = some (.pure (run n 254)) := tab_pure (by kernel_rfl) (by kernel_rfl) (by kernel_rfl)
@[simp] theorem fn_255 : fnOf 255 = Tryz.f255 := by kernel_rfl
@[simp] theorem lv_255_3 : livesOf 255 3 = [0, 1, 2, 7, 8, 15, 16, 17] := by kernel_rfl
@[simp] theorem lv_255_17 : livesOf 255 17 = [0, 1, 2, 7, 70, 71, 72] := by kernel_rfl
@[simp] theorem lv_255_1000003 : livesOf 255 1000003 = [0, 1, 2, 7, 8] := by kernel_rfl
@[simp] theorem lv_255_1000017 : livesOf 255 1000017 = [0, 1, 2, 7] := by kernel_rfl
@[simp] theorem tb_255 (n : Nat) : tab (n + 1) 255 = some (.lin [true, false, false] (runL n 255)) := tab_lin (k := false) (by kernel_rfl) (by kernel_rfl) (by kernel_rfl)
@[simp] theorem kp_255 : keepOf 255 = false := by kernel_rfl
@[simp] theorem fn_256 : fnOf 256 = Tryz.f256 := by kernel_rfl
@[simp] theorem lv_256_4 : livesOf 256 4 = [0, 1, 5, 7, 8] := by kernel_rfl
@[simp] theorem lv_256_1000004 : livesOf 256 1000004 = [7] := by kernel_rfl
@[simp] theorem tb_256 (n : Nat) : tab (n + 1) 256 = some (.pure (run n 256)) := tab_pure (by kernel_rfl) (by kernel_rfl) (by kernel_rfl)
@[simp] theorem fn_257 : fnOf 257 = Tryz.f257 := by kernel_rfl
@[simp] theorem lv_257_9 : livesOf 257 9 = [0, 1, 6, 30, 31, 32] := by kernel_rfl
@[simp] theorem lv_257_1000009 : livesOf 257 1000009 = [6] := by kernel_rfl
@[simp] theorem tb_257 (n : Nat) : tab (n + 1) 257 = some (.pure (run n 257)) := tab_pure (by kernel_rfl) (by kernel_rfl) (by kernel_rfl)
@[simp] theorem fn_258 : fnOf 258 = Tryz.f258 := by kernel_rfl
@[simp] theorem tb_258 (n : Nat) : tab (n + 1) 258 = some (.pure (run n 258)) := tab_pure (by kernel_rfl) (by kernel_rfl) (by kernel_rfl)
@[simp] theorem fn_259 : fnOf 259 = Tryz.f259 := by kernel_rfl
@[simp] theorem tb_259 (n : Nat) : tab (n + 1) 259 = some (.pure (run n 259)) := tab_pure (by kernel_rfl) (by kernel_rfl) (by kernel_rfl)
@[simp] theorem fn_261 : fnOf 261 = Tryz.f261 := by kernel_rfl
@[simp] theorem tb_261 (n : Nat) : tab (n + 1) 261 = some (.pure (run n 261)) := tab_pure (by kernel_rfl) (by kernel_rfl) (by kernel_rfl)
@[simp] theorem fn_262 : fnOf 262 = Tryz.f262 := by kernel_rfl
@[simp] theorem lv_262_2 : livesOf 262 2 = [2, 4] := by kernel_rfl
@[simp] theorem lv_262_1000002 : livesOf 262 1000002 = [2] := by kernel_rfl
@[simp] theorem tb_262 (n : Nat) : tab (n + 1) 262 = some (.pure (run n 262)) := tab_pure (by kernel_rfl) (by kernel_rfl) (by kernel_rfl)
@[simp] theorem fn_264 : fnOf 264 = Tryz.f264 := by kernel_rfl
@[simp] theorem lv_264_36 : livesOf 264 36 = [1, 8, 9, 10, 11, 12, 13, 99, 100, 101] := by kernel_rfl
@[simp] theorem lv_264_1000036 : livesOf 264 1000036 = [6, 7, 9, 12, 13] := by kernel_rfl
@[simp] theorem tb_264 (n : Nat) : tab (n + 1) 264 = some (.pure (run n 264)) := tab_pure (by kernel_rfl) (by kernel_rfl) (by kernel_rfl)
@[simp] theorem fn_265 : fnOf 265 = Tryz.f265 := by kernel_rfl
@[simp] theorem tb_265 (n : Nat) : tab (n + 1) 265 = some (.pure (run n 265)) := tab_pure (by kernel_rfl) (by kernel_rfl) (by kernel_rfl)
@[simp] theorem fn_266 : fnOf 266 = Tryz.f266 := by kernel_rfl
@[simp] theorem tb_266 (n : Nat) : tab (n + 1) 266 = some (.pure (run n 266)) := tab_pure (by kernel_rfl) (by kernel_rfl) (by kernel_rfl)
@[simp] theorem fn_268 : fnOf 268 = Tryz.f268 := by kernel_rfl
@[simp] theorem tb_268 (n : Nat) : tab (n + 1) 268 = some (.pure (run n 268)) := tab_pure (by kernel_rfl) (by kernel_rfl) (by kernel_rfl)
@[simp] theorem fn_269 : fnOf 269 = Tryz.f269 := by kernel_rfl
@[simp] theorem tb_269 (n : Nat) : tab (n + 1) 269 = some (.pure (run n 269)) := tab_pure (by kernel_rfl) (by kernel_rfl) (by kernel_rfl)
@[simp] theorem fn_271 : fnOf 271 = Tryz.f271 := by kernel_rfl
@[simp] theorem tb_271 (n : Nat) : tab (n + 1) 271 = some (.pure (run n 271)) := tab_pure (by kernel_rfl) (by kernel_rfl) (by kernel_rfl)
@[simp] theorem fn_272 : fnOf 272 = Tryz.f272 := by kernel_rfl
@[simp] theorem lv_272_10 : livesOf 272 10 = [0, 4, 5, 6] := by kernel_rfl
@[simp] theorem lv_272_1000010 : livesOf 272 1000010 = [0, 4, 5] := by kernel_rfl
@[simp] theorem tb_272 (n : Nat) : tab (n + 1) 272 = some (.pure (run n 272)) := tab_pure (by kernel_rfl) (by kernel_rfl) (by kernel_rfl)
@[simp] theorem fn_274 : fnOf 274 = Tryz.f274 := by kernel_rfl
@[simp] theorem tb_274 (n : Nat) : tab (n + 1) 274 = some (.pure (run n 274)) := tab_pure (by kernel_rfl) (by kernel_rfl) (by kernel_rfl)
@[simp] theorem fn_275 : fnOf 275 = Tryz.f275 := by kernel_rfl
@[simp] theorem lv_275_5 : livesOf 275 5 = [0, 1, 5, 6, 7, 8, 9] := by kernel_rfl
@[simp] theorem lv_275_11 : livesOf 275 11 = [0, 1, 5, 6, 7, 8, 10] := by kernel_rfl
@[simp] theorem lv_275_1000005 : livesOf 275 1000005 = [0, 1, 5, 6, 7, 8] := by kernel_rfl
@[simp] theorem lv_275_1000011 : livesOf 275 1000011 = [4] := by kernel_rfl
@[simp] theorem tb_275 (n : Nat) : tab (n + 1) 275 = some (.pure (run n 275)) := tab_pure (by kernel_rfl) (by kernel_rfl) (by kernel_rfl)
@[simp] theorem fn_276 : fnOf 276 = Tryz.f276 := by kernel_rfl
@[simp] theorem tb_276 (n : Nat) : tab (n + 1) 276 = some (.pure (run n 276)) := tab_pure (by kernel_rfl) (by kernel_rfl) (by kernel_rfl)
@[simp] theorem fn_277 : fnOf 277 = Tryz.f277 := by kernel_rfl
@[simp] theorem tb_277 (n : Nat) : tab (n + 1) 277 = some (.pure (run n 277)) := tab_pure (by kernel_rfl) (by kernel_rfl) (by kernel_rfl)
@[simp] theorem fn_278 : fnOf 278 = Tryz.f278 := by kernel_rfl
@[simp] theorem tb_278 (n : Nat) : tab (n + 1) 278 = some (.pure (run n 278)) := tab_pure (by kernel_rfl) (by kernel_rfl) (by kernel_rfl)
@[simp] theorem fn_279 : fnOf 279 = Tryz.f279 := by kernel_rfl
@[simp] theorem tb_279 (n : Nat) : tab (n + 1) 279 = some (.pure (run n 279)) := tab_pure (by kernel_rfl) (by kernel_rfl) (by kernel_rfl)
@[simp] theorem fn_280 : fnOf 280 = Tryz.f280 := by kernel_rfl
@[simp] theorem tb_280 (n : Nat) : tab (n + 1) 280 = some (.pure (run n 280)) := tab_pure (by kernel_rfl) (by kernel_rfl) (by kernel_rfl)
@[simp] theorem fn_281 : fnOf 281 = Tryz.f281 := by kernel_rfl
@[simp] theorem tb_281 (n : Nat) : tab (n + 1) 281 = some (.pure (run n 281)) := tab_pure (by kernel_rfl) (by kernel_rfl) (by kernel_rfl)
@[simp] theorem fn_282 : fnOf 282 = Tryz.f282 := by kernel_rfl
@[simp] theorem tb_282 (n : Nat) : tab (n + 1) 282 = some (.pure (run n 282)) := tab_pure (by kernel_rfl) (by kernel_rfl) (by kernel_rfl)
@[simp] theorem fn_283 : fnOf 283 = Tryz.f283 := by kernel_rfl
@[simp] theorem tb_283 (n : Nat) : tab (n + 1) 283 = some (.pure (run n 283)) := tab_pure (by kernel_rfl) (by kernel_rfl) (by kernel_rfl)
@[simp] theorem fn_284 : fnOf 284 = Tryz.f284 := by kernel_rfl
@[simp] theorem lv_284_10 : livesOf 284 10 = [0, 3, 4, 5] := by kernel_rfl
@[simp] theorem lv_284_1000010 : livesOf 284 1000010 = [2, 3] := by kernel_rfl
@[simp] theorem tb_284 (n : Nat) : tab (n + 1) 284 = some (.pure (run n 284)) := tab_pure (by kernel_rfl) (by kernel_rfl) (by kernel_rfl)
@[simp] theorem fn_286 : fnOf 286 = Tryz.f286 := by kernel_rfl
@[simp] theorem tb_286 (n : Nat) : tab (n + 1) 286 = some (.pure (run n 286)) := tab_pure (by kernel_rfl) (by kernel_rfl) (by kernel_rfl)
@[simp] theorem fn_287 : fnOf 287 = Tryz.f287 := by kernel_rfl
@[simp] theorem tb_287 (n : Nat) : tab (n + 1) 287 = some (.pure (run n 287)) := tab_pure (by kernel_rfl) (by kernel_rfl) (by kernel_rfl)
@[simp] theorem fn_288 : fnOf 288 = Tryz.f288 := by kernel_rfl
@[simp] theorem lv_288_3 : livesOf 288 3 = [0, 4, 5] := by kernel_rfl
@[simp] theorem lv_288_8 : livesOf 288 8 = [4, 6, 7, 8] := by kernel_rfl
@[simp] theorem lv_288_1000003 : livesOf 288 1000003 = [0, 4] := by kernel_rfl
@[simp] theorem lv_288_1000008 : livesOf 288 1000008 = [4, 6] := by kernel_rfl
@[simp] theorem tb_288 (n : Nat) : tab (n + 1) 288 = some (.pure (run n 288)) := tab_pure (by kernel_rfl) (by kernel_rfl) (by kernel_rfl)
@[simp] theorem fn_289 : fnOf 289 = Tryz.f289 := by kernel_rfl
@[simp] theorem tb_289 (n : Nat) : tab (n + 1) 289 = some (.pure (run n 289)) := tab_pure (by kernel_rfl) (by kernel_rfl) (by kernel_rfl)
@[simp] theorem fn_290 : fnOf 290 = Tryz.f290 := by kernel_rfl
@[simp] theorem tb_290 (n : Nat) : tab (n + 1) 290 = some (.pure (run n 290)) := tab_pure (by kernel_rfl) (by kernel_rfl) (by kernel_rfl)
end Go.Proofs.YtjpoanaoaeaneaaGreatDoor
set_option linter.all false
namespace Go.Proofs.YtjpoanaoaeaneaaGreatDoor
open Go.RowKit
def ratC (q : Rat) : List AV := [.lit (.bool (rawQ q).s), natA (rawQ q).l1, natA (rawQ q).l2]
def termC (t : Int × Rat) : List AV := [.lit (.int .i64 t.1), .lit (.bool (rawQ t.2).s), natA (rawQ t.2).l1, natA (rawQ t.2).l2]
abbrev Form := List (Int × Rat) × Rat
def formC (f : Form) : List AV := [.sl 4 (f.1.map termC), .lit (.bool (rawQ f.2).s), natA (rawQ f.2).l1, natA (rawQ f.2).l2]
theorem roomy_s {n b : Nat} (h : n ≤ 100000000) (hb : b ≤ 10000) : roomy n b = true := by
  unfold roomy
  have : n * b ≤ 100000000 * 10000 := Nat.mul_le_mul h hb
  rw [Bool.and_eq_true]
  exact ⟨decide_eq_true (by omega), decide_eq_true (by omega)⟩
theorem o1_rat {F : Raw → AV} {q : Rat} (h : H q ≤ 17179869184) : o1 F [ratA q] = some (F (rawQ q)) := by
  have h1 : (rawQ q).few = true := by
    have a1 : (lmb q.num.natAbs).length ≤ H q := Nat.le_max_left _ _
    have a2 : (dlmb q.den).length ≤ H q := Nat.le_trans (dlmb_len _) (Nat.le_max_right _ _)
    unfold Raw.few rawQ
    rw [Bool.and_eq_true]
    exact ⟨Nat.ble_eq_true_of_le (by dsimp only; omega), Nat.ble_eq_true_of_le (by dsimp only; omega)⟩
  simp only [o1, decR_rat, h1, if_true]
theorem o2_rat {F : Raw → Raw → AV} {p q : Rat} (hp : H p ≤ 17179869184) (hq : H q ≤ 17179869184) : o2 F [ratA p, ratA q] = some (F (rawQ p) (rawQ q)) := by
  have few : ∀ {q : Rat}, H q ≤ 17179869184 → (rawQ q).few = true := fun {q} h => by
    have a1 : (lmb q.num.natAbs).length ≤ H q := Nat.le_max_left _ _
    have a2 : (dlmb q.den).length ≤ H q := Nat.le_trans (dlmb_len _) (Nat.le_max_right _ _)
    unfold Raw.few rawQ
    rw [Bool.and_eq_true]
    exact ⟨Nat.ble_eq_true_of_le (by dsimp only; omega), Nat.ble_eq_true_of_le (by dsimp only; omega)⟩
  simp only [o2, decR_rat, few hp, few hq, Bool.and_self, if_true]
theorem o1_agg {F : Raw → AV} {q : Rat} (h : H q ≤ 17179869184) : o1 F [.agg [.lit (.bool (rawQ q).s), natA (rawQ q).l1, natA (rawQ q).l2]] = some (F (rawQ q)) := o1_rat h
theorem o2_agg {F : Raw → Raw → AV} {p q : Rat} (hp : H p ≤ 17179869184) (hq : H q ≤ 17179869184) : o2 F [.agg [.lit (.bool (rawQ p).s), natA (rawQ p).l1, natA (rawQ p).l2], .agg [.lit (.bool (rawQ q).s), natA (rawQ q).l1, natA (rawQ q).l2]] = some (F (rawQ p) (rawQ q)) := o2_rat hp hq
noncomputable def fAdd : List AV → Option AV := o2 fun x y => ratA (x.q + y.q)
@[simp] theorem tn_add (n : Nat) : tab n 47 = some (.pure fAdd) := tab_num rfl n
@[simp] theorem tn_padd (n : Nat) : tab n 96 = some (.pure fAdd) := tab_num rfl n
noncomputable def fSub : List AV → Option AV := o2 fun x y => ratA (x.q - y.q)
@[simp] theorem tn_sub (n : Nat) : tab n 48 = some (.pure fSub) := tab_num rfl n
noncomputable def fMul : List AV → Option AV := o2 fun x y => ratA (x.q * y.q)
@[simp] theorem tn_mul (n : Nat) : tab n 132 = some (.pure fMul) := tab_num rfl n
@[simp] theorem tn_pmul (n : Nat) : tab n 182 = some (.pure fMul) := tab_num rfl n
noncomputable def fNeg : List AV → Option AV := o1 fun x => ratA (-x.q)
@[simp] theorem tn_neg (n : Nat) : tab n 116 = some (.pure fNeg) := tab_num rfl n
noncomputable def fCanon : List AV → Option AV := o1 fun x => ratA x.q
@[simp] theorem tn_canon (n : Nat) : tab n 57 = some (.pure fCanon) := tab_num rfl n
@[simp] theorem tn_pcanon (n : Nat) : tab n 95 = some (.pure fCanon) := tab_num rfl n
noncomputable def fSign : List AV → Option AV := o1 fun x => .lit (.int .i64 (sgR x.q))
@[simp] theorem tn_sign (n : Nat) : tab n 49 = some (.pure fSign) := tab_num rfl n
@[simp] theorem tn_psign (n : Nat) : tab n 99 = some (.pure fSign) := tab_num rfl n
noncomputable def fCmp : List AV → Option AV := o2 fun x y => .lit (.int .i64 (sgR (x.q - y.q)))
@[simp] theorem tn_cmp (n : Nat) : tab n 50 = some (.pure fCmp) := tab_num rfl n
noncomputable def fSame : List AV → Option AV := o2 fun x y => .lit (.bool (decide (x.s = y.s ∧ x.l1 = y.l1 ∧ x.l2 = y.l2)))
@[simp] theorem tn_same (n : Nat) : tab n 76 = some (.pure fSame) := tab_num rfl n
noncomputable def fValid : List AV → Option AV := o1 fun x => .lit (.bool (decide (RatV x.s x.l1 x.l2)))
@[simp] theorem tn_valid (n : Nat) : tab n 62 = some (.pure fValid) := tab_num rfl n
@[simp] theorem tn_pvalid (n : Nat) : tab n 100 = some (.pure fValid) := tab_num rfl n
noncomputable def fOf : List AV → Option AV := oZ fun z => ratA (z : Rat)
@[simp] theorem tn_of (n : Nat) : tab n 51 = some (.pure fOf) := tab_num rfl n
@[simp] theorem tn_pof (n : Nat) : tab n 178 = some (.pure fOf) := tab_num rfl n
noncomputable def fFrac : List AV → Option AV := oZZ fun x y => .tup [ratA ((x : Rat) / (y : Rat)), .lit (.int .i64 0)]
@[simp] theorem tn_frac (n : Nat) : tab n 46 = some (.pure fFrac) := tab_num rfl n
theorem r_add {p q : Rat} (hp : H p ≤ 17179869184) (hq : H q ≤ 17179869184) : fAdd [.agg [.lit (.bool (rawQ p).s), natA (rawQ p).l1, natA (rawQ p).l2], .agg [.lit (.bool (rawQ q).s), natA (rawQ q).l1, natA (rawQ q).l2]] = some (.agg [.lit (.bool (rawQ (p + q)).s), natA (rawQ (p + q)).l1, natA (rawQ (p + q)).l2]) := by unfold fAdd; rw [o2_agg hp hq, rawQ_q, rawQ_q]; rfl
theorem r_mul {p q : Rat} (hp : H p ≤ 17179869184) (hq : H q ≤ 17179869184) : fMul [.agg [.lit (.bool (rawQ p).s), natA (rawQ p).l1, natA (rawQ p).l2], .agg [.lit (.bool (rawQ q).s), natA (rawQ q).l1, natA (rawQ q).l2]] = some (.agg [.lit (.bool (rawQ (p * q)).s), natA (rawQ (p * q)).l1, natA (rawQ (p * q)).l2]) := by unfold fMul; rw [o2_agg hp hq, rawQ_q, rawQ_q]; rfl
theorem r_cmp {p q : Rat} (hp : H p ≤ 17179869184) (hq : H q ≤ 17179869184) : fCmp [.agg [.lit (.bool (rawQ p).s), natA (rawQ p).l1, natA (rawQ p).l2], .agg [.lit (.bool (rawQ q).s), natA (rawQ q).l1, natA (rawQ q).l2]] = some (.lit (.int .i64 (sgR (p - q)))) := by unfold fCmp; rw [o2_agg hp hq, rawQ_q, rawQ_q]
theorem r_canon {p : Rat} (hp : H p ≤ 17179869184) : fCanon [.agg [.lit (.bool (rawQ p).s), natA (rawQ p).l1, natA (rawQ p).l2]] = some (.agg [.lit (.bool (rawQ p).s), natA (rawQ p).l1, natA (rawQ p).l2]) := by unfold fCanon; rw [o1_agg hp, rawQ_q]; rfl
theorem r_sign {p : Rat} (hp : H p ≤ 17179869184) : fSign [.agg [.lit (.bool (rawQ p).s), natA (rawQ p).l1, natA (rawQ p).l2]] = some (.lit (.int .i64 (sgR p))) := by unfold fSign; rw [o1_agg hp, rawQ_q]
theorem r_of {z : Int} (h1 : -9223372036854775808 ≤ z) (h2 : z ≤ 9223372036854775807) : fOf [.lit (.int .i64 z)] = some (.agg [.lit (.bool (rawQ (z : Rat)).s), natA (rawQ (z : Rat)).l1, natA (rawQ (z : Rat)).l2]) := if_pos ⟨h1, h2⟩
end Go.Proofs.YtjpoanaoaeaneaaGreatDoor
set_option linter.all false
namespace Go.Proofs.YtjpoanaoaeaneaaGreatDoor
open Go.RowKit
@[simp] theorem z0s : (rawQ 0).s = false := rfl
@[simp] theorem z0n : natA (rawQ 0).l1 = .sl 1 [] := by
  have e : (rawQ 0).l1 = [] := by decide +kernel
  rw [e]; rfl
@[simp] theorem z0d : natA (rawQ 0).l2 = .sl 1 [] := by
  have e : (rawQ 0).l2 = [] := by decide +kernel
  rw [e]; rfl
@[simp] def ratV (q : Rat) : AV := .agg [.lit (.bool (rawQ q).s), natA (rawQ q).l1, natA (rawQ q).l2]
@[simp] def formV (f : Form) : AV := .agg [.sl 4 (f.1.map termC), .lit (.bool (rawQ f.2).s), natA (rawQ f.2).l1, natA (rawQ f.2).l2]
attribute [simp] ratC termC formC loopsOf roomy_s
def absQ (q : Rat) : Rat := if q.num < 0 then -q else q
theorem neg_nm (q : Rat) : (-q).num = -q.num := rfl
theorem neg_dn (q : Rat) : (-q).den = q.den := rfl
theorem absQ_raw (q : Rat) : rawQ (absQ q) = ⟨false, (rawQ q).l1, (rawQ q).l2⟩ := by
  by_cases h : q.num < 0
  · have e : absQ q = -q := if_pos h
    have e2 : decide (-q.num < 0) = false := decide_eq_false (by omega)
    rw [e]
    unfold rawQ
    rw [neg_nm, neg_dn, Int.natAbs_neg, e2]
  · have e : absQ q = q := if_neg h
    have e2 : decide (q.num < 0) = false := decide_eq_false h
    rw [e]
    unfold rawQ
    rw [e2]
@[simp] theorem absQ_s (q : Rat) : (rawQ (absQ q)).s = false := by rw [absQ_raw]
@[simp] theorem absQ_n (q : Rat) : (rawQ (absQ q)).l1 = (rawQ q).l1 := by rw [absQ_raw]
@[simp] theorem absQ_d (q : Rat) : (rawQ (absQ q)).l2 = (rawQ q).l2 := by rw [absQ_raw]
def InI (z : Int) : Prop := -9223372036854775808 ≤ z ∧ z ≤ 9223372036854775807
@[simp] def intI64C (z : Int) : List AV := [.lit (.int .i64 z)]
@[simp] def intU8C (z : Int) : List AV := [.lit (.int .u8 z)]
@[simp] def intU32C (z : Int) : List AV := [.lit (.int .u32 z)]
@[simp] def boolC (b : Bool) : List AV := [.lit (.bool b)]
@[simp] def strC (s : ByteArray) : List AV := [.lit (.string s)]
def ofQ (z : Int) : Rat := (z : Rat)
theorem r_ofq {z : Int} (h1 : -9223372036854775808 ≤ z) (h2 : z ≤ 9223372036854775807) : fOf [.lit (.int .i64 z)] = some (.agg [.lit (.bool (rawQ (ofQ z)).s), natA (rawQ (ofQ z)).l1, natA (rawQ (ofQ z)).l2]) := r_of h1 h2
@[simp] theorem okE_ratC (l : List Rat) : okEls 3 (l.map ratC) = true := okEls_map (fun x => by simp) l
@[simp] theorem okE_termC (l : List (Int × Rat)) : okEls 4 (l.map termC) = true := okEls_map (fun x => by simp) l
@[simp] theorem okE_formC (l : List Form) : okEls 4 (l.map formC) = true := okEls_map (fun x => by simp) l
@[simp] theorem okE_intI64C (l : List Int) : okEls 1 (l.map intI64C) = true := okEls_map (fun x => by simp) l
@[simp] theorem okE_intU8C (l : List Int) : okEls 1 (l.map intU8C) = true := okEls_map (fun x => by simp) l
@[simp] theorem okE_boolC (l : List Bool) : okEls 1 (l.map boolC) = true := okEls_map (fun x => by simp) l
@[simp] theorem okE_strC (l : List ByteArray) : okEls 1 (l.map strC) = true := okEls_map (fun x => by simp) l
section
variable {α β γ : Type} {P : Program} {O : FuncId → Option Orc} {m N : Nat} {lives : Nat → List Nat} {r : Nat} {C : Code} {M : Nat} {L : List α} {enc : Nat → β → St} {exN exE : Ex}
noncomputable def loopG (P : Program) (O : FuncId → Option Orc) (m N : Nat) (lives : Nat → List Nat) (r : Nat) (C : Code) (e : St) : Option (Ex × St) :=
  match (match exec P O m N lives big C e with
    | some (.nrm, s') => loopS m (exec P O m N lives big C) (lives r) 4294967295 s'
    | x => x) with
  | some (ex, s') => (match gc m (lives (outOf r)) s' with | some s2 => some (ex, s2) | none => none)
  | none => none
theorem loopX_G {C' : Code} {s e : St} (hC : C = C') (hg : gc m (lives r) s = some e) : loopX P O m N lives big r C s = loopG P O m N lives r C' e := by
  subst hC
  unfold loopX loopG
  have hb : loopS m (exec P O m N lives big C) (lives r) big s = loopS m (exec P O m N lives big C) (lives r) (4294967295 + 1) s := rfl
  rw [hb, loopS, hg]
  dsimp only
  cases exec P O m N lives big C e with
  | none => rfl
  | some p =>
    obtain ⟨ex, s1⟩ := p
    cases ex <;> rfl
theorem loopS_Q {live outL : List Nat} {step : St → Option (Ex × St)} {Inv : Nat → β → Prop} {Q : Ex → St → Prop}
    (hstep : ∀ i b, i < M → Inv i b → (∃ b', Cont m step live (enc i b) (enc (i + 1) b') ∧ Inv (i + 1) b') ∨ (∃ ex t, ex ≠ .nrm ∧ Leave m step outL (enc i b) ex t ∧ Q ex t))
    (hend : ∀ b, Inv M b → ∃ ex t, ex ≠ .nrm ∧ Leave m step outL (enc M b) ex t ∧ Q ex t) :
    ∀ (k i n : Nat) (b : β), i + k = M → k ≤ n → Inv i b → ∃ ex s' t, (match step (enc i b) with | some (.nrm, s') => loopS m step live n s' | x => x) = some (ex, s') ∧ gc m outL s' = some t ∧ Q ex t
  | 0, i, n, b, hi, hn, hI => by
    obtain rfl : i = M := by omega
    obtain ⟨ex, t, h0, ⟨s', h1, h2⟩, h3⟩ := hend b hI
    refine ⟨ex, s', t, ?_, h2, h3⟩
    rw [h1]
    cases ex <;> first | exact absurd rfl h0 | rfl
  | k + 1, i, n, b, hi, hn, hI => by
    rcases hstep i b (by omega) hI with ⟨b', ⟨s1, h1, h2⟩, h3⟩ | ⟨ex, t, h0, ⟨s', h1, h2⟩, h3⟩
    · obtain ⟨ex, s', t, h4, h5, h6⟩ := loopS_Q hstep hend k (i + 1) (n - 1) b' (by omega) (by omega) h3
      refine ⟨ex, s', t, ?_, h5, h6⟩
      rw [h1]
      have e : n = (n - 1) + 1 := by omega
      rw [e]
      dsimp only
      rw [loopS, h2]
      exact h4
    · refine ⟨ex, s', t, ?_, h2, h3⟩
      rw [h1]
      cases ex <;> first | exact absurd rfl h0 | rfl
theorem loopG_Q (Inv : Nat → β → Prop) (Q : Ex → St → Prop) (b : β) (hI : Inv 0 b) (hn : M ≤ 4294967295)
    (hstep : ∀ i b, i < M → Inv i b → (∃ b', Cont m (exec P O m N lives big C) (lives r) (enc i b) (enc (i + 1) b') ∧ Inv (i + 1) b') ∨ (∃ ex t, ex ≠ .nrm ∧ Leave m (exec P O m N lives big C) (lives (outOf r)) (enc i b) ex t ∧ Q ex t))
    (hend : ∀ b, Inv M b → ∃ ex t, ex ≠ .nrm ∧ Leave m (exec P O m N lives big C) (lives (outOf r)) (enc M b) ex t ∧ Q ex t) :
    ∃ ex t, loopG P O m N lives r C (enc 0 b) = some (ex, t) ∧ Q ex t := by
  obtain ⟨ex, s', t, h1, h2, h3⟩ := loopS_Q hstep hend M 0 4294967295 b (by omega) hn hI
  refine ⟨ex, t, ?_, h3⟩
  unfold loopG
  rw [h1]
  simp only [h2]
theorem loopG_R (Inv : Nat → β → Prop) {out : β → St} (b : β) (hI : Inv 0 b) (hn : M ≤ 4294967295) (hN : exN ≠ .nrm)
    (hstep : ∀ i b, i < M → Inv i b → ∃ b', Cont m (exec P O m N lives big C) (lives r) (enc i b) (enc (i + 1) b') ∧ Inv (i + 1) b')
    (hend : ∀ b, Inv M b → Leave m (exec P O m N lives big C) (lives (outOf r)) (enc M b) exN (out b)) :
    ∃ b', loopG P O m N lives r C (enc 0 b) = some (exN, out b') ∧ Inv M b' := by
  obtain ⟨ex, t, h1, b', rfl, rfl, h3⟩ := loopG_Q (m := m) (C := C) (P := P) (O := O) (N := N) Inv (fun ex t => ∃ b', ex = exN ∧ t = out b' ∧ Inv M b') b hI hn (fun i b hi hI => .inl (hstep i b hi hI)) (fun b hI => ⟨exN, out b, hN, hend b hI, b, rfl, rfl, hI⟩)
  exact ⟨b', h1, h3⟩
theorem loopG_E {f : Nat → β → α → Except γ β} {out : β → St} {outE : γ → St} {Inv : Nat → β → Prop} (b : β) (hI : Inv 0 b) (hn : L.length ≤ 4294967295) (hN : exN ≠ .nrm) (hE : exE ≠ .nrm)
    (hstep : ∀ i x b, L[i]? = some x → Inv i b → match f i b x with
      | .ok b' => Cont m (exec P O m N lives big C) (lives r) (enc i b) (enc (i + 1) b') ∧ Inv (i + 1) b'
      | .error c => Leave m (exec P O m N lives big C) (lives (outOf r)) (enc i b) exE (outE c))
    (hend : ∀ b, Inv L.length b → Leave m (exec P O m N lives big C) (lives (outOf r)) (enc L.length b) exN (out b)) :
    loopG P O m N lives r C (enc 0 b) = some (endE (foldE f 0 b L) exN out exE outE) ∧ ∀ b', foldE f 0 b L = .ok b' → Inv L.length b' := by
  obtain ⟨ex, t, h1, h2, h3⟩ := loopG_Q (m := m) (C := C) (P := P) (O := O) (N := N) (lives := lives) (r := r) (enc := enc) (M := L.length) (fun i b' => Inv i b' ∧ foldE f i b' (L.drop i) = foldE f 0 b L)
    (fun ex t => (ex, t) = endE (foldE f 0 b L) exN out exE outE ∧ ∀ b', foldE f 0 b L = .ok b' → Inv L.length b') b ⟨hI, rfl⟩ hn
    (fun i b' hi ⟨hI, hf⟩ => by
      have hx : L[i]? = some L[i] := List.getElem?_eq_getElem hi
      have hd : L.drop i = L[i] :: L.drop (i + 1) := List.drop_eq_getElem_cons hi
      have h4 := hstep i _ b' hx hI
      rw [hd, foldE] at hf
      split at h4
      · rename_i b2 he
        rw [he] at hf
        exact .inl ⟨b2, h4.1, h4.2, hf⟩
      · rename_i c he
        rw [he] at hf
        exact .inr ⟨exE, outE c, hE, h4, by rw [← hf]; rfl, fun b' h => by rw [← hf] at h; cases h⟩)
    (fun b' ⟨hI, hf⟩ => by
      rw [List.drop_length, foldE] at hf
      exact ⟨exN, out b', hN, hend b' hI, by rw [← hf]; rfl, fun b2 h => by rw [← hf] at h; cases h; exact hI⟩)
  rw [h1, h2]
  exact ⟨rfl, h3⟩
theorem loopG_I {f : Nat → β → α → β} {out : β → St} {Inv : Nat → β → Prop} (b : β) (hI : Inv 0 b) (hn : L.length ≤ 4294967295) (hN : exN ≠ .nrm)
    (hstep : ∀ i x b, L[i]? = some x → Inv i b → Cont m (exec P O m N lives big C) (lives r) (enc i b) (enc (i + 1) (f i b x)) ∧ Inv (i + 1) (f i b x))
    (hend : ∀ b, Inv L.length b → Leave m (exec P O m N lives big C) (lives (outOf r)) (enc L.length b) exN (out b)) :
    loopG P O m N lives r C (enc 0 b) = some (exN, out (foldI f 0 b L)) ∧ Inv L.length (foldI f 0 b L) := by
  have key : ∀ (R : List α) (i : Nat) (b : β), foldE (γ := Empty) (fun i b x => .ok (f i b x)) i b R = .ok (foldI f i b R) := fun R => by
    induction R with
    | nil => intro i b; rfl
    | cons x R ih => intro i b; exact ih (i + 1) (f i b x)
  have h := loopG_E (γ := Empty) (f := fun i b x => .ok (f i b x)) (exE := .ret) (outE := fun c => c.elim) (P := P) (O := O) (m := m) (N := N) (lives := lives) (r := r) (C := C) b hI hn hN (fun h => by cases h) hstep hend
  rw [key] at h
  exact ⟨h.1, h.2 _ rfl⟩
end
theorem loopG_all {P : Program} {O : FuncId → Option Orc} {m N : Nat} {lives : Nat → List Nat} {r : Nat} {C : Code} {M : Nat} {enc : Nat → St} {p : Nat → Bool} {exN exE : Ex} {out outE : St} (hn : M ≤ 4294967295) (hN : exN ≠ .nrm) (hE : exE ≠ .nrm)
    (hstep : ∀ i, i < M → (∀ j, j < i → p j = true) → (p i = true → Cont m (exec P O m N lives big C) (lives r) (enc i) (enc (i + 1))) ∧ (p i = false → Leave m (exec P O m N lives big C) (lives (outOf r)) (enc i) exE outE))
    (hend : Leave m (exec P O m N lives big C) (lives (outOf r)) (enc M) exN out) :
    loopG P O m N lives r C (enc 0) = some (if ∀ i, i < M → p i = true then (exN, out) else (exE, outE)) := by
  obtain ⟨ex, t, h1, h2⟩ := loopG_Q (β := Unit) (m := m) (C := C) (P := P) (O := O) (N := N) (lives := lives) (r := r) (M := M) (enc := fun i _ => enc i) (fun i _ => ∀ j, j < i → p j = true) (fun ex t => (ex, t) = if ∀ i, i < M → p i = true then (exN, out) else (exE, outE)) () (fun j hj => absurd hj (by omega)) hn
    (fun i b hi hI => by
      cases hp : p i with
      | true => exact .inl ⟨(), (hstep i hi hI).1 hp, fun j hj => by rcases Nat.lt_succ_iff_lt_or_eq.1 hj with h | rfl; exact hI j h; exact hp⟩
      | false =>
        refine .inr ⟨exE, outE, hE, (hstep i hi hI).2 hp, ?_⟩
        rw [if_neg]
        intro h
        rw [h i hi] at hp; cases hp)
    (fun b hI => ⟨exN, out, hN, hend, by rw [if_pos hI]⟩)
  rw [h1, h2]
structure RawB (r : Raw) : Prop where
  n : Lim r.l1
  d : Lim r.l2
  bn : r.l1.length ≤ 17179869184
  bd : r.l2.length ≤ 17179869184
theorem RawB.few {r : Raw} (h : RawB r) : r.few = true := by
  unfold Raw.few
  rw [Bool.and_eq_true]
  exact ⟨Nat.ble_eq_true_of_le h.bn, Nat.ble_eq_true_of_le h.bd⟩
theorem rawB_q {q : Rat} (h : H q ≤ 17179869184) : RawB (rawQ q) := by
  have a1 : (lmb q.num.natAbs).length ≤ H q := Nat.le_max_left _ _
  have a2 : (dlmb q.den).length ≤ H q := Nat.le_trans (dlmb_len _) (Nat.le_max_right _ _)
  exact ⟨lim_lmb _, lim_dlmb _, Nat.le_trans a1 h, Nat.le_trans a2 h⟩
theorem rr_1 {F : Raw → AV} {r : Raw} (h : RawB r) : o1 F [.agg [.lit (.bool r.s), natA r.l1, natA r.l2]] = some (F r) := by
  have h1 : decR (.agg [.lit (.bool r.s), natA r.l1, natA r.l2]) = some r := decR_av h.n h.d
  simp only [o1, h1, h.few, if_true]
theorem rr_2 {F : Raw → Raw → AV} {x y : Raw} (h : RawB x) (g : RawB y) : o2 F [.agg [.lit (.bool x.s), natA x.l1, natA x.l2], .agg [.lit (.bool y.s), natA y.l1, natA y.l2]] = some (F x y) := by
  have h1 : decR (.agg [.lit (.bool x.s), natA x.l1, natA x.l2]) = some x := decR_av h.n h.d
  have h2 : decR (.agg [.lit (.bool y.s), natA y.l1, natA y.l2]) = some y := decR_av g.n g.d
  simp only [o2, h1, h2, h.few, g.few, Bool.and_self, if_true]
theorem rr_valid {r : Raw} (h : RawB r) : fValid [.agg [.lit (.bool r.s), natA r.l1, natA r.l2]] = some (.lit (.bool (decide (RatV r.s r.l1 r.l2)))) := rr_1 h
theorem rr_sign {r : Raw} (h : RawB r) : fSign [.agg [.lit (.bool r.s), natA r.l1, natA r.l2]] = some (.lit (.int .i64 (sgR r.q))) := rr_1 h
theorem rr_sub {x y : Raw} (h : RawB x) (g : RawB y) : fSub [.agg [.lit (.bool x.s), natA x.l1, natA x.l2], .agg [.lit (.bool y.s), natA y.l1, natA y.l2]] = some (.agg [.lit (.bool (rawQ (x.q - y.q)).s), natA (rawQ (x.q - y.q)).l1, natA (rawQ (x.q - y.q)).l2]) := rr_2 h g
theorem rr_mul {x y : Raw} (h : RawB x) (g : RawB y) : fMul [.agg [.lit (.bool x.s), natA x.l1, natA x.l2], .agg [.lit (.bool y.s), natA y.l1, natA y.l2]] = some (.agg [.lit (.bool (rawQ (x.q * y.q)).s), natA (rawQ (x.q * y.q)).l1, natA (rawQ (x.q * y.q)).l2]) := rr_2 h g
@[simp] def rawC (r : Raw) : List AV := [.lit (.bool r.s), natA r.l1, natA r.l2]
@[simp] def termRC (t : Int × Raw) : List AV := [.lit (.int .i64 t.1), .lit (.bool t.2.s), natA t.2.l1, natA t.2.l2]
abbrev FormR := List (Int × Raw) × Raw
@[simp] def formRC (f : FormR) : List AV := [.sl 4 (f.1.map termRC), .lit (.bool f.2.s), natA f.2.l1, natA f.2.l2]
@[simp] theorem okE_rawC (l : List Raw) : okEls 3 (l.map rawC) = true := okEls_map (fun x => by simp) l
@[simp] theorem okE_termRC (l : List (Int × Raw)) : okEls 4 (l.map termRC) = true := okEls_map (fun x => by simp) l
@[simp] theorem okE_formRC (l : List FormR) : okEls 4 (l.map formRC) = true := okEls_map (fun x => by simp) l
structure TLiteral where
  Unit : Int
  On : Bool
@[simp] def literalC (g : TLiteral) : List AV := [.lit (.int .i64 (g.Unit)), .lit (.bool g.On)]
@[simp] def literalV (g : TLiteral) : AV := .agg [.lit (.int .i64 (g.Unit)), .lit (.bool g.On)]
@[simp] theorem okE_literalC (l : List TLiteral) : okEls 2 (l.map literalC) = true := okEls_map (fun x => by simp) l
structure TInt where
  Neg : Bool
  Mag : List Nat
@[simp] def intC (g : TInt) : List AV := [.lit (.bool g.Neg), natA g.Mag]
@[simp] def intV (g : TInt) : AV := .agg [.lit (.bool g.Neg), natA g.Mag]
@[simp] theorem okE_intC (l : List TInt) : okEls 2 (l.map intC) = true := okEls_map (fun x => by simp) l
structure Treader where
  s : ByteArray
  at_ : Int
  bad : Bool
@[simp] def readerC (g : Treader) : List AV := [.lit (.string g.s), .lit (.int .i64 (g.at_)), .lit (.bool g.bad)]
@[simp] def readerV (g : Treader) : AV := .agg [.lit (.string g.s), .lit (.int .i64 (g.at_)), .lit (.bool g.bad)]
@[simp] theorem okE_readerC (l : List Treader) : okEls 3 (l.map readerC) = true := okEls_map (fun x => by simp) l
structure TClaim where
  Kind : Int
  Target : Int
  Margin : Rat
  Rows : List Form
@[simp] def claimC (g : TClaim) : List AV := [.lit (.int .i64 (g.Kind)), .lit (.int .i64 (g.Target)), .lit (.bool (rawQ g.Margin).s), natA (rawQ g.Margin).l1, natA (rawQ g.Margin).l2, .sl 4 (g.Rows.map formC)]
@[simp] def claimV (g : TClaim) : AV := .agg [.lit (.int .i64 (g.Kind)), .lit (.int .i64 (g.Target)), .lit (.bool (rawQ g.Margin).s), natA (rawQ g.Margin).l1, natA (rawQ g.Margin).l2, .sl 4 (g.Rows.map formC)]
@[simp] theorem okE_claimC (l : List TClaim) : okEls 6 (l.map claimC) = true := okEls_map (fun x => by simp) l
structure TDecision where
  Kind : Int
  Index : Int
  At : Rat
@[simp] def decisionC (g : TDecision) : List AV := [.lit (.int .i64 (g.Kind)), .lit (.int .i64 (g.Index)), .lit (.bool (rawQ g.At).s), natA (rawQ g.At).l1, natA (rawQ g.At).l2]
@[simp] def decisionV (g : TDecision) : AV := .agg [.lit (.int .i64 (g.Kind)), .lit (.int .i64 (g.Index)), .lit (.bool (rawQ g.At).s), natA (rawQ g.At).l1, natA (rawQ g.At).l2]
@[simp] theorem okE_decisionC (l : List TDecision) : okEls 5 (l.map decisionC) = true := okEls_map (fun x => by simp) l
structure TClaimR where
  Kind : Int
  Target : Int
  Margin : Raw
  Rows : List FormR
@[simp] def claimRC (g : TClaimR) : List AV := [.lit (.int .i64 (g.Kind)), .lit (.int .i64 (g.Target)), .lit (.bool g.Margin.s), natA g.Margin.l1, natA g.Margin.l2, .sl 4 (g.Rows.map formRC)]
@[simp] def claimRV (g : TClaimR) : AV := .agg [.lit (.int .i64 (g.Kind)), .lit (.int .i64 (g.Target)), .lit (.bool g.Margin.s), natA g.Margin.l1, natA g.Margin.l2, .sl 4 (g.Rows.map formRC)]
@[simp] theorem okE_claimRC (l : List TClaimR) : okEls 6 (l.map claimRC) = true := okEls_map (fun x => by simp) l
structure TDecisionR where
  Kind : Int
  Index : Int
  At : Raw
@[simp] def decisionRC (g : TDecisionR) : List AV := [.lit (.int .i64 (g.Kind)), .lit (.int .i64 (g.Index)), .lit (.bool g.At.s), natA g.At.l1, natA g.At.l2]
@[simp] def decisionRV (g : TDecisionR) : AV := .agg [.lit (.int .i64 (g.Kind)), .lit (.int .i64 (g.Index)), .lit (.bool g.At.s), natA g.At.l1, natA g.At.l2]
@[simp] theorem okE_decisionRC (l : List TDecisionR) : okEls 5 (l.map decisionRC) = true := okEls_map (fun x => by simp) l
end Go.Proofs.YtjpoanaoaeaneaaGreatDoor
