import Derived.Test.YtlpmemelhlnfbaaGreatDoorGA4
import Derived.Test.YtlpmemelhlnfbaaGreatDoorQ3
import Derived.Test.YtlpmemelhlnfbaaGreatDoorGA2
set_option linter.all false
set_option maxRecDepth 100000
namespace Go.Proofs.YtlpmemelhlnfbaaGreatDoor
open Go.RowKit
def livesT : List (Nat × List (Nat × List Nat)) := [(25, [(4, [1, 3]), (1000004, [1, 2])]), (28, [(6, [1, 3, 18, 19, 20]), (11, [3, 39, 40, 41]), (1000006, [1, 3]), (1000011, [3])]), (29, [(5, [1, 3, 4]), (9, [1, 3, 5]), (1000005, [1, 3]), (1000009, [3])]), (34, [(6, [6, 9, 25, 26, 27]), (1000006, [9])]), (41, [(4, [1, 32, 33, 34]), (1000004, [1, 2])]), (51, [(2, [1, 2, 5]), (1000002, [2, 4])]), (52, [(4, [1, 3, 4, 11, 12, 13]), (1000004, [1, 3, 4])]), (54, [(3, [1, 3, 4]), (1000003, [1, 3])]), (55, [(4, [2, 3, 5]), (1000004, [4])]), (60, [(2, [1, 2, 8, 9, 10]), (1000002, [2, 4])]), (81, [(4, [1, 5, 6, 7, 8, 16, 17, 18, ph 7 0 84 4, ph 8 1 0 0, ph 8 2 0 0]), (1000004, [5, 6, 7, 8])]), (83, [(3, [1, 5, 8, 9, 10]), (1000003, [5])]), (87, [(3, [2, 3, 4, 5, 6, ph 5 0 84 4]), (1000003, [4, 5])]), (90, [(4, [0, 1, 5]), (1000004, [4])]), (91, [(2, [0, 1, 5]), (1000002, [4])]), (95, [(2, [0, 3]), (7, [0, 3, 4]), (1000002, [2]), (1000007, [0, 2, 3])]), (96, [(4, [2, 4, 5, 23, 24, 25]), (9, [4, 5, 36, 37, 38]), (1000004, [2, 4, 5]), (1000009, [4, 5])]), (97, [(3, [1, 4, 6, 12, 13, 14]), (1000003, [4, 5, 6])]), (105, [(4, [1, 2, 15, 16, 17]), (1000004, [6])]), (106, [(4, [3, 23, 24, 25]), (1000004, [4])]), (115, [(3, [3, 4, 5, 6]), (1000003, [4, 5])]), (127, [(3, [0, 3]), (1000003, [3])]), (138, [(4, [1, 3, 5, 6, 7, 8, 9]), (1000004, [1, 3, 5, 6, 7, 8])]), (154, [(6, [1, 5, 29, 30, 31]), (10, [1, 5, 6, 7, 8, 29, 30, 31, 36, 37, 38]), (1000006, [5]), (1000010, [1, 5, 6, 8, 29, 30, 31])]), (158, [(3, [5, 6, 7, 8, 9, ph 7 0 84 4]), (1000003, [6, 7])]), (176, [(5, [0, 3, 4]), (1000005, [4])]), (182, [(2, [0, 3]), (1000002, [0, 3])]), (183, [(9, [0, 1, 11, 12, 13]), (1000009, [11, 12])]), (191, [(7, [0, 1, 5]), (1000007, [4])]), (198, [(2, [0, 1]), (10, [11, 13]), (1000002, [0, 1]), (1000010, [11])]), (199, [(13, [9, 10, 11, 12, 13]), (1000013, [9, 10, 12])]), (200, [(2, [0, 3]), (1000002, [0, 3])]), (207, [(2, [0, 1, 7, 8]), (1000002, [4])]), (208, [(4, [0, 1, 12, 13]), (1000004, [4])]), (209, [(6, [4, 12, 13, 14]), (1000006, [4])]), (211, [(38, [7, 8, 9]), (1000038, [9])]), (212, [(1, [0, 2, 3]), (1000001, [])]), (213, [(12, [0, 1, 5, 39, 40, 41]), (22, [1, 8, 63, 64, 65]), (1000012, [0, 1, 5]), (1000022, [8])]), (217, [(6, [3, 4]), (1000006, [3])]), (218, [(4, [0, 1, 5, 6, 7]), (1000004, [5, 6])]), (219, [(4, [0, 1, 5, 6, 7]), (1000004, [5, 6])]), (220, [(2, [0, 1, 5]), (1000002, [4])]), (221, [(6, [0, 1, 6, 7, 8]), (1000006, [6])]), (228, [(4, [0, 1, 6, 7, 8]), (1000004, [6, 7])]), (230, [(3, [1, 5, 13, 14, 15]), (1000003, [5])]), (231, [(3, [0, 1, 2, 7, 8, 15, 16, 17]), (17, [0, 1, 2, 7, 70, 71, 72]), (1000003, [0, 1, 2, 7, 8]), (1000017, [0, 1, 2, 7])]), (232, [(4, [0, 1, 5, 7, 8]), (1000004, [7])]), (233, [(9, [0, 1, 6, 30, 31, 32]), (1000009, [6])]), (236, [(1, [0, 1, 4]), (1000001, [0, 1, 4])]), (237, [(11, [0, 1, 3, 4, 10, 11, 12, 13, 14, 15, 16]), (18, [0, 1, 3, 4, 10, 11, 12, 13, 17]), (1000011, [0, 1, 3, 4, 10, 11, 12, 13]), (1000018, [0, 1, 3, 4, 10, 11, 12, 13])])]
def livesOf (f : FuncId) : Nat → List Nat := lv ((livesT.lookup f).getD [])
def modesT : List (Nat × (List Bool × Bool)) := [(69, ([true, false], false)), (70, ([true], false)), (83, ([], true)), (119, ([false, false, true], false)), (120, ([true], false)), (137, ([true, false, false], true)), (146, ([true], false)), (163, ([true, false], true)), (212, ([true], false)), (231, ([true, false, false], false)), (236, ([true, false], false)), (237, ([true, false, false, false, false], true)), (242, ([true, false], false)), (255, ([true, false], false))]
noncomputable def fnOf (f : FuncId) : Func := (Tryz.prog.funcs[f]?).getD default
def keepOf (f : FuncId) : Bool := ((modesT.lookup f).getD ([], false)).2
noncomputable def tab : Nat → FuncId → Option Orc
  | 0, f => orc0 f
  | n + 1, f => match orc0 f with
    | some x => some x
    | none => match plainF Tryz.prog f with
      | true => (match modesT.lookup f with
        | some (ms, k) => some (.lin ms (fnL Tryz.prog (tab n) (livesOf f) big (fnOf f) (keepOf f)))
        | none => some (.pure (fnP Tryz.prog (tab n) (livesOf f) big (fnOf f))))
      | false => none
theorem plain_fn {f : FuncId} (h : plainF Tryz.prog f = true) : Tryz.prog.funcs[f]? = some (fnOf f) := by
  unfold plainF at h
  unfold fnOf
  split at h
  · rename_i fn hf; rw [hf]; rfl
  · cases h
theorem tab_ok : ∀ n, OrcOk Tryz.prog (tab n)
  | 0 => orc0_ok
  | n + 1 => by
    have key : ∀ f x, tab (n + 1) f = some x → (orc0 f = some x) ∨ (plainF Tryz.prog f = true ∧ ((∃ (ms : List Bool) (k : Bool), x = .lin ms (fnL Tryz.prog (tab n) (livesOf f) big (fnOf f) (keepOf f))) ∨ x = .pure (fnP Tryz.prog (tab n) (livesOf f) big (fnOf f)))) := fun f x h => by
      unfold tab at h
      split at h
      · rename_i y hy; cases h; exact .inl hy
      · split at h
        · rename_i hp
          split at h
          · cases h; exact .inr ⟨hp, .inl ⟨_, false, rfl⟩⟩
          · cases h; exact .inr ⟨hp, .inr rfl⟩
        · cases h
    refine ⟨fun f g h => ?_, fun f ms g h => ?_⟩
    · rcases key f _ h with h | ⟨hp, ⟨ms, k, h⟩ | h⟩
      · exact orc0_ok.pure f g h
      · cases h
      · cases h
        exact ⟨hp, fun args r hr => con_of (tab_ok n) mixed (plain_fn hp) (body_some hp (plain_fn hp)) hr⟩
    · rcases key f _ h with h | ⟨hp, ⟨ms, k, h⟩ | h⟩
      · exact orc0_ok.lin f ms g h
      · cases h
        exact ⟨hp, fun bin args r outs hr => conL_of (tab_ok n) mixed (plain_fn hp) (body_some hp (plain_fn hp)) hr⟩
      · cases h
noncomputable def run (n : Nat) (f : FuncId) (args : List AV) : Option AV := fnP Tryz.prog (tab n) (livesOf f) big (fnOf f) args
noncomputable def runL (n : Nat) (f : FuncId) (args : List AV) (bin : List AB) : Option (AV × List (Nat × AB)) := fnL Tryz.prog (tab n) (livesOf f) big (fnOf f) (keepOf f) args bin
theorem tab_pure {n : Nat} {f : FuncId} (h0 : orc0 f = none) (hp : plainF Tryz.prog f = true) (hm : modesT.lookup f = none) : tab (n + 1) f = some (.pure (run n f)) := by
  unfold tab
  rw [h0]
  simp only [hp, hm]
  rfl
theorem tab_lin {n : Nat} {f : FuncId} {ms : List Bool} {k : Bool} (h0 : orc0 f = none) (hp : plainF Tryz.prog f = true) (hm : modesT.lookup f = some (ms, k)) : tab (n + 1) f = some (.lin ms (runL n f)) := by
  unfold tab
  rw [h0]
  simp only [hp, hm]
  rfl
theorem tab_num {f : FuncId} {x : Orc} (h : orc0 f = some x) : ∀ n, tab n f = some x
  | 0 => h
  | n + 1 => by unfold tab; rw [h]
@[simp] theorem fn_8 : fnOf 8 = Tryz.f8 := by kernel_rfl
@[simp] theorem tb_8 (n : Nat) : tab (n + 1) 8 = some (.pure (run n 8)) := tab_pure (by kernel_rfl) (by kernel_rfl) (by kernel_rfl)
@[simp] theorem fn_18 : fnOf 18 = Tryz.f18 := by kernel_rfl
@[simp] theorem tb_18 (n : Nat) : tab (n + 1) 18 = some (.pure (run n 18)) := tab_pure (by kernel_rfl) (by kernel_rfl) (by kernel_rfl)
@[simp] theorem fn_19 : fnOf 19 = Tryz.f19 := by kernel_rfl
@[simp] theorem tb_19 (n : Nat) : tab (n + 1) 19 = some (.pure (run n 19)) := tab_pure (by kernel_rfl) (by kernel_rfl) (by kernel_rfl)
@[simp] theorem fn_21 : fnOf 21 = Tryz.f21 := by kernel_rfl
@[simp] theorem tb_21 (n : Nat) : tab (n + 1) 21 = some (.pure (run n 21)) := tab_pure (by kernel_rfl) (by kernel_rfl) (by kernel_rfl)
@[simp] theorem fn_22 : fnOf 22 = Tryz.f22 := by kernel_rfl
@[simp] theorem tb_22 (n : Nat) : tab (n + 1) 22 = some (.pure (run n 22)) := tab_pure (by kernel_rfl) (by kernel_rfl) (by kernel_rfl)
@[simp] theorem fn_24 : fnOf 24 = Tryz.f24 := by kernel_rfl
@[simp] theorem tb_24 (n : Nat) : tab (n + 1) 24 = some (.pure (run n 24)) := tab_pure (by kernel_rfl) (by kernel_rfl) (by kernel_rfl)
@[simp] theorem fn_25 : fnOf 25 = Tryz.f25 := by kernel_rfl
@[simp] theorem lv_25_4 : livesOf 25 4 = [1, 3] := by kernel_rfl
@[simp] theorem lv_25_1000004 : livesOf 25 1000004 = [1, 2] := by kernel_rfl
@[simp] theorem tb_25 (n : Nat) : tab (n + 1) 25 = some (.pure (run n 25)) := tab_pure (by kernel_rfl) (by kernel_rfl) (by kernel_rfl)
@[simp] theorem fn_28 : fnOf 28 = Tryz.f28 := by kernel_rfl
@[simp] theorem lv_28_6 : livesOf 28 6 = [1, 3, 18, 19, 20] := by kernel_rfl
@[simp] theorem lv_28_11 : livesOf 28 11 = [3, 39, 40, 41] := by kernel_rfl
@[simp] theorem lv_28_1000006 : livesOf 28 1000006 = [1, 3] := by kernel_rfl
@[simp] theorem lv_28_1000011 : livesOf 28 1000011 = [3] := by kernel_rfl
@[simp] theorem tb_28 (n : Nat) : tab (n + 1) 28 = some (.pure (run n 28)) := tab_pure (by kernel_rfl) (by kernel_rfl) (by kernel_rfl)
@[simp] theorem fn_29 : fnOf 29 = Tryz.f29 := by kernel_rfl
@[simp] theorem lv_29_5 : livesOf 29 5 = [1, 3, 4] := by kernel_rfl
@[simp] theorem lv_29_9 : livesOf 29 9 = [1, 3, 5] := by kernel_rfl
@[simp] theorem lv_29_1000005 : livesOf 29 1000005 = [1, 3] := by kernel_rfl
@[simp] theorem lv_29_1000009 : livesOf 29 1000009 = [3] := by kernel_rfl
@[simp] theorem tb_29 (n : Nat) : tab (n + 1) 29 = some (.pure (run n 29)) := tab_pure (by kernel_rfl) (by kernel_rfl) (by kernel_rfl)
@[simp] theorem fn_30 : fnOf 30 = Tryz.f30 := by kernel_rfl
@[simp] theorem tb_30 (n : Nat) : tab (n + 1) 30 = some (.pure (run n 30)) := tab_pure (by kernel_rfl) (by kernel_rfl) (by kernel_rfl)
@[simp] theorem fn_34 : fnOf 34 = Tryz.f34 := by kernel_rfl
@[simp] theorem lv_34_6 : livesOf 34 6 = [6, 9, 25, 26, 27] := by kernel_rfl
@[simp] theorem lv_34_1000006 : livesOf 34 1000006 = [9] := by kernel_rfl
@[simp] theorem tb_34 (n : Nat) : tab (n + 1) 34 = some (.pure (run n 34)) := tab_pure (by kernel_rfl) (by kernel_rfl) (by kernel_rfl)
@[simp] theorem fn_41 : fnOf 41 = Tryz.f41 := by kernel_rfl
@[simp] theorem lv_41_4 : livesOf 41 4 = [1, 32, 33, 34] := by kernel_rfl
@[simp] theorem lv_41_1000004 : livesOf 41 1000004 = [1, 2] := by kernel_rfl
@[simp] theorem tb_41 (n : Nat) : tab (n + 1) 41 = some (.pure (run n 41)) := tab_pure (by kernel_rfl) (by kernel_rfl) (by kernel_rfl)
@[simp] theorem fn_42 : fnOf 42 = Tryz.f42 := by kernel_rfl
@[simp] theorem tb_42 (n : Nat) : tab (n + 1) 42 = some (.pure (run n 42)) := tab_pure (by kernel_rfl) (by kernel_rfl) (by kernel_rfl)
@[simp] theorem fn_43 : fnOf 43 = Tryz.f43 := by kernel_rfl
@[simp] theorem tb_43 (n : Nat) : tab (n + 1) 43 = some (.pure (run n 43)) := tab_pure (by kernel_rfl) (by kernel_rfl) (by kernel_rfl)
@[simp] theorem fn_44 : fnOf 44 = Tryz.f44 := by kernel_rfl
@[simp] theorem tb_44 (n : Nat) : tab (n + 1) 44 = some (.pure (run n 44)) := tab_pure (by kernel_rfl) (by kernel_rfl) (by kernel_rfl)
@[simp] theorem fn_51 : fnOf 51 = Tryz.f51 := by kernel_rfl
@[simp] theorem lv_51_2 : livesOf 51 2 = [1, 2, 5] := by kernel_rfl
@[simp] theorem lv_51_1000002 : livesOf 51 1000002 = [2, 4] := by kernel_rfl
@[simp] theorem tb_51 (n : Nat) : tab (n + 1) 51 = some (.pure (run n 51)) := tab_pure (by kernel_rfl) (by kernel_rfl) (by kernel_rfl)
@[simp] theorem fn_52 : fnOf 52 = Tryz.f52 := by kernel_rfl
@[simp] theorem lv_52_4 : livesOf 52 4 = [1, 3, 4, 11, 12, 13] := by kernel_rfl
@[simp] theorem lv_52_1000004 : livesOf 52 1000004 = [1, 3, 4] := by kernel_rfl
@[simp] theorem tb_52 (n : Nat) : tab (n + 1) 52 = some (.pure (run n 52)) := tab_pure (by kernel_rfl) (by kernel_rfl) (by kernel_rfl)
@[simp] theorem fn_54 : fnOf 54 = Tryz.f54 := by kernel_rfl
@[simp] theorem lv_54_3 : livesOf 54 3 = [1, 3, 4] := by kernel_rfl
@[simp] theorem lv_54_1000003 : livesOf 54 1000003 = [1, 3] := by kernel_rfl
@[simp] theorem tb_54 (n : Nat) : tab (n + 1) 54 = some (.pure (run n 54)) := tab_pure (by kernel_rfl) (by kernel_rfl) (by kernel_rfl)
@[simp] theorem fn_55 : fnOf 55 = Tryz.f55 := by kernel_rfl
@[simp] theorem lv_55_4 : livesOf 55 4 = [2, 3, 5] := by kernel_rfl
@[simp] theorem lv_55_1000004 : livesOf 55 1000004 = [4] := by kernel_rfl
@[simp] theorem tb_55 (n : Nat) : tab (n + 1) 55 = some (.pure (run n 55)) := tab_pure (by kernel_rfl) (by kernel_rfl) (by kernel_rfl)
@[simp] theorem fn_60 : fnOf 60 = Tryz.f60 := by kernel_rfl
@[simp] theorem lv_60_2 : livesOf 60 2 = [1, 2, 8, 9, 10] := by kernel_rfl
@[simp] theorem lv_60_1000002 : livesOf 60 1000002 = [2, 4] := by kernel_rfl
@[simp] theorem tb_60 (n : Nat) : tab (n + 1) 60 = some (.pure (run n 60)) := tab_pure (by kernel_rfl) (by kernel_rfl) (by kernel_rfl)
@[simp] theorem fn_69 : fnOf 69 = Tryz.f69 := by kernel_rfl
@[simp] theorem tb_69 (n : Nat) : tab (n + 1) 69 = some (.lin [true, false] (runL n 69)) := tab_lin (k := false) (by kernel_rfl) (by kernel_rfl) (by kernel_rfl)
@[simp] theorem kp_69 : keepOf 69 = false := by kernel_rfl
@[simp] theorem fn_70 : fnOf 70 = Tryz.f70 := by kernel_rfl
@[simp] theorem tb_70 (n : Nat) : tab (n + 1) 70 = some (.lin [true] (runL n 70)) := tab_lin (k := false) (by kernel_rfl) (by kernel_rfl) (by kernel_rfl)
@[simp] theorem kp_70 : keepOf 70 = false := by kernel_rfl
@[simp] theorem fn_72 : fnOf 72 = Tryz.f72 := by kernel_rfl
@[simp] theorem tb_72 (n : Nat) : tab (n + 1) 72 = some (.pure (run n 72)) := tab_pure (by kernel_rfl) (by kernel_rfl) (by kernel_rfl)
@[simp] theorem fn_76 : fnOf 76 = Tryz.f76 := by kernel_rfl
@[simp] theorem tb_76 (n : Nat) : tab (n + 1) 76 = some (.pure (run n 76)) := tab_pure (by kernel_rfl) (by kernel_rfl) (by kernel_rfl)
@[simp] theorem fn_78 : fnOf 78 = Tryz.f78 := by kernel_rfl
@[simp] theorem tb_78 (n : Nat) : tab (n + 1) 78 = some (.pure (run n 78)) := tab_pure (by kernel_rfl) (by kernel_rfl) (by kernel_rfl)
@[simp] theorem fn_80 : fnOf 80 = Tryz.f80 := by kernel_rfl
@[simp] theorem tb_80 (n : Nat) : tab (n + 1) 80 = some (.pure (run n 80)) := tab_pure (by kernel_rfl) (by kernel_rfl) (by kernel_rfl)
@[simp] theorem fn_81 : fnOf 81 = Tryz.f81 := by kernel_rfl
@[simp] theorem lv_81_4 : livesOf 81 4 = [1, 5, 6, 7, 8, 16, 17, 18, ph 7 0 84 4, ph 8 1 0 0, ph 8 2 0 0] := by kernel_rfl
@[simp] theorem lv_81_1000004 : livesOf 81 1000004 = [5, 6, 7, 8] := by kernel_rfl
@[simp] theorem tb_81 (n : Nat) : tab (n + 1) 81 = some (.pure (run n 81)) := tab_pure (by kernel_rfl) (by kernel_rfl) (by kernel_rfl)
@[simp] theorem fn_82 : fnOf 82 = Tryz.f82 := by kernel_rfl
@[simp] theorem tb_82 (n : Nat) : tab (n + 1) 82 = some (.pure (run n 82)) := tab_pure (by kernel_rfl) (by kernel_rfl) (by kernel_rfl)
@[simp] theorem fn_83 : fnOf 83 = Tryz.f83 := by kernel_rfl
@[simp] theorem lv_83_3 : livesOf 83 3 = [1, 5, 8, 9, 10] := by kernel_rfl
@[simp] theorem lv_83_1000003 : livesOf 83 1000003 = [5] := by kernel_rfl
@[simp] theorem tb_83 (n : Nat) : tab (n + 1) 83 = some (.lin [] (runL n 83)) := tab_lin (k := true) (by kernel_rfl) (by kernel_rfl) (by kernel_rfl)
@[simp] theorem kp_83 : keepOf 83 = true := by kernel_rfl
@[simp] theorem fn_84 : fnOf 84 = Tryz.f84 := by kernel_rfl
@[simp] theorem tb_84 (n : Nat) : tab (n + 1) 84 = some (.pure (run n 84)) := tab_pure (by kernel_rfl) (by kernel_rfl) (by kernel_rfl)
@[simp] theorem fn_87 : fnOf 87 = Tryz.f87 := by kernel_rfl
@[simp] theorem lv_87_3 : livesOf 87 3 = [2, 3, 4, 5, 6, ph 5 0 84 4] := by kernel_rfl
@[simp] theorem lv_87_1000003 : livesOf 87 1000003 = [4, 5] := by kernel_rfl
@[simp] theorem tb_87 (n : Nat) : tab (n + 1) 87 = some (.pure (run n 87)) := tab_pure (by kernel_rfl) (by kernel_rfl) (by kernel_rfl)
@[simp] theorem fn_88 : fnOf 88 = Tryz.f88 := by kernel_rfl
@[simp] theorem tb_88 (n : Nat) : tab (n + 1) 88 = some (.pure (run n 88)) := tab_pure (by kernel_rfl) (by kernel_rfl) (by kernel_rfl)
@[simp] theorem fn_90 : fnOf 90 = Tryz.f90 := by kernel_rfl
@[simp] theorem lv_90_4 : livesOf 90 4 = [0, 1, 5] := by kernel_rfl
@[simp] theorem lv_90_1000004 : livesOf 90 1000004 = [4] := by kernel_rfl
@[simp] theorem tb_90 (n : Nat) : tab (n + 1) 90 = some (.pure (run n 90)) := tab_pure (by kernel_rfl) (by kernel_rfl) (by kernel_rfl)
@[simp] theorem fn_91 : fnOf 91 = Tryz.f91 := by kernel_rfl
@[simp] theorem lv_91_2 : livesOf 91 2 = [0, 1, 5] := by kernel_rfl
@[simp] theorem lv_91_1000002 : livesOf 91 1000002 = [4] := by kernel_rfl
@[simp] theorem tb_91 (n : Nat) : tab (n + 1) 91 = some (.pure (run n 91)) := tab_pure (by kernel_rfl) (by kernel_rfl) (by kernel_rfl)
@[simp] theorem fn_93 : fnOf 93 = Tryz.f93 := by kernel_rfl
@[simp] theorem tb_93 (n : Nat) : tab (n + 1) 93 = some (.pure (oItoa)) := tab_num rfl _
@[simp] theorem fn_94 : fnOf 94 = Tryz.f94 := by kernel_rfl
@[simp] theorem tb_94 (n : Nat) : tab (n + 1) 94 = some (.pure (run n 94)) := tab_pure (by kernel_rfl) (by kernel_rfl) (by kernel_rfl)
@[simp] theorem fn_95 : fnOf 95 = Tryz.f95 := by kernel_rfl
@[simp] theorem lv_95_2 : livesOf 95 2 = [0, 3] := by kernel_rfl
@[simp] theorem lv_95_7 : livesOf 95 7 = [0, 3, 4] := by kernel_rfl
@[simp] theorem lv_95_1000002 : livesOf 95 1000002 = [2] := by kernel_rfl
@[simp] theorem lv_95_1000007 : livesOf 95 1000007 = [0, 2, 3] := by kernel_rfl
@[simp] theorem tb_95 (n : Nat) : tab (n + 1) 95 = some (.pure (run n 95)) := tab_pure (by kernel_rfl) (by kernel_rfl) (by kernel_rfl)
@[simp] theorem fn_96 : fnOf 96 = Tryz.f96 := by kernel_rfl
@[simp] theorem lv_96_4 : livesOf 96 4 = [2, 4, 5, 23, 24, 25] := by kernel_rfl
@[simp] theorem lv_96_9 : livesOf 96 9 = [4, 5, 36, 37, 38] := by kernel_rfl
@[simp] theorem lv_96_1000004 : livesOf 96 1000004 = [2, 4, 5] := by kernel_rfl
@[simp] theorem lv_96_1000009 : livesOf 96 1000009 = [4, 5] := by kernel_rfl
@[simp] theorem tb_96 (n : Nat) : tab (n + 1) 96 = some (.pure (run n 96)) := tab_pure (by kernel_rfl) (by kernel_rfl) (by kernel_rfl)
@[simp] theorem fn_97 : fnOf 97 = Tryz.f97 := by kernel_rfl
@[simp] theorem lv_97_3 : livesOf 97 3 = [1, 4, 6, 12, 13, 14] := by kernel_rfl
@[simp] theorem lv_97_1000003 : livesOf 97 1000003 = [4, 5, 6] := by kernel_rfl
@[simp] theorem tb_97 (n : Nat) : tab (n + 1) 97 = some (.pure (run n 97)) := tab_pure (by kernel_rfl) (by kernel_rfl) (by kernel_rfl)
@[simp] theorem fn_104 : fnOf 104 = Tryz.f104 := by kernel_rfl
@[simp] theorem tb_104 (n : Nat) : tab (n + 1) 104 = some (.pure (run n 104)) := tab_pure (by kernel_rfl) (by kernel_rfl) (by kernel_rfl)
@[simp] theorem fn_105 : fnOf 105 = Tryz.f105 := by kernel_rfl
@[simp] theorem lv_105_4 : livesOf 105 4 = [1, 2, 15, 16, 17] := by kernel_rfl
@[simp] theorem lv_105_1000004 : livesOf 105 1000004 = [6] := by kernel_rfl
@[simp] theorem tb_105 (n : Nat) : tab (n + 1) 105 = some (.pure (run n 105)) := tab_pure (by kernel_rfl) (by kernel_rfl) (by kernel_rfl)
@[simp] theorem fn_106 : fnOf 106 = Tryz.f106 := by kernel_rfl
@[simp] theorem lv_106_4 : livesOf 106 4 = [3, 23, 24, 25] := by kernel_rfl
@[simp] theorem lv_106_1000004 : livesOf 106 1000004 = [4] := by kernel_rfl
@[simp] theorem tb_106 (n : Nat) : tab (n + 1) 106 = some (.pure (run n 106)) := tab_pure (by kernel_rfl) (by kernel_rfl) (by kernel_rfl)
@[simp] theorem fn_115 : fnOf 115 = Tryz.f115 := by kernel_rfl
@[simp] theorem lv_115_3 : livesOf 115 3 = [3, 4, 5, 6] := by kernel_rfl
@[simp] theorem lv_115_1000003 : livesOf 115 1000003 = [4, 5] := by kernel_rfl
@[simp] theorem tb_115 (n : Nat) : tab (n + 1) 115 = some (.pure (run n 115)) := tab_pure (by kernel_rfl) (by kernel_rfl) (by kernel_rfl)
@[simp] theorem fn_119 : fnOf 119 = Tryz.f119 := by kernel_rfl
@[simp] theorem tb_119 (n : Nat) : tab (n + 1) 119 = some (.lin [false, false, true] (runL n 119)) := tab_lin (k := false) (by kernel_rfl) (by kernel_rfl) (by kernel_rfl)
@[simp] theorem kp_119 : keepOf 119 = false := by kernel_rfl
@[simp] theorem fn_120 : fnOf 120 = Tryz.f120 := by kernel_rfl
@[simp] theorem tb_120 (n : Nat) : tab (n + 1) 120 = some (.lin [true] (runL n 120)) := tab_lin (k := false) (by kernel_rfl) (by kernel_rfl) (by kernel_rfl)
@[simp] theorem kp_120 : keepOf 120 = false := by kernel_rfl
@[simp] theorem fn_121 : fnOf 121 = Tryz.f121 := by kernel_rfl
@[simp] theorem tb_121 (n : Nat) : tab (n + 1) 121 = some (.pure (run n 121)) := tab_pure (by kernel_rfl) (by kernel_rfl) (by kernel_rfl)
@[simp] theorem fn_125 : fnOf 125 = Tryz.f125 := by kernel_rfl
@[simp] theorem tb_125 (n : Nat) : tab (n + 1) 125 = some (.pure (run n 125)) := tab_pure (by kernel_rfl) (by kernel_rfl) (by kernel_rfl)
@[simp] theorem fn_126 : fnOf 126 = Tryz.f126 := by kernel_rfl
@[simp] theorem tb_126 (n : Nat) : tab (n + 1) 126 = some (.pure (run n 126)) := tab_pure (by kernel_rfl) (by kernel_rfl) (by kernel_rfl)
@[simp] theorem fn_127 : fnOf 127 = Tryz.f127 := by kernel_rfl
@[simp] theorem lv_127_3 : livesOf 127 3 = [0, 3] := by kernel_rfl
@[simp] theorem lv_127_1000003 : livesOf 127 1000003 = [3] := by kernel_rfl
@[simp] theorem tb_127 (n : Nat) : tab (n + 1) 127 = some (.pure (run n 127)) := tab_pure (by kernel_rfl) (by kernel_rfl) (by kernel_rfl)
@[simp] theorem fn_128 : fnOf 128 = Tryz.f128 := by kernel_rfl
@[simp] theorem tb_128 (n : Nat) : tab (n + 1) 128 = some (.pure (oU fun k => natA (lmb k))) := tab_num rfl _
@[simp] theorem fn_137 : fnOf 137 = Tryz.f137 := by kernel_rfl
@[simp] theorem tb_137 (n : Nat) : tab (n + 1) 137 = some (.lin [true, false, false] (runL n 137)) := tab_lin (k := true) (by kernel_rfl) (by kernel_rfl) (by kernel_rfl)
@[simp] theorem kp_137 : keepOf 137 = true := by kernel_rfl
@[simp] theorem fn_138 : fnOf 138 = Tryz.f138 := by kernel_rfl
@[simp] theorem lv_138_4 : livesOf 138 4 = [1, 3, 5, 6, 7, 8, 9] := by kernel_rfl
@[simp] theorem lv_138_1000004 : livesOf 138 1000004 = [1, 3, 5, 6, 7, 8] := by kernel_rfl
@[simp] theorem tb_138 (n : Nat) : tab (n + 1) 138 = some (.pure (run n 138)) := tab_pure (by kernel_rfl) (by kernel_rfl) (by kernel_rfl)
@[simp] theorem fn_146 : fnOf 146 = Tryz.f146 := by kernel_rfl
@[simp] theorem tb_146 (n : Nat) : tab (n + 1) 146 = some (.lin [true] ccG) := tab_num rfl _
@[simp] theorem fn_147 : fnOf 147 = Tryz.f147 := by kernel_rfl
@[simp] theorem tb_147 (n : Nat) : tab (n + 1) 147 = some (.pure (run n 147)) := tab_pure (by kernel_rfl) (by kernel_rfl) (by kernel_rfl)
@[simp] theorem fn_153 : fnOf 153 = Tryz.f153 := by kernel_rfl
@[simp] theorem tb_153 (n : Nat) : tab (n + 1) 153 = some (.pure (oQt)) := tab_num rfl _
@[simp] theorem fn_154 : fnOf 154 = Tryz.f154 := by kernel_rfl
@[simp] theorem lv_154_6 : livesOf 154 6 = [1, 5, 29, 30, 31] := by kernel_rfl
@[simp] theorem lv_154_10 : livesOf 154 10 = [1, 5, 6, 7, 8, 29, 30, 31, 36, 37, 38] := by kernel_rfl
@[simp] theorem lv_154_1000006 : livesOf 154 1000006 = [5] := by kernel_rfl
@[simp] theorem lv_154_1000010 : livesOf 154 1000010 = [1, 5, 6, 8, 29, 30, 31] := by kernel_rfl
@[simp] theorem tb_154 (n : Nat) : tab (n + 1) 154 = some (.pure (oN2 fun x y => natA (lmb (val x * val y)))) := tab_num rfl _
@[simp] theorem fn_155 : fnOf 155 = Tryz.f155 := by kernel_rfl
@[simp] theorem tb_155 (n : Nat) : tab (n + 1) 155 = some (.pure (o1 fun x => natA (unL x.l2))) := tab_num rfl _
@[simp] theorem fn_158 : fnOf 158 = Tryz.f158 := by kernel_rfl
@[simp] theorem lv_158_3 : livesOf 158 3 = [5, 6, 7, 8, 9, ph 7 0 84 4] := by kernel_rfl
@[simp] theorem lv_158_1000003 : livesOf 158 1000003 = [6, 7] := by kernel_rfl
@[simp] theorem tb_158 (n : Nat) : tab (n + 1) 158 = some (.pure (run n 158)) := tab_pure (by kernel_rfl) (by kernel_rfl) (by kernel_rfl)
@[simp] theorem fn_163 : fnOf 163 = Tryz.f163 := by kernel_rfl
@[simp] theorem tb_163 (n : Nat) : tab (n + 1) 163 = some (.lin [true, false] (runL n 163)) := tab_lin (k := true) (by kernel_rfl) (by kernel_rfl) (by kernel_rfl)
@[simp] theorem kp_163 : keepOf 163 = true := by kernel_rfl
@[simp] theorem fn_164 : fnOf 164 = Tryz.f164 := by kernel_rfl
@[simp] theorem tb_164 (n : Nat) : tab (n + 1) 164 = some (.pure (run n 164)) := tab_pure (by kernel_rfl) (by kernel_rfl) (by kernel_rfl)
@[simp] theorem fn_165 : fnOf 165 = Tryz.f165 := by kernel_rfl
@[simp] theorem tb_165 (n : Nat) : tab (n + 1) 165 = some (.pure (run n 165)) := tab_pure (by kernel_rfl) (by kernel_rfl) (by kernel_rfl)
@[simp] theorem fn_170 : fnOf 170 = Tryz.f170 := by kernel_rfl
@[simp] theorem tb_170 (n : Nat) : tab (n + 1) 170 = some (.pure (run n 170)) := tab_pure (by kernel_rfl) (by kernel_rfl) (by kernel_rfl)
@[simp] theorem fn_171 : fnOf 171 = Tryz.f171 := by kernel_rfl
@[simp] theorem tb_171 (n : Nat) : tab (n + 1) 171 = some (.pure (run n 171)) := tab_pure (by kernel_rfl) (by kernel_rfl) (by kernel_rfl)
@[simp] theorem fn_172 : fnOf 172 = Tryz.f172 := by kernel_rfl
@[simp] theorem tb_172 (n : Nat) : tab (n + 1) 172 = some (.pure (run n 172)) := tab_pure (by kernel_rfl) (by kernel_rfl) (by kernel_rfl)
@[simp] theorem fn_176 : fnOf 176 = Tryz.f176 := by kernel_rfl
@[simp] theorem lv_176_5 : livesOf 176 5 = [0, 3, 4] := by kernel_rfl
@[simp] theorem lv_176_1000005 : livesOf 176 1000005 = [4] := by kernel_rfl
@[simp] theorem tb_176 (n : Nat) : tab (n + 1) 176 = some (.pure (run n 176)) := tab_pure (by kernel_rfl) (by kernel_rfl) (by kernel_rfl)
@[simp] theorem fn_178 : fnOf 178 = Tryz.f178 := by kernel_rfl
@[simp] theorem tb_178 (n : Nat) : tab (n + 1) 178 = some (.pure (oU fun k => natA (lmb k))) := tab_num rfl _
@[simp] theorem fn_182 : fnOf 182 = Tryz.f182 := by kernel_rfl
@[simp] theorem lv_182_2 : livesOf 182 2 = [0, 3] := by kernel_rfl
@[simp] theorem lv_182_1000002 : livesOf 182 1000002 = [0, 3] := by kernel_rfl
@[simp] theorem tb_182 (n : Nat) : tab (n + 1) 182 = some (.pure (oN1 (fun _ => true) fun x => natA (lmb (val x)))) := tab_num rfl _
@[simp] theorem fn_183 : fnOf 183 = Tryz.f183 := by kernel_rfl
@[simp] theorem lv_183_9 : livesOf 183 9 = [0, 1, 11, 12, 13] := by kernel_rfl
@[simp] theorem lv_183_1000009 : livesOf 183 1000009 = [11, 12] := by kernel_rfl
@[simp] theorem tb_183 (n : Nat) : tab (n + 1) 183 = some (.pure (oND fun x y => .tup [natA (lmb (val x / val y)), natA (lmb (val x % val y)), .lit (.int .i64 0)])) := tab_num rfl _
@[simp] theorem fn_184 : fnOf 184 = Tryz.f184 := by kernel_rfl
@[simp] theorem tb_184 (n : Nat) : tab (n + 1) 184 = some (.pure (oN1 u64N fun x => .tup [.lit (.int .u64 (val x : Nat)), .lit (.bool true)])) := tab_num rfl _
@[simp] theorem fn_191 : fnOf 191 = Tryz.f191 := by kernel_rfl
@[simp] theorem lv_191_7 : livesOf 191 7 = [0, 1, 5] := by kernel_rfl
@[simp] theorem lv_191_1000007 : livesOf 191 1000007 = [4] := by kernel_rfl
@[simp] theorem tb_191 (n : Nat) : tab (n + 1) 191 = some (.pure (run n 191)) := tab_pure (by kernel_rfl) (by kernel_rfl) (by kernel_rfl)
@[simp] theorem fn_194 : fnOf 194 = Tryz.f194 := by kernel_rfl
@[simp] theorem tb_194 (n : Nat) : tab (n + 1) 194 = some (.pure (run n 194)) := tab_pure (by kernel_rfl) (by kernel_rfl) (by kernel_rfl)
@[simp] theorem fn_196 : fnOf 196 = Tryz.f196 := by kernel_rfl
@[simp] theorem tb_196 (n : Nat) : tab (n + 1) 196 = some (.pure (oN1 (fun _ => true) fun x => natA (lmb (val x)))) := tab_num rfl _
@[simp] theorem fn_197 : fnOf 197 = Tryz.f197 := by kernel_rfl
@[simp] theorem tb_197 (n : Nat) : tab (n + 1) 197 = some (.pure (run n 197)) := tab_pure (by kernel_rfl) (by kernel_rfl) (by kernel_rfl)
@[simp] theorem fn_198 : fnOf 198 = Tryz.f198 := by kernel_rfl
@[simp] theorem lv_198_2 : livesOf 198 2 = [0, 1] := by kernel_rfl
@[simp] theorem lv_198_10 : livesOf 198 10 = [11, 13] := by kernel_rfl
@[simp] theorem lv_198_1000002 : livesOf 198 1000002 = [0, 1] := by kernel_rfl
@[simp] theorem lv_198_1000010 : livesOf 198 1000010 = [11] := by kernel_rfl
@[simp] theorem tb_198 (n : Nat) : tab (n + 1) 198 = some (.pure (run n 198)) := tab_pure (by kernel_rfl) (by kernel_rfl) (by kernel_rfl)
@[simp] theorem fn_199 : fnOf 199 = Tryz.f199 := by kernel_rfl
@[simp] theorem lv_199_13 : livesOf 199 13 = [9, 10, 11, 12, 13] := by kernel_rfl
@[simp] theorem lv_199_1000013 : livesOf 199 1000013 = [9, 10, 12] := by kernel_rfl
@[simp] theorem tb_199 (n : Nat) : tab (n + 1) 199 = some (.pure (oND fun x y => .tup [natA (lmb (val x / val y)), natA (lmb (val x % val y)), .lit (.int .i64 0)])) := tab_num rfl _
@[simp] theorem fn_200 : fnOf 200 = Tryz.f200 := by kernel_rfl
@[simp] theorem lv_200_2 : livesOf 200 2 = [0, 3] := by kernel_rfl
@[simp] theorem lv_200_1000002 : livesOf 200 1000002 = [0, 3] := by kernel_rfl
@[simp] theorem tb_200 (n : Nat) : tab (n + 1) 200 = some (.pure (run n 200)) := tab_pure (by kernel_rfl) (by kernel_rfl) (by kernel_rfl)
@[simp] theorem fn_201 : fnOf 201 = Tryz.f201 := by kernel_rfl
@[simp] theorem tb_201 (n : Nat) : tab (n + 1) 201 = some (.pure (run n 201)) := tab_pure (by kernel_rfl) (by kernel_rfl) (by kernel_rfl)
@[simp] theorem fn_203 : fnOf 203 = Tryz.f203 := by kernel_rfl
@[simp] theorem tb_203 (n : Nat) : tab (n + 1) 203 = some (.pure (run n 203)) := tab_pure (by kernel_rfl) (by kernel_rfl) (by kernel_rfl)
@[simp] theorem fn_204 : fnOf 204 = Tryz.f204 := by kernel_rfl
@[simp] theorem tb_204 (n : Nat) : tab (n + 1) 204 = some (.pure (run n 204)) := tab_pure (by kernel_rfl) (by kernel_rfl) (by kernel_rfl)
@[simp] theorem fn_207 : fnOf 207 = Tryz.f207 := by kernel_rfl
@[simp] theorem lv_207_2 : livesOf 207 2 = [0, 1, 7, 8] := by kernel_rfl
@[simp] theorem lv_207_1000002 : livesOf 207 1000002 = [4] := by kernel_rfl
@[simp] theorem tb_207 (n : Nat) : tab (n + 1) 207 = some (.pure (run n 207)) := tab_pure (by kernel_rfl) (by kernel_rfl) (by kernel_rfl)
@[simp] theorem fn_208 : fnOf 208 = Tryz.f208 := by kernel_rfl
@[simp] theorem lv_208_4 : livesOf 208 4 = [0, 1, 12, 13] := by kernel_rfl
@[simp] theorem lv_208_1000004 : livesOf 208 1000004 = [4] := by kernel_rfl
@[simp] theorem tb_208 (n : Nat) : tab (n + 1) 208 = some (.pure (run n 208)) := tab_pure (by kernel_rfl) (by kernel_rfl) (by kernel_rfl)
@[simp] theorem fn_209 : fnOf 209 = Tryz.f209 := by kernel_rfl
@[simp] theorem lv_209_6 : livesOf 209 6 = [4, 12, 13, 14] := by kernel_rfl
@[simp] theorem lv_209_1000006 : livesOf 209 1000006 = [4] := by kernel_rfl
@[simp] theorem tb_209 (n : Nat) : tab (n + 1) 209 = some (.pure (oN1 u64N fun x => .tup [.lit (.int .u64 (val x : Nat)), .lit (.bool true)])) := tab_num rfl _
@[simp] theorem fn_210 : fnOf 210 = Tryz.f210 := by kernel_rfl
@[simp] theorem tb_210 (n : Nat) : tab (n + 1) 210 = some (.pure (oFU)) := tab_num rfl _
@[simp] theorem fn_211 : fnOf 211 = Tryz.f211 := by kernel_rfl
@[simp] theorem lv_211_38 : livesOf 211 38 = [7, 8, 9] := by kernel_rfl
@[simp] theorem lv_211_1000038 : livesOf 211 1000038 = [9] := by kernel_rfl
@[simp] theorem tb_211 (n : Nat) : tab (n + 1) 211 = some (.pure (oRepeat)) := tab_num rfl _
@[simp] theorem fn_212 : fnOf 212 = Tryz.f212 := by kernel_rfl
@[simp] theorem lv_212_1 : livesOf 212 1 = [0, 2, 3] := by kernel_rfl
@[simp] theorem lv_212_1000001 : livesOf 212 1000001 = [] := by kernel_rfl
@[simp] theorem tb_212 (n : Nat) : tab (n + 1) 212 = some (.lin [true] (runL n 212)) := tab_lin (k := false) (by kernel_rfl) (by kernel_rfl) (by kernel_rfl)
@[simp] theorem kp_212 : keepOf 212 = false := by kernel_rfl
@[simp] theorem fn_213 : fnOf 213 = Tryz.f213 := by kernel_rfl
@[simp] theorem lv_213_12 : livesOf 213 12 = [0, 1, 5, 39, 40, 41] := by kernel_rfl
@[simp] theorem lv_213_22 : livesOf 213 22 = [1, 8, 63, 64, 65] := by kernel_rfl
@[simp] theorem lv_213_1000012 : livesOf 213 1000012 = [0, 1, 5] := by kernel_rfl
@[simp] theorem lv_213_1000022 : livesOf 213 1000022 = [8] := by kernel_rfl
@[simp] theorem tb_213 (n : Nat) : tab (n + 1) 213 = some (.pure (oJoin)) := tab_num rfl _
@[simp] theorem fn_217 : fnOf 217 = Tryz.f217 := by kernel_rfl
@[simp] theorem lv_217_6 : livesOf 217 6 = [3, 4] := by kernel_rfl
@[simp] theorem lv_217_1000006 : livesOf 217 1000006 = [3] := by kernel_rfl
@[simp] theorem tb_217 (n : Nat) : tab (n + 1) 217 = some (.pure (run n 217)) := tab_pure (by kernel_rfl) (by kernel_rfl) (by kernel_rfl)
@[simp] theorem fn_218 : fnOf 218 = Tryz.f218 := by kernel_rfl
@[simp] theorem lv_218_4 : livesOf 218 4 = [0, 1, 5, 6, 7] := by kernel_rfl
@[simp] theorem lv_218_1000004 : livesOf 218 1000004 = [5, 6] := by kernel_rfl
@[simp] theorem tb_218 (n : Nat) : tab (n + 1) 218 = some (.pure (run n 218)) := tab_pure (by kernel_rfl) (by kernel_rfl) (by kernel_rfl)
@[simp] theorem fn_219 : fnOf 219 = Tryz.f219 := by kernel_rfl
@[simp] theorem lv_219_4 : livesOf 219 4 = [0, 1, 5, 6, 7] := by kernel_rfl
@[simp] theorem lv_219_1000004 : livesOf 219 1000004 = [5, 6] := by kernel_rfl
@[simp] theorem tb_219 (n : Nat) : tab (n + 1) 219 = some (.pure (oN2 fun x y => natA (lmb (val x + val y)))) := tab_num rfl _
@[simp] theorem fn_220 : fnOf 220 = Tryz.f220 := by kernel_rfl
@[simp] theorem lv_220_2 : livesOf 220 2 = [0, 1, 5] := by kernel_rfl
@[simp] theorem lv_220_1000002 : livesOf 220 1000002 = [4] := by kernel_rfl
@[simp] theorem tb_220 (n : Nat) : tab (n + 1) 220 = some (.pure (run n 220)) := tab_pure (by kernel_rfl) (by kernel_rfl) (by kernel_rfl)
@[simp] theorem fn_221 : fnOf 221 = Tryz.f221 := by kernel_rfl
@[simp] theorem lv_221_6 : livesOf 221 6 = [0, 1, 6, 7, 8] := by kernel_rfl
@[simp] theorem lv_221_1000006 : livesOf 221 1000006 = [6] := by kernel_rfl
@[simp] theorem tb_221 (n : Nat) : tab (n + 1) 221 = some (.pure (run n 221)) := tab_pure (by kernel_rfl) (by kernel_rfl) (by kernel_rfl)
@[simp] theorem fn_226 : fnOf 226 = Tryz.f226 := by kernel_rfl
@[simp] theorem tb_226 (n : Nat) : tab (n + 1) 226 = some (.pure (run n 226)) := tab_pure (by kernel_rfl) (by kernel_rfl) (by kernel_rfl)
@[simp] theorem fn_227 : fnOf 227 = Tryz.f227 := by kernel_rfl
@[simp] theorem tb_227 (n : Nat) : tab (n + 1) 227 = some (.pure (run n 227)) := tab_pure (by kernel_rfl) (by kernel_rfl) (by kernel_rfl)
@[simp] theorem fn_228 : fnOf 228 = Tryz.f228 := by kernel_rfl
@[simp] theorem lv_228_4 : livesOf 228 4 = [0, 1, 6, 7, 8] := by kernel_rfl
@[simp] theorem lv_228_1000004 : livesOf 228 1000004 = [6, 7] := by kernel_rfl
@[simp] theorem tb_228 (n : Nat) : tab (n + 1) 228 = some (.pure (run n 228)) := tab_pure (by kernel_rfl) (by kernel_rfl) (by kernel_rfl)
@[simp] theorem fn_229 : fnOf 229 = Tryz.f229 := by kernel_rfl
@[simp] theorem tb_229 (n : Nat) : tab (n + 1) 229 = some (.pure (run n 229)) := tab_pure (by kernel_rfl) (by kernel_rfl) (by kernel_rfl)
@[simp] theorem fn_230 : fnOf 230 = Tryz.f230 := by kernel_rfl
@[simp] theorem lv_230_3 : livesOf 230 3 = [1, 5, 13, 14, 15] := by kernel_rfl
@[simp] theorem lv_230_1000003 : livesOf 230 1000003 = [5] := by kernel_rfl
@[simp] theorem tb_230 (n : Nat) : tab (n + 1) 230 = some (.pure (run n 230)) := tab_pure (by kernel_rfl) (by kernel_rfl) (by kernel_rfl)
@[simp] theorem fn_231 : fnOf 231 = Tryz.f231 := by kernel_rfl
@[simp] theorem lv_231_3 : livesOf 231 3 = [0, 1, 2, 7, 8, 15, 16, 17] := by kernel_rfl
@[simp] theorem lv_231_17 : livesOf 231 17 = [0, 1, 2, 7, 70, 71, 72] := by kernel_rfl
@[simp] theorem lv_231_1000003 : livesOf 231 1000003 = [0, 1, 2, 7, 8] := by kernel_rfl
@[simp] theorem lv_231_1000017 : livesOf 231 1000017 = [0, 1, 2, 7] := by kernel_rfl
@[simp] theorem tb_231 (n : Nat) : tab (n + 1) 231 = some (.lin [true, false, false] (runL n 231)) := tab_lin (k := false) (by kernel_rfl) (by kernel_rfl) (by kernel_rfl)
@[simp] theorem kp_231 : keepOf 231 = false := by kernel_rfl
@[simp] theorem fn_232 : fnOf 232 = Tryz.f232 := by kernel_rfl
@[simp] theorem lv_232_4 : livesOf 232 4 = [0, 1, 5, 7, 8] := by kernel_rfl
@[simp] theorem lv_232_1000004 : livesOf 232 1000004 = [7] := by kernel_rfl
@[simp] theorem tb_232 (n : Nat) : tab (n + 1) 232 = some (.pure (run n 232)) := tab_pure (by kernel_rfl) (by kernel_rfl) (by kernel_rfl)
@[simp] theorem fn_233 : fnOf 233 = Tryz.f233 := by kernel_rfl
@[simp] theorem lv_233_9 : livesOf 233 9 = [0, 1, 6, 30, 31, 32] := by kernel_rfl
@[simp] theorem lv_233_1000009 : livesOf 233 1000009 = [6] := by kernel_rfl
@[simp] theorem tb_233 (n : Nat) : tab (n + 1) 233 = some (.pure (run n 233)) := tab_pure (by kernel_rfl) (by kernel_rfl) (by kernel_rfl)
@[simp] theorem fn_234 : fnOf 234 = Tryz.f234 := by kernel_rfl
@[simp] theorem tb_234 (n : Nat) : tab (n + 1) 234 = some (.pure (run n 234)) := tab_pure (by kernel_rfl) (by kernel_rfl) (by kernel_rfl)
@[simp] theorem fn_235 : fnOf 235 = Tryz.f235 := by kernel_rfl
@[simp] theorem tb_235 (n : Nat) : tab (n + 1) 235 = some (.pure (run n 235)) := tab_pure (by kernel_rfl) (by kernel_rfl) (by kernel_rfl)
@[simp] theorem fn_236 : fnOf 236 = Tryz.f236 := by kernel_rfl
@[simp] theorem lv_236_1 : livesOf 236 1 = [0, 1, 4] := by kernel_rfl
@[simp] theorem lv_236_1000001 : livesOf 236 1000001 = [0, 1, 4] := by kernel_rfl
@[simp] theorem tb_236 (n : Nat) : tab (n + 1) 236 = some (.lin [true, false] (runL n 236)) := tab_lin (k := false) (by kernel_rfl) (by kernel_rfl) (by kernel_rfl)
@[simp] theorem kp_236 : keepOf 236 = false := by kernel_rfl
@[simp] theorem fn_237 : fnOf 237 = Tryz.f237 := by kernel_rfl
@[simp] theorem lv_237_11 : livesOf 237 11 = [0, 1, 3, 4, 10, 11, 12, 13, 14, 15, 16] := by kernel_rfl
@[simp] theorem lv_237_18 : livesOf 237 18 = [0, 1, 3, 4, 10, 11, 12, 13, 17] := by kernel_rfl
@[simp] theorem lv_237_1000011 : livesOf 237 1000011 = [0, 1, 3, 4, 10, 11, 12, 13] := by kernel_rfl
@[simp] theorem lv_237_1000018 : livesOf 237 1000018 = [0, 1, 3, 4, 10, 11, 12, 13] := by kernel_rfl
@[simp] theorem tb_237 (n : Nat) : tab (n + 1) 237 = some (.lin [true, false, false, false, false] (runL n 237)) := tab_lin (k := true) (by kernel_rfl) (by kernel_rfl) (by kernel_rfl)
@[simp] theorem kp_237 : keepOf 237 = true := by kernel_rfl
@[simp] theorem fn_239 : fnOf 239 = Tryz.f239 := by kernel_rfl
@[simp] theorem tb_239 (n : Nat) : tab (n + 1) 239 = some (.pure (run n 239)) := tab_pure (by kernel_rfl) (by kernel_rfl) (by kernel_rfl)
@[simp] theorem fn_240 : fnOf 240 = Tryz.f240 := by kernel_rfl
@[simp] theorem tb_240 (n : Nat) : tab (n + 1) 240 = some (.pure (run n 240)) := tab_pure (by kernel_rfl) (by kernel_rfl) (by kernel_rfl)
@[simp] theorem fn_241 : fnOf 241 = Tryz.f241 := by kernel_rfl
@[simp] theorem tb_241 (n : Nat) : tab (n + 1) 241 = some (.pure (run n 241)) := tab_pure (by kernel_rfl) (by kernel_rfl) (by kernel_rfl)
@[simp] theorem fn_242 : fnOf 242 = Tryz.f242 := by kernel_rfl
@[simp] theorem tb_242 (n : Nat) : tab (n + 1) 242 = some (.lin [true, false] (runL n 242)) := tab_lin (k := false) (by kernel_rfl) (by kernel_rfl) (by kernel_rfl)
@[simp] theorem kp_242 : keepOf 242 = false := by kernel_rfl
@[simp] theorem fn_247 : fnOf 247 = Tryz.f247 := by kernel_rfl
@[simp] theorem tb_247 (n : Nat) : tab (n + 1) 247 = some (.pure (run n 247)) := tab_pure (by kernel_rfl) (by kernel_rfl) (by kernel_rfl)
@[simp] theorem fn_248 : fnOf 248 = Tryz.f248 := by kernel_rfl
@[simp] theorem tb_248 (n : Nat) : tab (n + 1) 248 = some (.pure (run n 248)) := tab_pure (by kernel_rfl) (by kernel_rfl) (by kernel_rfl)
@[simp] theorem fn_249 : fnOf 249 = Tryz.f249 := by kernel_rfl
@[simp] theorem tb_249 (n : Nat) : tab (n + 1) 249 = some (.pure (run n 249)) := tab_pure (by kernel_rfl) (by kernel_rfl) (by kernel_rfl)
@[simp] theorem fn_250 : fnOf 250 = Tryz.f250 := by kernel_rfl
@[simp] theorem tb_250 (n : Nat) : tab (n + 1) 250 = some (.pure (run n 250)) := tab_pure (by kernel_rfl) (by kernel_rfl) (by kernel_rfl)
@[simp] theorem fn_251 : fnOf 251 = Tryz.f251 := by kernel_rfl
@[simp] theorem tb_251 (n : Nat) : tab (n + 1) 251 = some (.pure (run n 251)) := tab_pure (by kernel_rfl) (by kernel_rfl) (by kernel_rfl)
@[simp] theorem fn_252 : fnOf 252 = Tryz.f252 := by kernel_rfl
@[simp] theorem tb_252 (n : Nat) : tab (n + 1) 252 = some (.pure (run n 252)) := tab_pure (by kernel_rfl) (by kernel_rfl) (by kernel_rfl)
@[simp] theorem fn_253 : fnOf 253 = Tryz.f253 := by kernel_rfl
@[simp] theorem tb_253 (n : Nat) : tab (n + 1) 253 = some (.pure (run n 253)) := tab_pure (by kernel_rfl) (by kernel_rfl) (by kernel_rfl)
@[simp] theorem fn_254 : fnOf 254 = Tryz.f254 := by kernel_rfl
@[simp] theorem tb_254 (n : Nat) : tab (n + 1) 254 = some (.pure (run n 254)) := tab_pure (by kernel_rfl) (by kernel_rfl) (by kernel_rfl)
@[simp] theorem fn_255 : fnOf 255 = Tryz.f255 := by kernel_rfl
@[simp] theorem tb_255 (n : Nat) : tab (n + 1) 255 = some (.lin [true, false] (runL n 255)) := tab_lin (k := false) (by kernel_rfl) (by kernel_rfl) (by kernel_rfl)
@[simp] theorem kp_255 : keepOf 255 = false := by kernel_rfl
@[simp] theorem fn_262 : fnOf 262 = Tryz.f262 := by kernel_rfl
@[simp] theorem tb_262 (n : Nat) : tab (n + 1) 262 = some (.pure (run n 262)) := tab_pure (by kernel_rfl) (by kernel_rfl) (by kernel_rfl)
@[simp] theorem fn_263 : fnOf 263 = Tryz.f263 := by kernel_rfl
@[simp] theorem tb_263 (n : Nat) : tab (n + 1) 263 = some (.pure (run n 263)) := tab_pure (by kernel_rfl) (by kernel_rfl) (by kernel_rfl)
end Go.Proofs.YtlpmemelhlnfbaaGreatDoor
set_option linter.all false
namespace Go.Proofs.YtlpmemelhlnfbaaGreatDoor
open Go.RowKit
def ratC (q : Rat) : List AV := [.lit (.bool (rawQ q).s), natA (rawQ q).l1, natA (rawQ q).l2]
def termC (t : Int × Rat) : List AV := [.lit (.int .i64 t.1), .lit (.bool (rawQ t.2).s), natA (rawQ t.2).l1, natA (rawQ t.2).l2]
abbrev Form := List (Int × Rat) × Rat
def formC (f : Form) : List AV := [.sl 4 (f.1.map termC), .lit (.bool (rawQ f.2).s), natA (rawQ f.2).l1, natA (rawQ f.2).l2]
theorem roomy_s {n b : Nat} (h : n ≤ 100000000) (hb : b ≤ 10000) : roomy n b = true := by
  unfold roomy
  have : n * b ≤ 100000000 * 10000 := Nat.mul_le_mul h hb
  rw [Bool.and_eq_true]
  exact ⟨decide_eq_true (by omega), decide_eq_true (by omega)⟩
theorem o1_rat {F : Raw → AV} {q : Rat} (h : H q ≤ 17179869184) : o1 F [ratA q] = some (F (rawQ q)) := by
  have h1 : (rawQ q).few = true := by
    have a1 : (lmb q.num.natAbs).length ≤ H q := Nat.le_max_left _ _
    have a2 : (dlmb q.den).length ≤ H q := Nat.le_trans (dlmb_len _) (Nat.le_max_right _ _)
    unfold Raw.few rawQ
    rw [Bool.and_eq_true]
    exact ⟨Nat.ble_eq_true_of_le (by dsimp only; omega), Nat.ble_eq_true_of_le (by dsimp only; omega)⟩
  simp only [o1, decR_rat, h1, if_true]
theorem o1_agg {F : Raw → AV} {q : Rat} (h : H q ≤ 17179869184) : o1 F [.agg [.lit (.bool (rawQ q).s), natA (rawQ q).l1, natA (rawQ q).l2]] = some (F (rawQ q)) := o1_rat h
noncomputable def fAdd : List AV → Option AV := o2 fun x y => ratA (x.q + y.q)
@[simp] theorem tn_add (n : Nat) : tab n 167 = some (.pure fAdd) := tab_num rfl n
@[simp] theorem tn_padd (n : Nat) : tab n 136 = some (.pure fAdd) := tab_num rfl n
noncomputable def fSub : List AV → Option AV := o2 fun x y => ratA (x.q - y.q)
@[simp] theorem tn_sub (n : Nat) : tab n 103 = some (.pure fSub) := tab_num rfl n
noncomputable def fMul : List AV → Option AV := o2 fun x y => ratA (x.q * y.q)
@[simp] theorem tn_mul (n : Nat) : tab n 162 = some (.pure fMul) := tab_num rfl n
@[simp] theorem tn_pmul (n : Nat) : tab n 166 = some (.pure fMul) := tab_num rfl n
noncomputable def fNeg : List AV → Option AV := o1 fun x => ratA (-x.q)
@[simp] theorem tn_neg (n : Nat) : tab n 169 = some (.pure fNeg) := tab_num rfl n
@[simp] theorem tn_pneg (n : Nat) : tab n 141 = some (.pure fNeg) := tab_num rfl n
noncomputable def fCanon : List AV → Option AV := o1 fun x => ratA x.q
@[simp] theorem tn_canon (n : Nat) : tab n 98 = some (.pure fCanon) := tab_num rfl n
@[simp] theorem tn_pcanon (n : Nat) : tab n 135 = some (.pure fCanon) := tab_num rfl n
noncomputable def fSign : List AV → Option AV := o1 fun x => .lit (.int .i64 (sgR x.q))
@[simp] theorem tn_sign (n : Nat) : tab n 39 = some (.pure fSign) := tab_num rfl n
@[simp] theorem tn_psign (n : Nat) : tab n 77 = some (.pure fSign) := tab_num rfl n
noncomputable def fCmp : List AV → Option AV := o2 fun x y => .lit (.int .i64 (sgR (x.q - y.q)))
@[simp] theorem tn_cmp (n : Nat) : tab n 40 = some (.pure fCmp) := tab_num rfl n
@[simp] theorem tn_pcmp (n : Nat) : tab n 205 = some (.pure fCmp) := tab_num rfl n
noncomputable def fSame : List AV → Option AV := o2 fun x y => .lit (.bool (decide (x.s = y.s ∧ x.l1 = y.l1 ∧ x.l2 = y.l2)))
@[simp] theorem tn_same (n : Nat) : tab n 73 = some (.pure fSame) := tab_num rfl n
noncomputable def fValid : List AV → Option AV := o1 fun x => .lit (.bool (decide (RatV x.s x.l1 x.l2)))
@[simp] theorem tn_valid (n : Nat) : tab n 118 = some (.pure fValid) := tab_num rfl n
@[simp] theorem tn_pvalid (n : Nat) : tab n 139 = some (.pure fValid) := tab_num rfl n
noncomputable def fOf : List AV → Option AV := oZ fun z => ratA (z : Rat)
@[simp] theorem tn_of (n : Nat) : tab n 63 = some (.pure fOf) := tab_num rfl n
@[simp] theorem tn_pof (n : Nat) : tab n 79 = some (.pure fOf) := tab_num rfl n
noncomputable def fFrac : List AV → Option AV := oZZ fun x y => .tup [ratA ((x : Rat) / (y : Rat)), .lit (.int .i64 0)]
@[simp] theorem tn_frac (n : Nat) : tab n 116 = some (.pure fFrac) := tab_num rfl n
theorem r_sign {p : Rat} (hp : H p ≤ 17179869184) : fSign [.agg [.lit (.bool (rawQ p).s), natA (rawQ p).l1, natA (rawQ p).l2]] = some (.lit (.int .i64 (sgR p))) := by unfold fSign; rw [o1_agg hp, rawQ_q]
end Go.Proofs.YtlpmemelhlnfbaaGreatDoor
set_option linter.all false
namespace Go.Proofs.YtlpmemelhlnfbaaGreatDoor
open Go.RowKit
@[simp] theorem z0s : (rawQ 0).s = false := rfl
@[simp] theorem z0n : natA (rawQ 0).l1 = .sl 1 [] := by
  have e : (rawQ 0).l1 = [] := by decide +kernel
  rw [e]; rfl
@[simp] theorem z0d : natA (rawQ 0).l2 = .sl 1 [] := by
  have e : (rawQ 0).l2 = [] := by decide +kernel
  rw [e]; rfl
@[simp] def ratV (q : Rat) : AV := .agg [.lit (.bool (rawQ q).s), natA (rawQ q).l1, natA (rawQ q).l2]
@[simp] def formV (f : Form) : AV := .agg [.sl 4 (f.1.map termC), .lit (.bool (rawQ f.2).s), natA (rawQ f.2).l1, natA (rawQ f.2).l2]
attribute [simp] ratC termC formC loopsOf roomy_s
def absQ (q : Rat) : Rat := if q.num < 0 then -q else q
theorem neg_nm (q : Rat) : (-q).num = -q.num := rfl
theorem neg_dn (q : Rat) : (-q).den = q.den := rfl
theorem absQ_raw (q : Rat) : rawQ (absQ q) = ⟨false, (rawQ q).l1, (rawQ q).l2⟩ := by
  by_cases h : q.num < 0
  · have e : absQ q = -q := if_pos h
    have e2 : decide (-q.num < 0) = false := decide_eq_false (by omega)
    rw [e]
    unfold rawQ
    rw [neg_nm, neg_dn, Int.natAbs_neg, e2]
  · have e : absQ q = q := if_neg h
    have e2 : decide (q.num < 0) = false := decide_eq_false h
    rw [e]
    unfold rawQ
    rw [e2]
@[simp] theorem absQ_s (q : Rat) : (rawQ (absQ q)).s = false := by rw [absQ_raw]
@[simp] theorem absQ_n (q : Rat) : (rawQ (absQ q)).l1 = (rawQ q).l1 := by rw [absQ_raw]
@[simp] theorem absQ_d (q : Rat) : (rawQ (absQ q)).l2 = (rawQ q).l2 := by rw [absQ_raw]
def InI (z : Int) : Prop := -9223372036854775808 ≤ z ∧ z ≤ 9223372036854775807
@[simp] def intI64C (z : Int) : List AV := [.lit (.int .i64 z)]
@[simp] def intU8C (z : Int) : List AV := [.lit (.int .u8 z)]
@[simp] def intU32C (z : Int) : List AV := [.lit (.int .u32 z)]
@[simp] def boolC (b : Bool) : List AV := [.lit (.bool b)]
@[simp] def strC (s : ByteArray) : List AV := [.lit (.string s)]
@[simp] theorem okE_ratC (l : List Rat) : okEls 3 (l.map ratC) = true := okEls_map (fun x => by simp) l
@[simp] theorem okE_termC (l : List (Int × Rat)) : okEls 4 (l.map termC) = true := okEls_map (fun x => by simp) l
@[simp] theorem okE_formC (l : List Form) : okEls 4 (l.map formC) = true := okEls_map (fun x => by simp) l
@[simp] theorem okE_intI64C (l : List Int) : okEls 1 (l.map intI64C) = true := okEls_map (fun x => by simp) l
@[simp] theorem okE_intU8C (l : List Int) : okEls 1 (l.map intU8C) = true := okEls_map (fun x => by simp) l
@[simp] theorem okE_boolC (l : List Bool) : okEls 1 (l.map boolC) = true := okEls_map (fun x => by simp) l
@[simp] theorem okE_strC (l : List ByteArray) : okEls 1 (l.map strC) = true := okEls_map (fun x => by simp) l
section
variable {α β γ : Type} {P : Program} {O : FuncId → Option Orc} {m N : Nat} {lives : Nat → List Nat} {r : Nat} {C : Code} {M : Nat} {L : List α} {enc : Nat → β → St} {exN exE : Ex}
noncomputable def loopG (P : Program) (O : FuncId → Option Orc) (m N : Nat) (lives : Nat → List Nat) (r : Nat) (C : Code) (e : St) : Option (Ex × St) :=
  match (match exec P O m N lives big C e with
    | some (.nrm, s') => loopS m (exec P O m N lives big C) (lives r) 4294967295 s'
    | x => x) with
  | some (ex, s') => (match gc m (lives (outOf r)) s' with | some s2 => some (ex, s2) | none => none)
  | none => none
theorem loopX_G {C' : Code} {s e : St} (hC : C = C') (hg : gc m (lives r) s = some e) : loopX P O m N lives big r C s = loopG P O m N lives r C' e := by
  subst hC
  unfold loopX loopG
  have hb : loopS m (exec P O m N lives big C) (lives r) big s = loopS m (exec P O m N lives big C) (lives r) (4294967295 + 1) s := rfl
  rw [hb, loopS, hg]
  dsimp only
  cases exec P O m N lives big C e with
  | none => rfl
  | some p =>
    obtain ⟨ex, s1⟩ := p
    cases ex <;> rfl
theorem loopS_Q {live outL : List Nat} {step : St → Option (Ex × St)} {Inv : Nat → β → Prop} {Q : Ex → St → Prop}
    (hstep : ∀ i b, i < M → Inv i b → (∃ b', Cont m step live (enc i b) (enc (i + 1) b') ∧ Inv (i + 1) b') ∨ (∃ ex t, ex ≠ .nrm ∧ Leave m step outL (enc i b) ex t ∧ Q ex t))
    (hend : ∀ b, Inv M b → ∃ ex t, ex ≠ .nrm ∧ Leave m step outL (enc M b) ex t ∧ Q ex t) :
    ∀ (k i n : Nat) (b : β), i + k = M → k ≤ n → Inv i b → ∃ ex s' t, (match step (enc i b) with | some (.nrm, s') => loopS m step live n s' | x => x) = some (ex, s') ∧ gc m outL s' = some t ∧ Q ex t
  | 0, i, n, b, hi, hn, hI => by
    obtain rfl : i = M := by omega
    obtain ⟨ex, t, h0, ⟨s', h1, h2⟩, h3⟩ := hend b hI
    refine ⟨ex, s', t, ?_, h2, h3⟩
    rw [h1]
    cases ex <;> first | exact absurd rfl h0 | rfl
  | k + 1, i, n, b, hi, hn, hI => by
    rcases hstep i b (by omega) hI with ⟨b', ⟨s1, h1, h2⟩, h3⟩ | ⟨ex, t, h0, ⟨s', h1, h2⟩, h3⟩
    · obtain ⟨ex, s', t, h4, h5, h6⟩ := loopS_Q hstep hend k (i + 1) (n - 1) b' (by omega) (by omega) h3
      refine ⟨ex, s', t, ?_, h5, h6⟩
      rw [h1]
      have e : n = (n - 1) + 1 := by omega
      rw [e]
      dsimp only
      rw [loopS, h2]
      exact h4
    · refine ⟨ex, s', t, ?_, h2, h3⟩
      rw [h1]
      cases ex <;> first | exact absurd rfl h0 | rfl
theorem loopG_Q (Inv : Nat → β → Prop) (Q : Ex → St → Prop) (b : β) (hI : Inv 0 b) (hn : M ≤ 4294967295)
    (hstep : ∀ i b, i < M → Inv i b → (∃ b', Cont m (exec P O m N lives big C) (lives r) (enc i b) (enc (i + 1) b') ∧ Inv (i + 1) b') ∨ (∃ ex t, ex ≠ .nrm ∧ Leave m (exec P O m N lives big C) (lives (outOf r)) (enc i b) ex t ∧ Q ex t))
    (hend : ∀ b, Inv M b → ∃ ex t, ex ≠ .nrm ∧ Leave m (exec P O m N lives big C) (lives (outOf r)) (enc M b) ex t ∧ Q ex t) :
    ∃ ex t, loopG P O m N lives r C (enc 0 b) = some (ex, t) ∧ Q ex t := by
  obtain ⟨ex, s', t, h1, h2, h3⟩ := loopS_Q hstep hend M 0 4294967295 b (by omega) hn hI
  refine ⟨ex, t, ?_, h3⟩
  unfold loopG
  rw [h1]
  simp only [h2]
theorem loopG_R (Inv : Nat → β → Prop) {out : β → St} (b : β) (hI : Inv 0 b) (hn : M ≤ 4294967295) (hN : exN ≠ .nrm)
    (hstep : ∀ i b, i < M → Inv i b → ∃ b', Cont m (exec P O m N lives big C) (lives r) (enc i b) (enc (i + 1) b') ∧ Inv (i + 1) b')
    (hend : ∀ b, Inv M b → Leave m (exec P O m N lives big C) (lives (outOf r)) (enc M b) exN (out b)) :
    ∃ b', loopG P O m N lives r C (enc 0 b) = some (exN, out b') ∧ Inv M b' := by
  obtain ⟨ex, t, h1, b', rfl, rfl, h3⟩ := loopG_Q (m := m) (C := C) (P := P) (O := O) (N := N) Inv (fun ex t => ∃ b', ex = exN ∧ t = out b' ∧ Inv M b') b hI hn (fun i b hi hI => .inl (hstep i b hi hI)) (fun b hI => ⟨exN, out b, hN, hend b hI, b, rfl, rfl, hI⟩)
  exact ⟨b', h1, h3⟩
end
theorem loopG_all {P : Program} {O : FuncId → Option Orc} {m N : Nat} {lives : Nat → List Nat} {r : Nat} {C : Code} {M : Nat} {enc : Nat → St} {p : Nat → Bool} {exN exE : Ex} {out outE : St} (hn : M ≤ 4294967295) (hN : exN ≠ .nrm) (hE : exE ≠ .nrm)
    (hstep : ∀ i, i < M → (∀ j, j < i → p j = true) → (p i = true → Cont m (exec P O m N lives big C) (lives r) (enc i) (enc (i + 1))) ∧ (p i = false → Leave m (exec P O m N lives big C) (lives (outOf r)) (enc i) exE outE))
    (hend : Leave m (exec P O m N lives big C) (lives (outOf r)) (enc M) exN out) :
    loopG P O m N lives r C (enc 0) = some (if ∀ i, i < M → p i = true then (exN, out) else (exE, outE)) := by
  obtain ⟨ex, t, h1, h2⟩ := loopG_Q (β := Unit) (m := m) (C := C) (P := P) (O := O) (N := N) (lives := lives) (r := r) (M := M) (enc := fun i _ => enc i) (fun i _ => ∀ j, j < i → p j = true) (fun ex t => (ex, t) = if ∀ i, i < M → p i = true then (exN, out) else (exE, outE)) () (fun j hj => absurd hj (by omega)) hn
    (fun i b hi hI => by
      cases hp : p i with
      | true => exact .inl ⟨(), (hstep i hi hI).1 hp, fun j hj => by rcases Nat.lt_succ_iff_lt_or_eq.1 hj with h | rfl; exact hI j h; exact hp⟩
      | false =>
        refine .inr ⟨exE, outE, hE, (hstep i hi hI).2 hp, ?_⟩
        rw [if_neg]
        intro h
        rw [h i hi] at hp; cases hp)
    (fun b hI => ⟨exN, out, hN, hend, by rw [if_pos hI]⟩)
  rw [h1, h2]
structure RawB (r : Raw) : Prop where
  n : Lim r.l1
  d : Lim r.l2
  bn : r.l1.length ≤ 17179869184
  bd : r.l2.length ≤ 17179869184
theorem RawB.few {r : Raw} (h : RawB r) : r.few = true := by
  unfold Raw.few
  rw [Bool.and_eq_true]
  exact ⟨Nat.ble_eq_true_of_le h.bn, Nat.ble_eq_true_of_le h.bd⟩
theorem rr_1 {F : Raw → AV} {r : Raw} (h : RawB r) : o1 F [.agg [.lit (.bool r.s), natA r.l1, natA r.l2]] = some (F r) := by
  have h1 : decR (.agg [.lit (.bool r.s), natA r.l1, natA r.l2]) = some r := decR_av h.n h.d
  simp only [o1, h1, h.few, if_true]
theorem rr_2 {F : Raw → Raw → AV} {x y : Raw} (h : RawB x) (g : RawB y) : o2 F [.agg [.lit (.bool x.s), natA x.l1, natA x.l2], .agg [.lit (.bool y.s), natA y.l1, natA y.l2]] = some (F x y) := by
  have h1 : decR (.agg [.lit (.bool x.s), natA x.l1, natA x.l2]) = some x := decR_av h.n h.d
  have h2 : decR (.agg [.lit (.bool y.s), natA y.l1, natA y.l2]) = some y := decR_av g.n g.d
  simp only [o2, h1, h2, h.few, g.few, Bool.and_self, if_true]
theorem rr_valid {r : Raw} (h : RawB r) : fValid [.agg [.lit (.bool r.s), natA r.l1, natA r.l2]] = some (.lit (.bool (decide (RatV r.s r.l1 r.l2)))) := rr_1 h
theorem rr_sign {r : Raw} (h : RawB r) : fSign [.agg [.lit (.bool r.s), natA r.l1, natA r.l2]] = some (.lit (.int .i64 (sgR r.q))) := rr_1 h
theorem rr_same {x y : Raw} (h : RawB x) (g : RawB y) : fSame [.agg [.lit (.bool x.s), natA x.l1, natA x.l2], .agg [.lit (.bool y.s), natA y.l1, natA y.l2]] = some (.lit (.bool (decide (x = y)))) := by
  unfold fSame
  rw [rr_2 h g]
  have e : decide (x.s = y.s ∧ x.l1 = y.l1 ∧ x.l2 = y.l2) = decide (x = y) := by
    apply decide_eq_decide.2
    obtain ⟨a, b, c⟩ := x
    obtain ⟨d, e, f⟩ := y
    simp
  rw [e]
@[simp] def rawC (r : Raw) : List AV := [.lit (.bool r.s), natA r.l1, natA r.l2]
@[simp] def termRC (t : Int × Raw) : List AV := [.lit (.int .i64 t.1), .lit (.bool t.2.s), natA t.2.l1, natA t.2.l2]
abbrev FormR := List (Int × Raw) × Raw
@[simp] def formRC (f : FormR) : List AV := [.sl 4 (f.1.map termRC), .lit (.bool f.2.s), natA f.2.l1, natA f.2.l2]
@[simp] theorem okE_rawC (l : List Raw) : okEls 3 (l.map rawC) = true := okEls_map (fun x => by simp) l
@[simp] theorem okE_termRC (l : List (Int × Raw)) : okEls 4 (l.map termRC) = true := okEls_map (fun x => by simp) l
@[simp] theorem okE_formRC (l : List FormR) : okEls 4 (l.map formRC) = true := okEls_map (fun x => by simp) l
structure TFeed where
  Raw : List Int
  At : Int
@[simp] def feedC (g : TFeed) : List AV := [.sl 1 (g.Raw.map intU8C), .lit (.int .i64 (g.At))]
@[simp] def feedV (g : TFeed) : AV := .agg [.sl 1 (g.Raw.map intU8C), .lit (.int .i64 (g.At))]
@[simp] theorem okE_feedC (l : List TFeed) : okEls 2 (l.map feedC) = true := okEls_map (fun x => by simp) l
structure Treader where
  s : ByteArray
  at_ : Int
  bad : Bool
@[simp] def readerC (g : Treader) : List AV := [.lit (.string g.s), .lit (.int .i64 (g.at_)), .lit (.bool g.bad)]
@[simp] def readerV (g : Treader) : AV := .agg [.lit (.string g.s), .lit (.int .i64 (g.at_)), .lit (.bool g.bad)]
@[simp] theorem okE_readerC (l : List Treader) : okEls 3 (l.map readerC) = true := okEls_map (fun x => by simp) l
structure TInt where
  Neg : Bool
  Mag : List Nat
@[simp] def intC (g : TInt) : List AV := [.lit (.bool g.Neg), natA g.Mag]
@[simp] def intV (g : TInt) : AV := .agg [.lit (.bool g.Neg), natA g.Mag]
@[simp] theorem okE_intC (l : List TInt) : okEls 2 (l.map intC) = true := okEls_map (fun x => by simp) l
structure TGraph where
  Inputs : Int
  Units : List Form
  Outputs : List Form
@[simp] def graphC (g : TGraph) : List AV := [.lit (.int .i64 (g.Inputs)), .sl 4 (g.Units.map formC), .sl 4 (g.Outputs.map formC)]
@[simp] def graphV (g : TGraph) : AV := .agg [.lit (.int .i64 (g.Inputs)), .sl 4 (g.Units.map formC), .sl 4 (g.Outputs.map formC)]
@[simp] theorem okE_graphC (l : List TGraph) : okEls 3 (l.map graphC) = true := okEls_map (fun x => by simp) l
structure TProgram where
  Vars : Int
  Rows : List Form
  Objective : Form
@[simp] def programC (g : TProgram) : List AV := [.lit (.int .i64 (g.Vars)), .sl 4 (g.Rows.map formC), .sl 4 (g.Objective.1.map termC), .lit (.bool (rawQ g.Objective.2).s), natA (rawQ g.Objective.2).l1, natA (rawQ g.Objective.2).l2]
@[simp] def programV (g : TProgram) : AV := .agg [.lit (.int .i64 (g.Vars)), .sl 4 (g.Rows.map formC), .sl 4 (g.Objective.1.map termC), .lit (.bool (rawQ g.Objective.2).s), natA (rawQ g.Objective.2).l1, natA (rawQ g.Objective.2).l2]
@[simp] theorem okE_programC (l : List TProgram) : okEls 6 (l.map programC) = true := okEls_map (fun x => by simp) l
structure TGraphR where
  Inputs : Int
  Units : List FormR
  Outputs : List FormR
@[simp] def graphRC (g : TGraphR) : List AV := [.lit (.int .i64 (g.Inputs)), .sl 4 (g.Units.map formRC), .sl 4 (g.Outputs.map formRC)]
@[simp] def graphRV (g : TGraphR) : AV := .agg [.lit (.int .i64 (g.Inputs)), .sl 4 (g.Units.map formRC), .sl 4 (g.Outputs.map formRC)]
@[simp] theorem okE_graphRC (l : List TGraphR) : okEls 3 (l.map graphRC) = true := okEls_map (fun x => by simp) l
structure TProgramR where
  Vars : Int
  Rows : List FormR
  Objective : FormR
@[simp] def programRC (g : TProgramR) : List AV := [.lit (.int .i64 (g.Vars)), .sl 4 (g.Rows.map formRC), .sl 4 (g.Objective.1.map termRC), .lit (.bool g.Objective.2.s), natA g.Objective.2.l1, natA g.Objective.2.l2]
@[simp] def programRV (g : TProgramR) : AV := .agg [.lit (.int .i64 (g.Vars)), .sl 4 (g.Rows.map formRC), .sl 4 (g.Objective.1.map termRC), .lit (.bool g.Objective.2.s), natA g.Objective.2.l1, natA g.Objective.2.l2]
@[simp] theorem okE_programRC (l : List TProgramR) : okEls 6 (l.map programRC) = true := okEls_map (fun x => by simp) l
end Go.Proofs.YtlpmemelhlnfbaaGreatDoor
