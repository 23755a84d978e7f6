/- The table of callees: live slots, modes. -/
import Derived.Test.YtjobiobdpnhooaaGreatDoorCd
import Derived.Test.YtjobiobdpnhooaaGreatDoorQ3
set_option linter.all false
set_option linter.all false
set_option maxRecDepth 100000
namespace Go.Proofs.YtjobiobdpnhooaaGreatDoor
open Go.RowKit
def livesT : List (Nat × List (Nat × List Nat)) := [(4, [(6, [0, 1, 19, 20, 21]), (1000006, [0, 1, 4])]), (6, [(4, [8, 9, 10]), (1000004, [2])]), (8, [(3, [1, 2, 5, 6]), (1000003, [5])]), (12, [(4, [2, 3, 4, 5]), (1000004, [2, 4])]), (13, [(4, [0, 1, 5]), (1000004, [4])]), (14, [(5, [1, 3, 16, 17]), (1000005, [3])]), (15, [(5, [1, 3, 4]), (1000005, [3])]), (17, [(4, [0, 1, 18, 19, 20]), (15, [0, 8, 48, 49]), (1000004, [0, 1, 4, 5]), (1000015, [8])]), (32, [(2, [1, 2, 3, 7]), (1000002, [6])]), (40, [(3, [3, 7, 8, 9]), (1000003, [2])]), (47, [(4, [0, 2, 3, 4, 5, 6, ph 3 1 39 4]), (8, [0, 2, 3, 4, 5, 7, ph 3 2 39 4]), (1000004, [0, 2, 3, 4, 5]), (1000008, [2, 3])]), (48, [(3, [0, 1, 4, 5, 6, ph 5 0 26 3, ph 5 1 26 3]), (9, [0, 1, 4, 5, 9, ph 5 2 39 4]), (1000003, [0, 1, 4, 5]), (1000009, [4, 5])]), (49, [(3, [0, 1, 4, 5, 6, ph 5 0 0 0]), (1000003, [4, 5])]), (50, [(3, [0, 1, 5, 6]), (7, [0, 1, 5, 6, 7, 8]), (1000003, [5]), (1000007, [0, 1, 5, 6])]), (55, [(4, [1, 3]), (1000004, [1, 2])]), (56, [(6, [1, 2, 5]), (1000006, [4])]), (57, [(2, [1, 2, 5]), (1000002, [2, 4])]), (61, [(6, [1, 8, 10, 11]), (1000006, [10])]), (63, [(4, [1, 32, 33, 34]), (1000004, [1, 2])]), (64, [(4, [2, 3, 34, 35, 36]), (1000004, [2, 3, 4])]), (65, [(2, [1, 2, 8, 9, 10]), (1000002, [2, 4])]), (66, [(3, [1, 2, 6, 7, 11, 12, 13]), (1000003, [6, 7])]), (73, [(2, [0, 1, 7, 8]), (1000002, [4])]), (75, [(3, [0, 3, 4]), (7, [3, 4, 5, 8, 26]), (12, [3]), (1000003, [3]), (1000007, [3, 4, 5]), (1000012, [3])]), (76, [(3, [3, 4, 5, 6]), (1000003, [4, 5])]), (77, [(3, [2, 3, 4, 5, 6, ph 5 0 139 4]), (1000003, [4, 5])]), (80, [(2, [0, 3]), (1000002, [0, 3])]), (81, [(4, [0, 1, 5, 6, 7]), (1000004, [5, 6])]), (82, [(6, [0, 1, 6, 7, 8]), (1000006, [6])]), (83, [(2, [0, 1]), (1000002, [0])]), (84, [(9, [0, 1, 11, 12, 13]), (1000009, [11, 12])]), (86, [(2, [0, 1, 5]), (1000002, [4])]), (87, [(2, [0, 3]), (1000002, [2])]), (88, [(4, [0, 1, 5]), (1000004, [4])]), (89, [(5, [1, 2, 6, 7]), (9, [2, 6, 8]), (1000005, [2, 6]), (1000009, [6])]), (90, [(3, [1, 2, 4, 6, 7]), (1000003, [4, 5, 6])]), (97, [(3, [1, 2, 6, 7, 8]), (1000003, [6, 7])]), (100, [(7, [0, 1, 5]), (1000007, [4])]), (104, [(13, [9, 10, 11, 12, 13]), (1000013, [9, 10, 12])]), (105, [(6, [4, 12, 13, 14]), (1000006, [4])]), (106, [(1, [0, 2, 3]), (1000001, [])]), (107, [(4, [1, 3, 5, 6, 7, 8, 9]), (1000004, [1, 3, 5, 6, 7, 8])]), (110, [(2, [0, 1, 5]), (1000002, [4])]), (112, [(6, [3, 4]), (1000006, [3])]), (113, [(4, [0, 1, 5, 6, 7]), (1000004, [5, 6])]), (118, [(2, [0, 1, 7, 8]), (1000002, [4])]), (125, [(2, [0, 3]), (1000002, [0, 3])]), (128, [(1, [0, 1, 4]), (1000001, [0, 1, 4])]), (129, [(11, [0, 1, 3, 4, 10, 11, 12, 13, 14, 15, 16]), (18, [0, 1, 3, 4, 10, 11, 12, 13, 17]), (1000011, [0, 1, 3, 4, 10, 11, 12, 13]), (1000018, [0, 1, 3, 4, 10, 11, 12, 13])]), (132, [(4, [0, 1, 6, 7, 8]), (1000004, [6, 7])]), (134, [(3, [1, 5, 13, 14, 15]), (1000003, [5])]), (135, [(3, [0, 1, 2, 7, 8, 15, 16, 17]), (17, [0, 1, 2, 7, 70, 71, 72]), (1000003, [0, 1, 2, 7, 8]), (1000017, [0, 1, 2, 7])]), (136, [(4, [0, 1, 5, 7, 8]), (1000004, [7])]), (137, [(9, [0, 1, 6, 30, 31, 32]), (1000009, [6])]), (142, [(2, [0, 1]), (10, [11, 13]), (1000002, [0, 1]), (1000010, [11])]), (150, [(6, [1, 5, 29, 30, 31]), (10, [1, 5, 6, 7, 8, 29, 30, 31, 36, 37, 38]), (1000006, [5]), (1000010, [1, 5, 6, 8, 29, 30, 31])])]
def livesOf (f : FuncId) : Nat → List Nat := lv ((livesT.lookup f).getD [])
def modesT : List (Nat × (List Bool × Bool)) := [(20, ([true], false)), (21, ([], true)), (30, ([true, false], false)), (31, ([true], false)), (47, ([true], false)), (48, ([true, false], false)), (49, ([true, false], false)), (106, ([true], false)), (108, ([true, false], true)), (128, ([true, false], false)), (129, ([true, false, false, false, false], true)), (135, ([true, false, false], false)), (161, ([true], false)), (162, ([true], false)), (163, ([true], false)), (164, ([true], false)), (165, ([true], false))]
noncomputable def fnOf (f : FuncId) : Func := (Tryz.prog.funcs[f]?).getD default
def keepOf (f : FuncId) : Bool := ((modesT.lookup f).getD ([], false)).2
noncomputable def tab : Nat → FuncId → Option Orc
  | 0, f => orc0 f
  | n + 1, f => match orc0 f with
    | some x => some x
    | none => match plainF Tryz.prog f with
      | true => (match modesT.lookup f with
        | some (ms, k) => some (.lin ms (fnL Tryz.prog (tab n) (livesOf f) big (fnOf f) (keepOf f)))
        | none => some (.pure (fnP Tryz.prog (tab n) (livesOf f) big (fnOf f))))
      | false => none
theorem plain_fn {f : FuncId} (h : plainF Tryz.prog f = true) : Tryz.prog.funcs[f]? = some (fnOf f) := by
  unfold plainF at h
  unfold fnOf
  split at h
  · rename_i fn hf; rw [hf]; rfl
  · cases h
theorem tab_ok : ∀ n, OrcOk Tryz.prog (tab n)
  | 0 => orc0_ok
  | n + 1 => by
    have key : ∀ f x, tab (n + 1) f = some x → (orc0 f = some x) ∨ (plainF Tryz.prog f = true ∧ ((∃ (ms : List Bool) (k : Bool), x = .lin ms (fnL Tryz.prog (tab n) (livesOf f) big (fnOf f) (keepOf f))) ∨ x = .pure (fnP Tryz.prog (tab n) (livesOf f) big (fnOf f)))) := fun f x h => by
      unfold tab at h
      split at h
      · rename_i y hy; cases h; exact .inl hy
      · split at h
        · rename_i hp
          split at h
          · cases h; exact .inr ⟨hp, .inl ⟨_, false, rfl⟩⟩
          · cases h; exact .inr ⟨hp, .inr rfl⟩
        · cases h
    refine ⟨fun f g h => ?_, fun f ms g h => ?_⟩
    · rcases key f _ h with h | ⟨hp, ⟨ms, k, h⟩ | h⟩
      · exact orc0_ok.pure f g h
      · cases h
      · cases h
        exact ⟨hp, fun args r hr => con_of (tab_ok n) mixed (plain_fn hp) (body_some hp (plain_fn hp)) hr⟩
    · rcases key f _ h with h | ⟨hp, ⟨ms, k, h⟩ | h⟩
      · exact orc0_ok.lin f ms g h
      · cases h
        exact ⟨hp, fun bin args r outs hr => conL_of (tab_ok n) mixed (plain_fn hp) (body_some hp (plain_fn hp)) hr⟩
      · cases h
/-- a function run abstractly, with n levels of calls below it -/
noncomputable def run (n : Nat) (f : FuncId) (args : List AV) : Option AV := fnP Tryz.prog (tab n) (livesOf f) big (fnOf f) args
noncomputable def runL (n : Nat) (f : FuncId) (args : List AV) (bin : List AB) : Option (AV × List (Nat × AB)) := fnL Tryz.prog (tab n) (livesOf f) big (fnOf f) (keepOf f) args bin
theorem run_con {n : Nat} {f : FuncId} {args : List AV} {r : AV} (hp : plainF Tryz.prog f = true) (h : run n f args = some r) : Con Tryz.prog f args r := con_of (tab_ok n) mixed (plain_fn hp) (body_some hp (plain_fn hp)) h
/-- a callee of the table, by its mode -/
theorem tab_pure {n : Nat} {f : FuncId} (h0 : orc0 f = none) (hp : plainF Tryz.prog f = true) (hm : modesT.lookup f = none) : tab (n + 1) f = some (.pure (run n f)) := by
  unfold tab
  rw [h0]
  simp only [hp, hm]
  rfl
theorem tab_lin {n : Nat} {f : FuncId} {ms : List Bool} {k : Bool} (h0 : orc0 f = none) (hp : plainF Tryz.prog f = true) (hm : modesT.lookup f = some (ms, k)) : tab (n + 1) f = some (.lin ms (runL n f)) := by
  unfold tab
  rw [h0]
  simp only [hp, hm]
  rfl
theorem tab_num {f : FuncId} {x : Orc} (h : orc0 f = some x) : ∀ n, tab n f = some x
  | 0 => h
  | n + 1 => by unfold tab; rw [h]
@[simp] theorem fn_2 : fnOf 2 = Tryz.f2 := by kernel_rfl
@[simp] theorem tb_2 (n : Nat) : tab (n + 1) 2 = some (.pure (run n 2)) := tab_pure (by kernel_rfl) (by kernel_rfl) (by kernel_rfl)
@[simp] theorem fn_3 : fnOf 3 = Tryz.f3 := by kernel_rfl
@[simp] theorem tb_3 (n : Nat) : tab (n + 1) 3 = some (.pure (run n 3)) := tab_pure (by kernel_rfl) (by kernel_rfl) (by kernel_rfl)
@[simp] theorem fn_4 : fnOf 4 = Tryz.f4 := by kernel_rfl
@[simp] theorem lv_4_6 : livesOf 4 6 = [0, 1, 19, 20, 21] := by kernel_rfl
@[simp] theorem lv_4_1000006 : livesOf 4 1000006 = [0, 1, 4] := by kernel_rfl
@[simp] theorem tb_4 (n : Nat) : tab (n + 1) 4 = some (.pure (run n 4)) := tab_pure (by kernel_rfl) (by kernel_rfl) (by kernel_rfl)
@[simp] theorem fn_5 : fnOf 5 = Tryz.f5 := by kernel_rfl
@[simp] theorem tb_5 (n : Nat) : tab (n + 1) 5 = some (.pure (run n 5)) := tab_pure (by kernel_rfl) (by kernel_rfl) (by kernel_rfl)
@[simp] theorem fn_6 : fnOf 6 = Tryz.f6 := by kernel_rfl
@[simp] theorem lv_6_4 : livesOf 6 4 = [8, 9, 10] := by kernel_rfl
@[simp] theorem lv_6_1000004 : livesOf 6 1000004 = [2] := by kernel_rfl
@[simp] theorem tb_6 (n : Nat) : tab (n + 1) 6 = some (.pure (run n 6)) := tab_pure (by kernel_rfl) (by kernel_rfl) (by kernel_rfl)
@[simp] theorem fn_7 : fnOf 7 = Tryz.f7 := by kernel_rfl
@[simp] theorem tb_7 (n : Nat) : tab (n + 1) 7 = some (.pure (run n 7)) := tab_pure (by kernel_rfl) (by kernel_rfl) (by kernel_rfl)
@[simp] theorem fn_8 : fnOf 8 = Tryz.f8 := by kernel_rfl
@[simp] theorem lv_8_3 : livesOf 8 3 = [1, 2, 5, 6] := by kernel_rfl
@[simp] theorem lv_8_1000003 : livesOf 8 1000003 = [5] := by kernel_rfl
@[simp] theorem tb_8 (n : Nat) : tab (n + 1) 8 = some (.pure (run n 8)) := tab_pure (by kernel_rfl) (by kernel_rfl) (by kernel_rfl)
@[simp] theorem fn_9 : fnOf 9 = Tryz.f9 := by kernel_rfl
@[simp] theorem tb_9 (n : Nat) : tab (n + 1) 9 = some (.pure (run n 9)) := tab_pure (by kernel_rfl) (by kernel_rfl) (by kernel_rfl)
@[simp] theorem fn_10 : fnOf 10 = Tryz.f10 := by kernel_rfl
@[simp] theorem tb_10 (n : Nat) : tab (n + 1) 10 = some (.pure (run n 10)) := tab_pure (by kernel_rfl) (by kernel_rfl) (by kernel_rfl)
@[simp] theorem fn_11 : fnOf 11 = Tryz.f11 := by kernel_rfl
@[simp] theorem tb_11 (n : Nat) : tab (n + 1) 11 = some (.pure (run n 11)) := tab_pure (by kernel_rfl) (by kernel_rfl) (by kernel_rfl)
@[simp] theorem fn_12 : fnOf 12 = Tryz.f12 := by kernel_rfl
@[simp] theorem lv_12_4 : livesOf 12 4 = [2, 3, 4, 5] := by kernel_rfl
@[simp] theorem lv_12_1000004 : livesOf 12 1000004 = [2, 4] := by kernel_rfl
@[simp] theorem tb_12 (n : Nat) : tab (n + 1) 12 = some (.pure (run n 12)) := tab_pure (by kernel_rfl) (by kernel_rfl) (by kernel_rfl)
@[simp] theorem fn_13 : fnOf 13 = Tryz.f13 := by kernel_rfl
@[simp] theorem lv_13_4 : livesOf 13 4 = [0, 1, 5] := by kernel_rfl
@[simp] theorem lv_13_1000004 : livesOf 13 1000004 = [4] := by kernel_rfl
@[simp] theorem tb_13 (n : Nat) : tab (n + 1) 13 = some (.pure (run n 13)) := tab_pure (by kernel_rfl) (by kernel_rfl) (by kernel_rfl)
@[simp] theorem fn_14 : fnOf 14 = Tryz.f14 := by kernel_rfl
@[simp] theorem lv_14_5 : livesOf 14 5 = [1, 3, 16, 17] := by kernel_rfl
@[simp] theorem lv_14_1000005 : livesOf 14 1000005 = [3] := by kernel_rfl
@[simp] theorem tb_14 (n : Nat) : tab (n + 1) 14 = some (.pure (run n 14)) := tab_pure (by kernel_rfl) (by kernel_rfl) (by kernel_rfl)
@[simp] theorem fn_15 : fnOf 15 = Tryz.f15 := by kernel_rfl
@[simp] theorem lv_15_5 : livesOf 15 5 = [1, 3, 4] := by kernel_rfl
@[simp] theorem lv_15_1000005 : livesOf 15 1000005 = [3] := by kernel_rfl
@[simp] theorem tb_15 (n : Nat) : tab (n + 1) 15 = some (.pure (run n 15)) := tab_pure (by kernel_rfl) (by kernel_rfl) (by kernel_rfl)
@[simp] theorem fn_17 : fnOf 17 = Tryz.f17 := by kernel_rfl
@[simp] theorem lv_17_4 : livesOf 17 4 = [0, 1, 18, 19, 20] := by kernel_rfl
@[simp] theorem lv_17_15 : livesOf 17 15 = [0, 8, 48, 49] := by kernel_rfl
@[simp] theorem lv_17_1000004 : livesOf 17 1000004 = [0, 1, 4, 5] := by kernel_rfl
@[simp] theorem lv_17_1000015 : livesOf 17 1000015 = [8] := by kernel_rfl
@[simp] theorem tb_17 (n : Nat) : tab (n + 1) 17 = some (.pure (run n 17)) := tab_pure (by kernel_rfl) (by kernel_rfl) (by kernel_rfl)
@[simp] theorem fn_18 : fnOf 18 = Tryz.f18 := by kernel_rfl
@[simp] theorem tb_18 (n : Nat) : tab (n + 1) 18 = some (.pure (run n 18)) := tab_pure (by kernel_rfl) (by kernel_rfl) (by kernel_rfl)
@[simp] theorem fn_19 : fnOf 19 = Tryz.f19 := by kernel_rfl
@[simp] theorem tb_19 (n : Nat) : tab (n + 1) 19 = some (.pure (run n 19)) := tab_pure (by kernel_rfl) (by kernel_rfl) (by kernel_rfl)
@[simp] theorem fn_20 : fnOf 20 = Tryz.f20 := by kernel_rfl
@[simp] theorem tb_20 (n : Nat) : tab (n + 1) 20 = some (.lin [true] (runL n 20)) := tab_lin (k := false) (by kernel_rfl) (by kernel_rfl) (by kernel_rfl)
@[simp] theorem kp_20 : keepOf 20 = false := by kernel_rfl
@[simp] theorem fn_21 : fnOf 21 = Tryz.f21 := by kernel_rfl
@[simp] theorem tb_21 (n : Nat) : tab (n + 1) 21 = some (.lin [] (runL n 21)) := tab_lin (k := true) (by kernel_rfl) (by kernel_rfl) (by kernel_rfl)
@[simp] theorem kp_21 : keepOf 21 = true := by kernel_rfl
@[simp] theorem fn_25 : fnOf 25 = Tryz.f25 := by kernel_rfl
@[simp] theorem tb_25 (n : Nat) : tab (n + 1) 25 = some (.pure (run n 25)) := tab_pure (by kernel_rfl) (by kernel_rfl) (by kernel_rfl)
@[simp] theorem fn_26 : fnOf 26 = Tryz.f26 := by kernel_rfl
@[simp] theorem tb_26 (n : Nat) : tab (n + 1) 26 = some (.pure (run n 26)) := tab_pure (by kernel_rfl) (by kernel_rfl) (by kernel_rfl)
@[simp] theorem fn_28 : fnOf 28 = Tryz.f28 := by kernel_rfl
@[simp] theorem tb_28 (n : Nat) : tab (n + 1) 28 = some (.pure (run n 28)) := tab_pure (by kernel_rfl) (by kernel_rfl) (by kernel_rfl)
@[simp] theorem fn_30 : fnOf 30 = Tryz.f30 := by kernel_rfl
@[simp] theorem tb_30 (n : Nat) : tab (n + 1) 30 = some (.lin [true, false] (runL n 30)) := tab_lin (k := false) (by kernel_rfl) (by kernel_rfl) (by kernel_rfl)
@[simp] theorem kp_30 : keepOf 30 = false := by kernel_rfl
@[simp] theorem fn_31 : fnOf 31 = Tryz.f31 := by kernel_rfl
@[simp] theorem tb_31 (n : Nat) : tab (n + 1) 31 = some (.lin [true] (runL n 31)) := tab_lin (k := false) (by kernel_rfl) (by kernel_rfl) (by kernel_rfl)
@[simp] theorem kp_31 : keepOf 31 = false := by kernel_rfl
@[simp] theorem fn_32 : fnOf 32 = Tryz.f32 := by kernel_rfl
@[simp] theorem lv_32_2 : livesOf 32 2 = [1, 2, 3, 7] := by kernel_rfl
@[simp] theorem lv_32_1000002 : livesOf 32 1000002 = [6] := by kernel_rfl
@[simp] theorem tb_32 (n : Nat) : tab (n + 1) 32 = some (.pure (run n 32)) := tab_pure (by kernel_rfl) (by kernel_rfl) (by kernel_rfl)
@[simp] theorem fn_33 : fnOf 33 = Tryz.f33 := by kernel_rfl
@[simp] theorem tb_33 (n : Nat) : tab (n + 1) 33 = some (.pure (run n 33)) := tab_pure (by kernel_rfl) (by kernel_rfl) (by kernel_rfl)
@[simp] theorem fn_34 : fnOf 34 = Tryz.f34 := by kernel_rfl
@[simp] theorem tb_34 (n : Nat) : tab (n + 1) 34 = some (.pure (run n 34)) := tab_pure (by kernel_rfl) (by kernel_rfl) (by kernel_rfl)
@[simp] theorem fn_35 : fnOf 35 = Tryz.f35 := by kernel_rfl
@[simp] theorem tb_35 (n : Nat) : tab (n + 1) 35 = some (.pure (run n 35)) := tab_pure (by kernel_rfl) (by kernel_rfl) (by kernel_rfl)
@[simp] theorem fn_36 : fnOf 36 = Tryz.f36 := by kernel_rfl
@[simp] theorem tb_36 (n : Nat) : tab (n + 1) 36 = some (.pure (run n 36)) := tab_pure (by kernel_rfl) (by kernel_rfl) (by kernel_rfl)
@[simp] theorem fn_37 : fnOf 37 = Tryz.f37 := by kernel_rfl
@[simp] theorem tb_37 (n : Nat) : tab (n + 1) 37 = some (.pure (run n 37)) := tab_pure (by kernel_rfl) (by kernel_rfl) (by kernel_rfl)
@[simp] theorem fn_38 : fnOf 38 = Tryz.f38 := by kernel_rfl
@[simp] theorem tb_38 (n : Nat) : tab (n + 1) 38 = some (.pure (run n 38)) := tab_pure (by kernel_rfl) (by kernel_rfl) (by kernel_rfl)
@[simp] theorem fn_39 : fnOf 39 = Tryz.f39 := by kernel_rfl
@[simp] theorem tb_39 (n : Nat) : tab (n + 1) 39 = some (.pure (run n 39)) := tab_pure (by kernel_rfl) (by kernel_rfl) (by kernel_rfl)
@[simp] theorem fn_40 : fnOf 40 = Tryz.f40 := by kernel_rfl
@[simp] theorem lv_40_3 : livesOf 40 3 = [3, 7, 8, 9] := by kernel_rfl
@[simp] theorem lv_40_1000003 : livesOf 40 1000003 = [2] := by kernel_rfl
@[simp] theorem tb_40 (n : Nat) : tab (n + 1) 40 = some (.pure (run n 40)) := tab_pure (by kernel_rfl) (by kernel_rfl) (by kernel_rfl)
@[simp] theorem fn_41 : fnOf 41 = Tryz.f41 := by kernel_rfl
@[simp] theorem tb_41 (n : Nat) : tab (n + 1) 41 = some (.pure (run n 41)) := tab_pure (by kernel_rfl) (by kernel_rfl) (by kernel_rfl)
@[simp] theorem fn_42 : fnOf 42 = Tryz.f42 := by kernel_rfl
@[simp] theorem tb_42 (n : Nat) : tab (n + 1) 42 = some (.pure (run n 42)) := tab_pure (by kernel_rfl) (by kernel_rfl) (by kernel_rfl)
@[simp] theorem fn_43 : fnOf 43 = Tryz.f43 := by kernel_rfl
@[simp] theorem tb_43 (n : Nat) : tab (n + 1) 43 = some (.pure (run n 43)) := tab_pure (by kernel_rfl) (by kernel_rfl) (by kernel_rfl)
@[simp] theorem fn_44 : fnOf 44 = Tryz.f44 := by kernel_rfl
@[simp] theorem tb_44 (n : Nat) : tab (n + 1) 44 = some (.pure (run n 44)) := tab_pure (by kernel_rfl) (by kernel_rfl) (by kernel_rfl)
@[simp] theorem fn_45 : fnOf 45 = Tryz.f45 := by kernel_rfl
@[simp] theorem tb_45 (n : Nat) : tab (n + 1) 45 = some (.pure (run n 45)) := tab_pure (by kernel_rfl) (by kernel_rfl) (by kernel_rfl)
@[simp] theorem fn_46 : fnOf 46 = Tryz.f46 := by kernel_rfl
@[simp] theorem tb_46 (n : Nat) : tab (n + 1) 46 = some (.pure (run n 46)) := tab_pure (by kernel_rfl) (by kernel_rfl) (by kernel_rfl)
@[simp] theorem fn_47 : fnOf 47 = Tryz.f47 := by kernel_rfl
@[simp] theorem lv_47_4 : livesOf 47 4 = [0, 2, 3, 4, 5, 6, ph 3 1 39 4] := by kernel_rfl
@[simp] theorem lv_47_8 : livesOf 47 8 = [0, 2, 3, 4, 5, 7, ph 3 2 39 4] := by kernel_rfl
@[simp] theorem lv_47_1000004 : livesOf 47 1000004 = [0, 2, 3, 4, 5] := by kernel_rfl
@[simp] theorem lv_47_1000008 : livesOf 47 1000008 = [2, 3] := by kernel_rfl
@[simp] theorem tb_47 (n : Nat) : tab (n + 1) 47 = some (.lin [true] (runL n 47)) := tab_lin (k := false) (by kernel_rfl) (by kernel_rfl) (by kernel_rfl)
@[simp] theorem kp_47 : keepOf 47 = false := by kernel_rfl
@[simp] theorem fn_48 : fnOf 48 = Tryz.f48 := by kernel_rfl
@[simp] theorem lv_48_3 : livesOf 48 3 = [0, 1, 4, 5, 6, ph 5 0 26 3, ph 5 1 26 3] := by kernel_rfl
@[simp] theorem lv_48_9 : livesOf 48 9 = [0, 1, 4, 5, 9, ph 5 2 39 4] := by kernel_rfl
@[simp] theorem lv_48_1000003 : livesOf 48 1000003 = [0, 1, 4, 5] := by kernel_rfl
@[simp] theorem lv_48_1000009 : livesOf 48 1000009 = [4, 5] := by kernel_rfl
@[simp] theorem tb_48 (n : Nat) : tab (n + 1) 48 = some (.lin [true, false] (runL n 48)) := tab_lin (k := false) (by kernel_rfl) (by kernel_rfl) (by kernel_rfl)
@[simp] theorem kp_48 : keepOf 48 = false := by kernel_rfl
@[simp] theorem fn_49 : fnOf 49 = Tryz.f49 := by kernel_rfl
@[simp] theorem lv_49_3 : livesOf 49 3 = [0, 1, 4, 5, 6, ph 5 0 0 0] := by kernel_rfl
@[simp] theorem lv_49_1000003 : livesOf 49 1000003 = [4, 5] := by kernel_rfl
@[simp] theorem tb_49 (n : Nat) : tab (n + 1) 49 = some (.lin [true, false] (runL n 49)) := tab_lin (k := false) (by kernel_rfl) (by kernel_rfl) (by kernel_rfl)
@[simp] theorem kp_49 : keepOf 49 = false := by kernel_rfl
@[simp] theorem fn_50 : fnOf 50 = Tryz.f50 := by kernel_rfl
@[simp] theorem lv_50_3 : livesOf 50 3 = [0, 1, 5, 6] := by kernel_rfl
@[simp] theorem lv_50_7 : livesOf 50 7 = [0, 1, 5, 6, 7, 8] := by kernel_rfl
@[simp] theorem lv_50_1000003 : livesOf 50 1000003 = [5] := by kernel_rfl
@[simp] theorem lv_50_1000007 : livesOf 50 1000007 = [0, 1, 5, 6] := by kernel_rfl
@[simp] theorem tb_50 (n : Nat) : tab (n + 1) 50 = some (.pure (run n 50)) := tab_pure (by kernel_rfl) (by kernel_rfl) (by kernel_rfl)
@[simp] theorem fn_51 : fnOf 51 = Tryz.f51 := by kernel_rfl
@[simp] theorem tb_51 (n : Nat) : tab (n + 1) 51 = some (.pure (run n 51)) := tab_pure (by kernel_rfl) (by kernel_rfl) (by kernel_rfl)
@[simp] theorem fn_52 : fnOf 52 = Tryz.f52 := by kernel_rfl
@[simp] theorem tb_52 (n : Nat) : tab (n + 1) 52 = some (.pure (run n 52)) := tab_pure (by kernel_rfl) (by kernel_rfl) (by kernel_rfl)
@[simp] theorem fn_53 : fnOf 53 = Tryz.f53 := by kernel_rfl
@[simp] theorem tb_53 (n : Nat) : tab (n + 1) 53 = some (.pure (run n 53)) := tab_pure (by kernel_rfl) (by kernel_rfl) (by kernel_rfl)
@[simp] theorem fn_55 : fnOf 55 = Tryz.f55 := by kernel_rfl
@[simp] theorem lv_55_4 : livesOf 55 4 = [1, 3] := by kernel_rfl
@[simp] theorem lv_55_1000004 : livesOf 55 1000004 = [1, 2] := by kernel_rfl
@[simp] theorem tb_55 (n : Nat) : tab (n + 1) 55 = some (.pure (run n 55)) := tab_pure (by kernel_rfl) (by kernel_rfl) (by kernel_rfl)
@[simp] theorem fn_56 : fnOf 56 = Tryz.f56 := by kernel_rfl
@[simp] theorem lv_56_6 : livesOf 56 6 = [1, 2, 5] := by kernel_rfl
@[simp] theorem lv_56_1000006 : livesOf 56 1000006 = [4] := by kernel_rfl
@[simp] theorem tb_56 (n : Nat) : tab (n + 1) 56 = some (.pure (run n 56)) := tab_pure (by kernel_rfl) (by kernel_rfl) (by kernel_rfl)
@[simp] theorem fn_57 : fnOf 57 = Tryz.f57 := by kernel_rfl
@[simp] theorem lv_57_2 : livesOf 57 2 = [1, 2, 5] := by kernel_rfl
@[simp] theorem lv_57_1000002 : livesOf 57 1000002 = [2, 4] := by kernel_rfl
@[simp] theorem tb_57 (n : Nat) : tab (n + 1) 57 = some (.pure (run n 57)) := tab_pure (by kernel_rfl) (by kernel_rfl) (by kernel_rfl)
@[simp] theorem fn_58 : fnOf 58 = Tryz.f58 := by kernel_rfl
@[simp] theorem tb_58 (n : Nat) : tab (n + 1) 58 = some (.pure (run n 58)) := tab_pure (by kernel_rfl) (by kernel_rfl) (by kernel_rfl)
@[simp] theorem fn_61 : fnOf 61 = Tryz.f61 := by kernel_rfl
@[simp] theorem lv_61_6 : livesOf 61 6 = [1, 8, 10, 11] := by kernel_rfl
@[simp] theorem lv_61_1000006 : livesOf 61 1000006 = [10] := by kernel_rfl
@[simp] theorem tb_61 (n : Nat) : tab (n + 1) 61 = some (.pure (run n 61)) := tab_pure (by kernel_rfl) (by kernel_rfl) (by kernel_rfl)
@[simp] theorem fn_62 : fnOf 62 = Tryz.f62 := by kernel_rfl
@[simp] theorem tb_62 (n : Nat) : tab (n + 1) 62 = some (.pure (run n 62)) := tab_pure (by kernel_rfl) (by kernel_rfl) (by kernel_rfl)
@[simp] theorem fn_63 : fnOf 63 = Tryz.f63 := by kernel_rfl
@[simp] theorem lv_63_4 : livesOf 63 4 = [1, 32, 33, 34] := by kernel_rfl
@[simp] theorem lv_63_1000004 : livesOf 63 1000004 = [1, 2] := by kernel_rfl
@[simp] theorem tb_63 (n : Nat) : tab (n + 1) 63 = some (.pure (run n 63)) := tab_pure (by kernel_rfl) (by kernel_rfl) (by kernel_rfl)
@[simp] theorem fn_64 : fnOf 64 = Tryz.f64 := by kernel_rfl
@[simp] theorem lv_64_4 : livesOf 64 4 = [2, 3, 34, 35, 36] := by kernel_rfl
@[simp] theorem lv_64_1000004 : livesOf 64 1000004 = [2, 3, 4] := by kernel_rfl
@[simp] theorem tb_64 (n : Nat) : tab (n + 1) 64 = some (.pure (run n 64)) := tab_pure (by kernel_rfl) (by kernel_rfl) (by kernel_rfl)
@[simp] theorem fn_65 : fnOf 65 = Tryz.f65 := by kernel_rfl
@[simp] theorem lv_65_2 : livesOf 65 2 = [1, 2, 8, 9, 10] := by kernel_rfl
@[simp] theorem lv_65_1000002 : livesOf 65 1000002 = [2, 4] := by kernel_rfl
@[simp] theorem tb_65 (n : Nat) : tab (n + 1) 65 = some (.pure (run n 65)) := tab_pure (by kernel_rfl) (by kernel_rfl) (by kernel_rfl)
@[simp] theorem fn_66 : fnOf 66 = Tryz.f66 := by kernel_rfl
@[simp] theorem lv_66_3 : livesOf 66 3 = [1, 2, 6, 7, 11, 12, 13] := by kernel_rfl
@[simp] theorem lv_66_1000003 : livesOf 66 1000003 = [6, 7] := by kernel_rfl
@[simp] theorem tb_66 (n : Nat) : tab (n + 1) 66 = some (.pure (run n 66)) := tab_pure (by kernel_rfl) (by kernel_rfl) (by kernel_rfl)
@[simp] theorem fn_67 : fnOf 67 = Tryz.f67 := by kernel_rfl
@[simp] theorem tb_67 (n : Nat) : tab (n + 1) 67 = some (.pure (run n 67)) := tab_pure (by kernel_rfl) (by kernel_rfl) (by kernel_rfl)
@[simp] theorem fn_68 : fnOf 68 = Tryz.f68 := by kernel_rfl
@[simp] theorem tb_68 (n : Nat) : tab (n + 1) 68 = some (.pure (run n 68)) := tab_pure (by kernel_rfl) (by kernel_rfl) (by kernel_rfl)
@[simp] theorem fn_69 : fnOf 69 = Tryz.f69 := by kernel_rfl
@[simp] theorem tb_69 (n : Nat) : tab (n + 1) 69 = some (.pure (run n 69)) := tab_pure (by kernel_rfl) (by kernel_rfl) (by kernel_rfl)
@[simp] theorem fn_70 : fnOf 70 = Tryz.f70 := by kernel_rfl
@[simp] theorem tb_70 (n : Nat) : tab (n + 1) 70 = some (.pure (run n 70)) := tab_pure (by kernel_rfl) (by kernel_rfl) (by kernel_rfl)
@[simp] theorem fn_71 : fnOf 71 = Tryz.f71 := by kernel_rfl
@[simp] theorem tb_71 (n : Nat) : tab (n + 1) 71 = some (.pure (run n 71)) := tab_pure (by kernel_rfl) (by kernel_rfl) (by kernel_rfl)
@[simp] theorem fn_72 : fnOf 72 = Tryz.f72 := by kernel_rfl
@[simp] theorem tb_72 (n : Nat) : tab (n + 1) 72 = some (.pure (run n 72)) := tab_pure (by kernel_rfl) (by kernel_rfl) (by kernel_rfl)
@[simp] theorem fn_73 : fnOf 73 = Tryz.f73 := by kernel_rfl
@[simp] theorem lv_73_2 : livesOf 73 2 = [0, 1, 7, 8] := by kernel_rfl
@[simp] theorem lv_73_1000002 : livesOf 73 1000002 = [4] := by kernel_rfl
@[simp] theorem tb_73 (n : Nat) : tab (n + 1) 73 = some (.pure (run n 73)) := tab_pure (by kernel_rfl) (by kernel_rfl) (by kernel_rfl)
@[simp] theorem fn_74 : fnOf 74 = Tryz.f74 := by kernel_rfl
@[simp] theorem tb_74 (n : Nat) : tab (n + 1) 74 = some (.pure (run n 74)) := tab_pure (by kernel_rfl) (by kernel_rfl) (by kernel_rfl)
@[simp] theorem fn_75 : fnOf 75 = Tryz.f75 := by kernel_rfl
@[simp] theorem lv_75_3 : livesOf 75 3 = [0, 3, 4] := by kernel_rfl
@[simp] theorem lv_75_7 : livesOf 75 7 = [3, 4, 5, 8, 26] := by kernel_rfl
@[simp] theorem lv_75_12 : livesOf 75 12 = [3] := by kernel_rfl
@[simp] theorem lv_75_1000003 : livesOf 75 1000003 = [3] := by kernel_rfl
@[simp] theorem lv_75_1000007 : livesOf 75 1000007 = [3, 4, 5] := by kernel_rfl
@[simp] theorem lv_75_1000012 : livesOf 75 1000012 = [3] := by kernel_rfl
@[simp] theorem tb_75 (n : Nat) : tab (n + 1) 75 = some (.pure (run n 75)) := tab_pure (by kernel_rfl) (by kernel_rfl) (by kernel_rfl)
@[simp] theorem fn_76 : fnOf 76 = Tryz.f76 := by kernel_rfl
@[simp] theorem lv_76_3 : livesOf 76 3 = [3, 4, 5, 6] := by kernel_rfl
@[simp] theorem lv_76_1000003 : livesOf 76 1000003 = [4, 5] := by kernel_rfl
@[simp] theorem tb_76 (n : Nat) : tab (n + 1) 76 = some (.pure (run n 76)) := tab_pure (by kernel_rfl) (by kernel_rfl) (by kernel_rfl)
@[simp] theorem fn_77 : fnOf 77 = Tryz.f77 := by kernel_rfl
@[simp] theorem lv_77_3 : livesOf 77 3 = [2, 3, 4, 5, 6, ph 5 0 139 4] := by kernel_rfl
@[simp] theorem lv_77_1000003 : livesOf 77 1000003 = [4, 5] := by kernel_rfl
@[simp] theorem tb_77 (n : Nat) : tab (n + 1) 77 = some (.pure (run n 77)) := tab_pure (by kernel_rfl) (by kernel_rfl) (by kernel_rfl)
@[simp] theorem fn_78 : fnOf 78 = Tryz.f78 := by kernel_rfl
@[simp] theorem tb_78 (n : Nat) : tab (n + 1) 78 = some (.pure (run n 78)) := tab_pure (by kernel_rfl) (by kernel_rfl) (by kernel_rfl)
@[simp] theorem fn_79 : fnOf 79 = Tryz.f79 := by kernel_rfl
@[simp] theorem tb_79 (n : Nat) : tab (n + 1) 79 = some (.pure (run n 79)) := tab_pure (by kernel_rfl) (by kernel_rfl) (by kernel_rfl)
@[simp] theorem fn_80 : fnOf 80 = Tryz.f80 := by kernel_rfl
@[simp] theorem lv_80_2 : livesOf 80 2 = [0, 3] := by kernel_rfl
@[simp] theorem lv_80_1000002 : livesOf 80 1000002 = [0, 3] := by kernel_rfl
@[simp] theorem tb_80 (n : Nat) : tab (n + 1) 80 = some (.pure (run n 80)) := tab_pure (by kernel_rfl) (by kernel_rfl) (by kernel_rfl)
@[simp] theorem fn_81 : fnOf 81 = Tryz.f81 := by kernel_rfl
@[simp] theorem lv_81_4 : livesOf 81 4 = [0, 1, 5, 6, 7] := by kernel_rfl
@[simp] theorem lv_81_1000004 : livesOf 81 1000004 = [5, 6] := by kernel_rfl
@[simp] theorem tb_81 (n : Nat) : tab (n + 1) 81 = some (.pure (run n 81)) := tab_pure (by kernel_rfl) (by kernel_rfl) (by kernel_rfl)
@[simp] theorem fn_82 : fnOf 82 = Tryz.f82 := by kernel_rfl
@[simp] theorem lv_82_6 : livesOf 82 6 = [0, 1, 6, 7, 8] := by kernel_rfl
@[simp] theorem lv_82_1000006 : livesOf 82 1000006 = [6] := by kernel_rfl
@[simp] theorem tb_82 (n : Nat) : tab (n + 1) 82 = some (.pure (run n 82)) := tab_pure (by kernel_rfl) (by kernel_rfl) (by kernel_rfl)
@[simp] theorem fn_83 : fnOf 83 = Tryz.f83 := by kernel_rfl
@[simp] theorem lv_83_2 : livesOf 83 2 = [0, 1] := by kernel_rfl
@[simp] theorem lv_83_1000002 : livesOf 83 1000002 = [0] := by kernel_rfl
@[simp] theorem tb_83 (n : Nat) : tab (n + 1) 83 = some (.pure (run n 83)) := tab_pure (by kernel_rfl) (by kernel_rfl) (by kernel_rfl)
@[simp] theorem fn_84 : fnOf 84 = Tryz.f84 := by kernel_rfl
@[simp] theorem lv_84_9 : livesOf 84 9 = [0, 1, 11, 12, 13] := by kernel_rfl
@[simp] theorem lv_84_1000009 : livesOf 84 1000009 = [11, 12] := by kernel_rfl
@[simp] theorem tb_84 (n : Nat) : tab (n + 1) 84 = some (.pure (run n 84)) := tab_pure (by kernel_rfl) (by kernel_rfl) (by kernel_rfl)
@[simp] theorem fn_86 : fnOf 86 = Tryz.f86 := by kernel_rfl
@[simp] theorem lv_86_2 : livesOf 86 2 = [0, 1, 5] := by kernel_rfl
@[simp] theorem lv_86_1000002 : livesOf 86 1000002 = [4] := by kernel_rfl
@[simp] theorem tb_86 (n : Nat) : tab (n + 1) 86 = some (.pure (run n 86)) := tab_pure (by kernel_rfl) (by kernel_rfl) (by kernel_rfl)
@[simp] theorem fn_87 : fnOf 87 = Tryz.f87 := by kernel_rfl
@[simp] theorem lv_87_2 : livesOf 87 2 = [0, 3] := by kernel_rfl
@[simp] theorem lv_87_1000002 : livesOf 87 1000002 = [2] := by kernel_rfl
@[simp] theorem tb_87 (n : Nat) : tab (n + 1) 87 = some (.pure (run n 87)) := tab_pure (by kernel_rfl) (by kernel_rfl) (by kernel_rfl)
@[simp] theorem fn_88 : fnOf 88 = Tryz.f88 := by kernel_rfl
@[simp] theorem lv_88_4 : livesOf 88 4 = [0, 1, 5] := by kernel_rfl
@[simp] theorem lv_88_1000004 : livesOf 88 1000004 = [4] := by kernel_rfl
@[simp] theorem tb_88 (n : Nat) : tab (n + 1) 88 = some (.pure (run n 88)) := tab_pure (by kernel_rfl) (by kernel_rfl) (by kernel_rfl)
@[simp] theorem fn_89 : fnOf 89 = Tryz.f89 := by kernel_rfl
@[simp] theorem lv_89_5 : livesOf 89 5 = [1, 2, 6, 7] := by kernel_rfl
@[simp] theorem lv_89_9 : livesOf 89 9 = [2, 6, 8] := by kernel_rfl
@[simp] theorem lv_89_1000005 : livesOf 89 1000005 = [2, 6] := by kernel_rfl
@[simp] theorem lv_89_1000009 : livesOf 89 1000009 = [6] := by kernel_rfl
@[simp] theorem tb_89 (n : Nat) : tab (n + 1) 89 = some (.pure (run n 89)) := tab_pure (by kernel_rfl) (by kernel_rfl) (by kernel_rfl)
@[simp] theorem fn_90 : fnOf 90 = Tryz.f90 := by kernel_rfl
@[simp] theorem lv_90_3 : livesOf 90 3 = [1, 2, 4, 6, 7] := by kernel_rfl
@[simp] theorem lv_90_1000003 : livesOf 90 1000003 = [4, 5, 6] := by kernel_rfl
@[simp] theorem tb_90 (n : Nat) : tab (n + 1) 90 = some (.pure (run n 90)) := tab_pure (by kernel_rfl) (by kernel_rfl) (by kernel_rfl)
@[simp] theorem fn_91 : fnOf 91 = Tryz.f91 := by kernel_rfl
@[simp] theorem tb_91 (n : Nat) : tab (n + 1) 91 = some (.pure (run n 91)) := tab_pure (by kernel_rfl) (by kernel_rfl) (by kernel_rfl)
@[simp] theorem fn_92 : fnOf 92 = Tryz.f92 := by kernel_rfl
@[simp] theorem tb_92 (n : Nat) : tab (n + 1) 92 = some (.pure (run n 92)) := tab_pure (by kernel_rfl) (by kernel_rfl) (by kernel_rfl)
@[simp] theorem fn_93 : fnOf 93 = Tryz.f93 := by kernel_rfl
@[simp] theorem tb_93 (n : Nat) : tab (n + 1) 93 = some (.pure (run n 93)) := tab_pure (by kernel_rfl) (by kernel_rfl) (by kernel_rfl)
@[simp] theorem fn_94 : fnOf 94 = Tryz.f94 := by kernel_rfl
@[simp] theorem tb_94 (n : Nat) : tab (n + 1) 94 = some (.pure (run n 94)) := tab_pure (by kernel_rfl) (by kernel_rfl) (by kernel_rfl)
@[simp] theorem fn_95 : fnOf 95 = Tryz.f95 := by kernel_rfl
@[simp] theorem tb_95 (n : Nat) : tab (n + 1) 95 = some (.pure (run n 95)) := tab_pure (by kernel_rfl) (by kernel_rfl) (by kernel_rfl)
@[simp] theorem fn_96 : fnOf 96 = Tryz.f96 := by kernel_rfl
@[simp] theorem tb_96 (n : Nat) : tab (n + 1) 96 = some (.pure (run n 96)) := tab_pure (by kernel_rfl) (by kernel_rfl) (by kernel_rfl)
@[simp] theorem fn_97 : fnOf 97 = Tryz.f97 := by kernel_rfl
@[simp] theorem lv_97_3 : livesOf 97 3 = [1, 2, 6, 7, 8] := by kernel_rfl
@[simp] theorem lv_97_1000003 : livesOf 97 1000003 = [6, 7] := by kernel_rfl
@[simp] theorem tb_97 (n : Nat) : tab (n + 1) 97 = some (.pure (run n 97)) := tab_pure (by kernel_rfl) (by kernel_rfl) (by kernel_rfl)
@[simp] theorem fn_98 : fnOf 98 = Tryz.f98 := by kernel_rfl
@[simp] theorem tb_98 (n : Nat) : tab (n + 1) 98 = some (.pure (run n 98)) := tab_pure (by kernel_rfl) (by kernel_rfl) (by kernel_rfl)
@[simp] theorem fn_99 : fnOf 99 = Tryz.f99 := by kernel_rfl
@[simp] theorem tb_99 (n : Nat) : tab (n + 1) 99 = some (.pure (run n 99)) := tab_pure (by kernel_rfl) (by kernel_rfl) (by kernel_rfl)
@[simp] theorem fn_100 : fnOf 100 = Tryz.f100 := by kernel_rfl
@[simp] theorem lv_100_7 : livesOf 100 7 = [0, 1, 5] := by kernel_rfl
@[simp] theorem lv_100_1000007 : livesOf 100 1000007 = [4] := by kernel_rfl
@[simp] theorem tb_100 (n : Nat) : tab (n + 1) 100 = some (.pure (run n 100)) := tab_pure (by kernel_rfl) (by kernel_rfl) (by kernel_rfl)
@[simp] theorem fn_101 : fnOf 101 = Tryz.f101 := by kernel_rfl
@[simp] theorem tb_101 (n : Nat) : tab (n + 1) 101 = some (.pure (run n 101)) := tab_pure (by kernel_rfl) (by kernel_rfl) (by kernel_rfl)
@[simp] theorem fn_102 : fnOf 102 = Tryz.f102 := by kernel_rfl
@[simp] theorem tb_102 (n : Nat) : tab (n + 1) 102 = some (.pure (run n 102)) := tab_pure (by kernel_rfl) (by kernel_rfl) (by kernel_rfl)
@[simp] theorem fn_103 : fnOf 103 = Tryz.f103 := by kernel_rfl
@[simp] theorem tb_103 (n : Nat) : tab (n + 1) 103 = some (.pure (run n 103)) := tab_pure (by kernel_rfl) (by kernel_rfl) (by kernel_rfl)
@[simp] theorem fn_104 : fnOf 104 = Tryz.f104 := by kernel_rfl
@[simp] theorem lv_104_13 : livesOf 104 13 = [9, 10, 11, 12, 13] := by kernel_rfl
@[simp] theorem lv_104_1000013 : livesOf 104 1000013 = [9, 10, 12] := by kernel_rfl
@[simp] theorem tb_104 (n : Nat) : tab (n + 1) 104 = some (.pure (run n 104)) := tab_pure (by kernel_rfl) (by kernel_rfl) (by kernel_rfl)
@[simp] theorem fn_105 : fnOf 105 = Tryz.f105 := by kernel_rfl
@[simp] theorem lv_105_6 : livesOf 105 6 = [4, 12, 13, 14] := by kernel_rfl
@[simp] theorem lv_105_1000006 : livesOf 105 1000006 = [4] := by kernel_rfl
@[simp] theorem tb_105 (n : Nat) : tab (n + 1) 105 = some (.pure (run n 105)) := tab_pure (by kernel_rfl) (by kernel_rfl) (by kernel_rfl)
@[simp] theorem fn_106 : fnOf 106 = Tryz.f106 := by kernel_rfl
@[simp] theorem lv_106_1 : livesOf 106 1 = [0, 2, 3] := by kernel_rfl
@[simp] theorem lv_106_1000001 : livesOf 106 1000001 = [] := by kernel_rfl
@[simp] theorem tb_106 (n : Nat) : tab (n + 1) 106 = some (.lin [true] (runL n 106)) := tab_lin (k := false) (by kernel_rfl) (by kernel_rfl) (by kernel_rfl)
@[simp] theorem kp_106 : keepOf 106 = false := by kernel_rfl
@[simp] theorem fn_107 : fnOf 107 = Tryz.f107 := by kernel_rfl
@[simp] theorem lv_107_4 : livesOf 107 4 = [1, 3, 5, 6, 7, 8, 9] := by kernel_rfl
@[simp] theorem lv_107_1000004 : livesOf 107 1000004 = [1, 3, 5, 6, 7, 8] := by kernel_rfl
@[simp] theorem tb_107 (n : Nat) : tab (n + 1) 107 = some (.pure (run n 107)) := tab_pure (by kernel_rfl) (by kernel_rfl) (by kernel_rfl)
@[simp] theorem fn_108 : fnOf 108 = Tryz.f108 := by kernel_rfl
@[simp] theorem tb_108 (n : Nat) : tab (n + 1) 108 = some (.lin [true, false] (runL n 108)) := tab_lin (k := true) (by kernel_rfl) (by kernel_rfl) (by kernel_rfl)
@[simp] theorem kp_108 : keepOf 108 = true := by kernel_rfl
@[simp] theorem fn_110 : fnOf 110 = Tryz.f110 := by kernel_rfl
@[simp] theorem lv_110_2 : livesOf 110 2 = [0, 1, 5] := by kernel_rfl
@[simp] theorem lv_110_1000002 : livesOf 110 1000002 = [4] := by kernel_rfl
@[simp] theorem tb_110 (n : Nat) : tab (n + 1) 110 = some (.pure (run n 110)) := tab_pure (by kernel_rfl) (by kernel_rfl) (by kernel_rfl)
@[simp] theorem fn_111 : fnOf 111 = Tryz.f111 := by kernel_rfl
@[simp] theorem tb_111 (n : Nat) : tab (n + 1) 111 = some (.pure (run n 111)) := tab_pure (by kernel_rfl) (by kernel_rfl) (by kernel_rfl)
@[simp] theorem fn_112 : fnOf 112 = Tryz.f112 := by kernel_rfl
@[simp] theorem lv_112_6 : livesOf 112 6 = [3, 4] := by kernel_rfl
@[simp] theorem lv_112_1000006 : livesOf 112 1000006 = [3] := by kernel_rfl
@[simp] theorem tb_112 (n : Nat) : tab (n + 1) 112 = some (.pure (run n 112)) := tab_pure (by kernel_rfl) (by kernel_rfl) (by kernel_rfl)
@[simp] theorem fn_113 : fnOf 113 = Tryz.f113 := by kernel_rfl
@[simp] theorem lv_113_4 : livesOf 113 4 = [0, 1, 5, 6, 7] := by kernel_rfl
@[simp] theorem lv_113_1000004 : livesOf 113 1000004 = [5, 6] := by kernel_rfl
@[simp] theorem tb_113 (n : Nat) : tab (n + 1) 113 = some (.pure (run n 113)) := tab_pure (by kernel_rfl) (by kernel_rfl) (by kernel_rfl)
@[simp] theorem fn_114 : fnOf 114 = Tryz.f114 := by kernel_rfl
@[simp] theorem tb_114 (n : Nat) : tab (n + 1) 114 = some (.pure (run n 114)) := tab_pure (by kernel_rfl) (by kernel_rfl) (by kernel_rfl)
@[simp] theorem fn_115 : fnOf 115 = Tryz.f115 := by kernel_rfl
@[simp] theorem tb_115 (n : Nat) : tab (n + 1) 115 = some (.pure (run n 115)) := tab_pure (by kernel_rfl) (by kernel_rfl) (by kernel_rfl)
@[simp] theorem fn_116 : fnOf 116 = Tryz.f116 := by kernel_rfl
@[simp] theorem tb_116 (n : Nat) : tab (n + 1) 116 = some (.pure (run n 116)) := tab_pure (by kernel_rfl) (by kernel_rfl) (by kernel_rfl)
@[simp] theorem fn_117 : fnOf 117 = Tryz.f117 := by kernel_rfl
@[simp] theorem tb_117 (n : Nat) : tab (n + 1) 117 = some (.pure (run n 117)) := tab_pure (by kernel_rfl) (by kernel_rfl) (by kernel_rfl)
@[simp] theorem fn_118 : fnOf 118 = Tryz.f118 := by kernel_rfl
@[simp] theorem lv_118_2 : livesOf 118 2 = [0, 1, 7, 8] := by kernel_rfl
@[simp] theorem lv_118_1000002 : livesOf 118 1000002 = [4] := by kernel_rfl
@[simp] theorem tb_118 (n : Nat) : tab (n + 1) 118 = some (.pure (run n 118)) := tab_pure (by kernel_rfl) (by kernel_rfl) (by kernel_rfl)
@[simp] theorem fn_119 : fnOf 119 = Tryz.f119 := by kernel_rfl
@[simp] theorem tb_119 (n : Nat) : tab (n + 1) 119 = some (.pure (run n 119)) := tab_pure (by kernel_rfl) (by kernel_rfl) (by kernel_rfl)
@[simp] theorem fn_120 : fnOf 120 = Tryz.f120 := by kernel_rfl
@[simp] theorem tb_120 (n : Nat) : tab (n + 1) 120 = some (.pure (run n 120)) := tab_pure (by kernel_rfl) (by kernel_rfl) (by kernel_rfl)
@[simp] theorem fn_121 : fnOf 121 = Tryz.f121 := by kernel_rfl
@[simp] theorem tb_121 (n : Nat) : tab (n + 1) 121 = some (.pure (run n 121)) := tab_pure (by kernel_rfl) (by kernel_rfl) (by kernel_rfl)
@[simp] theorem fn_122 : fnOf 122 = Tryz.f122 := by kernel_rfl
@[simp] theorem tb_122 (n : Nat) : tab (n + 1) 122 = some (.pure (run n 122)) := tab_pure (by kernel_rfl) (by kernel_rfl) (by kernel_rfl)
@[simp] theorem fn_123 : fnOf 123 = Tryz.f123 := by kernel_rfl
@[simp] theorem tb_123 (n : Nat) : tab (n + 1) 123 = some (.pure (run n 123)) := tab_pure (by kernel_rfl) (by kernel_rfl) (by kernel_rfl)
@[simp] theorem fn_124 : fnOf 124 = Tryz.f124 := by kernel_rfl
@[simp] theorem tb_124 (n : Nat) : tab (n + 1) 124 = some (.pure (run n 124)) := tab_pure (by kernel_rfl) (by kernel_rfl) (by kernel_rfl)
@[simp] theorem fn_125 : fnOf 125 = Tryz.f125 := by kernel_rfl
@[simp] theorem lv_125_2 : livesOf 125 2 = [0, 3] := by kernel_rfl
@[simp] theorem lv_125_1000002 : livesOf 125 1000002 = [0, 3] := by kernel_rfl
@[simp] theorem tb_125 (n : Nat) : tab (n + 1) 125 = some (.pure (run n 125)) := tab_pure (by kernel_rfl) (by kernel_rfl) (by kernel_rfl)
@[simp] theorem fn_126 : fnOf 126 = Tryz.f126 := by kernel_rfl
@[simp] theorem tb_126 (n : Nat) : tab (n + 1) 126 = some (.pure (run n 126)) := tab_pure (by kernel_rfl) (by kernel_rfl) (by kernel_rfl)
@[simp] theorem fn_127 : fnOf 127 = Tryz.f127 := by kernel_rfl
@[simp] theorem tb_127 (n : Nat) : tab (n + 1) 127 = some (.pure (run n 127)) := tab_pure (by kernel_rfl) (by kernel_rfl) (by kernel_rfl)
@[simp] theorem fn_128 : fnOf 128 = Tryz.f128 := by kernel_rfl
@[simp] theorem lv_128_1 : livesOf 128 1 = [0, 1, 4] := by kernel_rfl
@[simp] theorem lv_128_1000001 : livesOf 128 1000001 = [0, 1, 4] := by kernel_rfl
@[simp] theorem tb_128 (n : Nat) : tab (n + 1) 128 = some (.lin [true, false] (runL n 128)) := tab_lin (k := false) (by kernel_rfl) (by kernel_rfl) (by kernel_rfl)
@[simp] theorem kp_128 : keepOf 128 = false := by kernel_rfl
@[simp] theorem fn_129 : fnOf 129 = Tryz.f129 := by kernel_rfl
@[simp] theorem lv_129_11 : livesOf 129 11 = [0, 1, 3, 4, 10, 11, 12, 13, 14, 15, 16] := by kernel_rfl
@[simp] theorem lv_129_18 : livesOf 129 18 = [0, 1, 3, 4, 10, 11, 12, 13, 17] := by kernel_rfl
@[simp] theorem lv_129_1000011 : livesOf 129 1000011 = [0, 1, 3, 4, 10, 11, 12, 13] := by kernel_rfl
@[simp] theorem lv_129_1000018 : livesOf 129 1000018 = [0, 1, 3, 4, 10, 11, 12, 13] := by kernel_rfl
@[simp] theorem tb_129 (n : Nat) : tab (n + 1) 129 = some (.lin [true, false, false, false, false] (runL n 129)) := tab_lin (k := true) (by kernel_rfl) (by kernel_rfl) (by kernel_rfl)
@[simp] theorem kp_129 : keepOf 129 = true := by kernel_rfl
@[simp] theorem fn_130 : fnOf 130 = Tryz.f130 := by kernel_rfl
@[simp] theorem tb_130 (n : Nat) : tab (n + 1) 130 = some (.pure (run n 130)) := tab_pure (by kernel_rfl) (by kernel_rfl) (by kernel_rfl)
@[simp] theorem fn_131 : fnOf 131 = Tryz.f131 := by kernel_rfl
@[simp] theorem tb_131 (n : Nat) : tab (n + 1) 131 = some (.pure (run n 131)) := tab_pure (by kernel_rfl) (by kernel_rfl) (by kernel_rfl)
@[simp] theorem fn_132 : fnOf 132 = Tryz.f132 := by kernel_rfl
@[simp] theorem lv_132_4 : livesOf 132 4 = [0, 1, 6, 7, 8] := by kernel_rfl
@[simp] theorem lv_132_1000004 : livesOf 132 1000004 = [6, 7] := by kernel_rfl
@[simp] theorem tb_132 (n : Nat) : tab (n + 1) 132 = some (.pure (run n 132)) := tab_pure (by kernel_rfl) (by kernel_rfl) (by kernel_rfl)
@[simp] theorem fn_133 : fnOf 133 = Tryz.f133 := by kernel_rfl
@[simp] theorem tb_133 (n : Nat) : tab (n + 1) 133 = some (.pure (run n 133)) := tab_pure (by kernel_rfl) (by kernel_rfl) (by kernel_rfl)
@[simp] theorem fn_134 : fnOf 134 = Tryz.f134 := by kernel_rfl
@[simp] theorem lv_134_3 : livesOf 134 3 = [1, 5, 13, 14, 15] := by kernel_rfl
@[simp] theorem lv_134_1000003 : livesOf 134 1000003 = [5] := by kernel_rfl
@[simp] theorem tb_134 (n : Nat) : tab (n + 1) 134 = some (.pure (run n 134)) := tab_pure (by kernel_rfl) (by kernel_rfl) (by kernel_rfl)
@[simp] theorem fn_135 : fnOf 135 = Tryz.f135 := by kernel_rfl
@[simp] theorem lv_135_3 : livesOf 135 3 = [0, 1, 2, 7, 8, 15, 16, 17] := by kernel_rfl
@[simp] theorem lv_135_17 : livesOf 135 17 = [0, 1, 2, 7, 70, 71, 72] := by kernel_rfl
@[simp] theorem lv_135_1000003 : livesOf 135 1000003 = [0, 1, 2, 7, 8] := by kernel_rfl
@[simp] theorem lv_135_1000017 : livesOf 135 1000017 = [0, 1, 2, 7] := by kernel_rfl
@[simp] theorem tb_135 (n : Nat) : tab (n + 1) 135 = some (.lin [true, false, false] (runL n 135)) := tab_lin (k := false) (by kernel_rfl) (by kernel_rfl) (by kernel_rfl)
@[simp] theorem kp_135 : keepOf 135 = false := by kernel_rfl
@[simp] theorem fn_136 : fnOf 136 = Tryz.f136 := by kernel_rfl
@[simp] theorem lv_136_4 : livesOf 136 4 = [0, 1, 5, 7, 8] := by kernel_rfl
@[simp] theorem lv_136_1000004 : livesOf 136 1000004 = [7] := by kernel_rfl
@[simp] theorem tb_136 (n : Nat) : tab (n + 1) 136 = some (.pure (run n 136)) := tab_pure (by kernel_rfl) (by kernel_rfl) (by kernel_rfl)
@[simp] theorem fn_137 : fnOf 137 = Tryz.f137 := by kernel_rfl
@[simp] theorem lv_137_9 : livesOf 137 9 = [0, 1, 6, 30, 31, 32] := by kernel_rfl
@[simp] theorem lv_137_1000009 : livesOf 137 1000009 = [6] := by kernel_rfl
@[simp] theorem tb_137 (n : Nat) : tab (n + 1) 137 = some (.pure (run n 137)) := tab_pure (by kernel_rfl) (by kernel_rfl) (by kernel_rfl)
@[simp] theorem fn_138 : fnOf 138 = Tryz.f138 := by kernel_rfl
@[simp] theorem tb_138 (n : Nat) : tab (n + 1) 138 = some (.pure (run n 138)) := tab_pure (by kernel_rfl) (by kernel_rfl) (by kernel_rfl)
@[simp] theorem fn_139 : fnOf 139 = Tryz.f139 := by kernel_rfl
@[simp] theorem tb_139 (n : Nat) : tab (n + 1) 139 = some (.pure (run n 139)) := tab_pure (by kernel_rfl) (by kernel_rfl) (by kernel_rfl)
@[simp] theorem fn_140 : fnOf 140 = Tryz.f140 := by kernel_rfl
@[simp] theorem tb_140 (n : Nat) : tab (n + 1) 140 = some (.pure (run n 140)) := tab_pure (by kernel_rfl) (by kernel_rfl) (by kernel_rfl)
@[simp] theorem fn_141 : fnOf 141 = Tryz.f141 := by kernel_rfl
@[simp] theorem tb_141 (n : Nat) : tab (n + 1) 141 = some (.pure (run n 141)) := tab_pure (by kernel_rfl) (by kernel_rfl) (by kernel_rfl)
@[simp] theorem fn_142 : fnOf 142 = Tryz.f142 := by kernel_rfl
@[simp] theorem lv_142_2 : livesOf 142 2 = [0, 1] := by kernel_rfl
@[simp] theorem lv_142_10 : livesOf 142 10 = [11, 13] := by kernel_rfl
@[simp] theorem lv_142_1000002 : livesOf 142 1000002 = [0, 1] := by kernel_rfl
@[simp] theorem lv_142_1000010 : livesOf 142 1000010 = [11] := by kernel_rfl
@[simp] theorem tb_142 (n : Nat) : tab (n + 1) 142 = some (.pure (run n 142)) := tab_pure (by kernel_rfl) (by kernel_rfl) (by kernel_rfl)
@[simp] theorem fn_143 : fnOf 143 = Tryz.f143 := by kernel_rfl
@[simp] theorem tb_143 (n : Nat) : tab (n + 1) 143 = some (.pure (run n 143)) := tab_pure (by kernel_rfl) (by kernel_rfl) (by kernel_rfl)
@[simp] theorem fn_144 : fnOf 144 = Tryz.f144 := by kernel_rfl
@[simp] theorem tb_144 (n : Nat) : tab (n + 1) 144 = some (.pure (run n 144)) := tab_pure (by kernel_rfl) (by kernel_rfl) (by kernel_rfl)
@[simp] theorem fn_145 : fnOf 145 = Tryz.f145 := by kernel_rfl
@[simp] theorem tb_145 (n : Nat) : tab (n + 1) 145 = some (.pure (run n 145)) := tab_pure (by kernel_rfl) (by kernel_rfl) (by kernel_rfl)
@[simp] theorem fn_146 : fnOf 146 = Tryz.f146 := by kernel_rfl
@[simp] theorem tb_146 (n : Nat) : tab (n + 1) 146 = some (.pure (run n 146)) := tab_pure (by kernel_rfl) (by kernel_rfl) (by kernel_rfl)
@[simp] theorem fn_147 : fnOf 147 = Tryz.f147 := by kernel_rfl
@[simp] theorem tb_147 (n : Nat) : tab (n + 1) 147 = some (.pure (run n 147)) := tab_pure (by kernel_rfl) (by kernel_rfl) (by kernel_rfl)
@[simp] theorem fn_148 : fnOf 148 = Tryz.f148 := by kernel_rfl
@[simp] theorem tb_148 (n : Nat) : tab (n + 1) 148 = some (.pure (run n 148)) := tab_pure (by kernel_rfl) (by kernel_rfl) (by kernel_rfl)
@[simp] theorem fn_149 : fnOf 149 = Tryz.f149 := by kernel_rfl
@[simp] theorem tb_149 (n : Nat) : tab (n + 1) 149 = some (.pure (run n 149)) := tab_pure (by kernel_rfl) (by kernel_rfl) (by kernel_rfl)
@[simp] theorem fn_150 : fnOf 150 = Tryz.f150 := by kernel_rfl
@[simp] theorem lv_150_6 : livesOf 150 6 = [1, 5, 29, 30, 31] := by kernel_rfl
@[simp] theorem lv_150_10 : livesOf 150 10 = [1, 5, 6, 7, 8, 29, 30, 31, 36, 37, 38] := by kernel_rfl
@[simp] theorem lv_150_1000006 : livesOf 150 1000006 = [5] := by kernel_rfl
@[simp] theorem lv_150_1000010 : livesOf 150 1000010 = [1, 5, 6, 8, 29, 30, 31] := by kernel_rfl
@[simp] theorem tb_150 (n : Nat) : tab (n + 1) 150 = some (.pure (run n 150)) := tab_pure (by kernel_rfl) (by kernel_rfl) (by kernel_rfl)
@[simp] theorem fn_151 : fnOf 151 = Tryz.f151 := by kernel_rfl
@[simp] theorem tb_151 (n : Nat) : tab (n + 1) 151 = some (.pure (run n 151)) := tab_pure (by kernel_rfl) (by kernel_rfl) (by kernel_rfl)
@[simp] theorem fn_152 : fnOf 152 = Tryz.f152 := by kernel_rfl
@[simp] theorem tb_152 (n : Nat) : tab (n + 1) 152 = some (.pure (run n 152)) := tab_pure (by kernel_rfl) (by kernel_rfl) (by kernel_rfl)
@[simp] theorem fn_175 : fnOf 175 = Tryz.f175 := by kernel_rfl
@[simp] theorem tb_175 (n : Nat) : tab (n + 1) 175 = some (.pure (run n 175)) := tab_pure (by kernel_rfl) (by kernel_rfl) (by kernel_rfl)
end Go.Proofs.YtjobiobdpnhooaaGreatDoor
