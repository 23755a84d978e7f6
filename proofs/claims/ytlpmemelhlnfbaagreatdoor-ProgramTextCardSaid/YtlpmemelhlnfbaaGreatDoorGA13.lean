/- The examples of the document of layer 27, run. relucertlaw27.awake as a row of the table. Walks: relucertlaw27.ProgramText@0^. Walks: program.Text@0. Walks: relucertref27.Text@0. -/
import Derived.Test.YtlpmemelhlnfbaaGreatDoorGA5
import Derived.Test.YtlpmemelhlnfbaaGreatDoorGA6
set_option linter.all false
set_option linter.all false
set_option maxRecDepth 100000
namespace Go.Proofs.YtlpmemelhlnfbaaGreatDoor
open Go.RowKit
theorem awake27_c {n : Nat} : run 16 14 [] = some (.lit (.bool true)) := by kernel_rfl
end Go.Proofs.YtlpmemelhlnfbaaGreatDoor
set_option linter.all false
namespace Go.Proofs.YtlpmemelhlnfbaaGreatDoor
open Go.RowKit

def awG (args : List AV) : Option AV := match args with | [] => some (.lit (.bool true)) | _ => none
theorem con_awake : ∀ args r, awG args = some r → Con Tryz.prog 14 args r := fun args r hr => by
  unfold awG at hr
  split at hr
  · cases hr
    exact ((tab_ok 17).pure _ _ (tb_14 16)).2 _ _ (awake27_c (n := 0))
  · cases hr
end Go.Proofs.YtlpmemelhlnfbaaGreatDoor
set_option linter.all false
set_option maxRecDepth 100000
set_option maxHeartbeats 6400000
namespace Go.Proofs.YtlpmemelhlnfbaaGreatDoor
open Go.RowKit

/-! relucertlaw27.ProgramText, level 9 -/
noncomputable def plwT (n : Nat) : FuncId → Option Orc := ext (tab (n + 9)) 14 (.pure awG)
theorem plwT_ok (n : Nat) : OrcOk Tryz.prog (plwT n) := (tab_ok (n + 9)).extP (by kernel_rfl) con_awake
noncomputable def plw (n : Nat) (args : List AV) : Option AV := fnP Tryz.prog (plwT n) (livesOf 3) big (fnOf 3) args
theorem plw_con {n : Nat} {args : List AV} {r : AV} (h : plw n args = some r) : Con Tryz.prog 3 args r :=
  con_of (plwT_ok n) mixed (plain_fn (by kernel_rfl)) (body_some (by kernel_rfl) (plain_fn (by kernel_rfl))) h
theorem plw_aw (n : Nat) : plwT n 14 = some (.pure awG) := by unfold plwT ext; rw [if_pos rfl]
theorem plw_l15 (n : Nat) : plwT n 15 = some (.pure (run (n + 8) 15)) := by unfold plwT ext; rw [if_neg (by decide)]; exact tb_15 _
theorem plw_l16 (n : Nat) : plwT n 16 = some (.pure (run (n + 8) 16)) := by unfold plwT ext; rw [if_neg (by decide)]; exact tb_16 _
theorem plw_l17 (n : Nat) : plwT n 17 = some (.pure (run (n + 8) 17)) := by unfold plwT ext; rw [if_neg (by decide)]; exact tb_17 _
theorem plw_f1 {n : Nat} {a0 : TProgramR} {r : Bool} (K1 : run (n + 8) 15 [programRV a0] = some (.lit (.bool r))) (C2 : r = false) :
    plw n [programRV a0] = some (.lit (.bool true)) := by
  simp only [programRV] at K1
  unfold plw fnP
  simp +decide [Tryz.f3, K1, C2, plw_aw, awG, plw_l15, plw_l16, plw_l17]
theorem plw_f2 {n : Nat} {a0 : TProgramR} {r : Bool} {r2 : ByteArray} {r3 : ByteArray} (K1 : run (n + 8) 15 [programRV a0] = some (.lit (.bool r))) (C2 : r = true) (K3 : run (n + 8) 16 [programRV a0] = some (.lit (.string r2))) (K4 : run (n + 8) 17 [programRV a0] = some (.lit (.string r3))) :
    plw n [programRV a0] = some (.lit (.bool (r2.toList == r3.toList))) := by
  simp only [programRV] at K1
  simp only [programRV] at K3
  simp only [programRV] at K4
  unfold plw fnP
  simp +decide [Tryz.f3, K1, C2, K3, K4, plw_aw, awG, plw_l15, plw_l16, plw_l17]
end Go.Proofs.YtlpmemelhlnfbaaGreatDoor
set_option linter.all false
set_option maxRecDepth 100000
set_option maxHeartbeats 6400000
namespace Go.Proofs.YtlpmemelhlnfbaaGreatDoor
open Go.RowKit

theorem ptxR_f1 {n : Nat} {a0 : TProgramR} {r : Bool} (K1 : run (n + 7) 65 [programRV a0] = some (.lit (.bool r))) (C2 : r = false) :
    run (n + 8) 16 [programRV a0] = some (.lit (.string (⟨#[]⟩ : ByteArray))) := by
  simp only [programRV] at K1
  unfold run fnP
  simp +decide [Tryz.f16, K1, C2]
end Go.Proofs.YtlpmemelhlnfbaaGreatDoor
set_option linter.all false
set_option maxRecDepth 100000
set_option maxHeartbeats 6400000
namespace Go.Proofs.YtlpmemelhlnfbaaGreatDoor
open Go.RowKit

theorem ptfR_f1 {n : Nat} {a0 : TProgramR} {r : Bool} (K1 : run (n + 6) 71 [programRV a0] = some (.lit (.bool r))) (C2 : r = false) :
    run (n + 7) 17 [programRV a0] = some (.lit (.string (⟨#[]⟩ : ByteArray))) := by
  simp only [programRV] at K1
  unfold run fnP
  simp +decide [Tryz.f17, K1, C2]
end Go.Proofs.YtlpmemelhlnfbaaGreatDoor
