/- The examples of the document of layer 7, run. relucertlaw07.awake as a row of the table. -/
import Derived.Test.YthkkmokbjmempaaGreatDoorUe
set_option linter.all false
set_option linter.all false
set_option maxRecDepth 100000
namespace Go.Proofs.YthkkmokbjmempaaGreatDoor
open Go.RowKit
theorem awake_c {n : Nat} : run 12 16 [] = some (.lit (.bool true)) := by kernel_rfl
end Go.Proofs.YthkkmokbjmempaaGreatDoor
set_option linter.all false
namespace Go.Proofs.YthkkmokbjmempaaGreatDoor
open Go.RowKit

def awG (args : List AV) : Option AV := match args with | [] => some (.lit (.bool true)) | _ => none
theorem con_awake : ∀ args r, awG args = some r → Con Tryz.prog 16 args r := fun args r hr => by
  unfold awG at hr
  split at hr
  · cases hr
    exact ((tab_ok 13).pure _ _ (tb_16 12)).2 _ _ (awake_c (n := 0))
  · cases hr
end Go.Proofs.YthkkmokbjmempaaGreatDoor
