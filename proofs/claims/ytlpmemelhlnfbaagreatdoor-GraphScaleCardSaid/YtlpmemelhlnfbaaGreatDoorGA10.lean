/- The examples of the document of layer 15, run. relucertlaw15.awake as a row of the table. -/
import Derived.Test.YtlpmemelhlnfbaaGreatDoorGA5
set_option linter.all false
set_option linter.all false
set_option maxRecDepth 100000
namespace Go.Proofs.YtlpmemelhlnfbaaGreatDoor
open Go.RowKit
theorem awake15_c {n : Nat} : run 16 18 [] = some (.lit (.bool true)) := by kernel_rfl
end Go.Proofs.YtlpmemelhlnfbaaGreatDoor
set_option linter.all false
namespace Go.Proofs.YtlpmemelhlnfbaaGreatDoor
open Go.RowKit

def awG (args : List AV) : Option AV := match args with | [] => some (.lit (.bool true)) | _ => none
theorem con_awake : ∀ args r, awG args = some r → Con Tryz.prog 18 args r := fun args r hr => by
  unfold awG at hr
  split at hr
  · cases hr
    exact ((tab_ok 17).pure _ _ (tb_18 16)).2 _ _ (awake15_c (n := 0))
  · cases hr
end Go.Proofs.YtlpmemelhlnfbaaGreatDoor
