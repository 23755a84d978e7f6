/- relucertlaw07.awake as a row of the table. -/
import Derived.Test.YthkkmokbjmempaaGreatDoorAk
set_option linter.all false
set_option linter.all false
namespace Go.Proofs.YthkkmokbjmempaaGreatDoor
open Go.RowKit

def awG (args : List AV) : Option AV := match args with | [] => some (.lit (.bool true)) | _ => none
theorem con_awake : ∀ args r, awG args = some r → Con Tryz.prog 16 args r := fun args r hr => by
  unfold awG at hr
  split at hr
  · cases hr
    exact ((tab_ok 13).pure _ _ (tb_16 12)).2 _ _ (awake_c (n := 0))
  · cases hr
end Go.Proofs.YthkkmokbjmempaaGreatDoor
