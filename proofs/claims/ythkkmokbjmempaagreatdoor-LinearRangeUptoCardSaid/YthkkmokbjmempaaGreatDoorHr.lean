/- relucertlaw07.LinearRange at arguments that came in. -/
import Derived.Test.YthkkmokbjmempaaGreatDoorRl
import Derived.Test.YthkkmokbjmempaaGreatDoorLd
set_option linter.all false
set_option linter.all false
namespace Go.Proofs.YthkkmokbjmempaaGreatDoor
open Go.ChangeShapes Go.WideShapes Go.RowKit Go.Deep
theorem lr_use (w : World) {v0 v1 : Value} {f : FormR} {xs : List TIntervalR} {N M : Nat} (r0 : RepT w okT (.agg (formRC f)) v0) (r1 : RepT w okT (.sl 6 (xs.map intervalRC)) v1) (k0 : okO_Affine N f) (k1 : okO_LInterval M xs) (hM : M ≤ 1048576) (hG : Glob w okT) :
    Calls Tryz.prog 9 #[v0, v1] w (RetB true w) :=
  (lr_law (okF_lim k0) (Nat.le_trans k1.1 (by omega)) (fun r hr => ⟨okR_lim (k1.2 r hr).1, okR_lim (k1.2 r hr).2⟩) w okT _ hG (rvs_cons r0 (rvs_cons r1 rvs_nil))).mono fun _ _ h => true_end h
end Go.Proofs.YthkkmokbjmempaaGreatDoor
