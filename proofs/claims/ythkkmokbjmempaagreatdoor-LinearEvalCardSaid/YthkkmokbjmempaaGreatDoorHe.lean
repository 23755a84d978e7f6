/- relucertlaw07.LinearEval at arguments that came in. -/
import Derived.Test.YthkkmokbjmempaaGreatDoorEl
import Derived.Test.YthkkmokbjmempaaGreatDoorLd
set_option linter.all false
set_option linter.all false
namespace Go.Proofs.YthkkmokbjmempaaGreatDoor
open Go.ChangeShapes Go.WideShapes Go.RowKit Go.Deep
theorem le_use (w : World) {v0 v1 : Value} {f : FormR} {xs : List Raw} {z : Int} {N M : Nat} (r0 : RepT w okT (.agg (formRC f)) v0) (r1 : RepT w okT (.sl 3 (xs.map rawC)) v1) (k0 : okO_Affine N f) (k1 : okO_LRat M xs) (hG : Glob w okT) :
    Calls Tryz.prog 10 #[v0, v1, .int .i64 z] w (RetB true w) :=
  (le_law (v := z) (okF_lim k0) (okL_lim k1) w okT _ hG (rvs_cons r0 (rvs_cons r1 (rvs_cons (.lit _) rvs_nil)))).mono fun _ _ h => true_end h
end Go.Proofs.YthkkmokbjmempaaGreatDoor
