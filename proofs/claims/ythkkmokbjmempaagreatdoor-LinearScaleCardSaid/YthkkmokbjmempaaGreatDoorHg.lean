/- relucertlaw07.LinearScale at arguments that came in. -/
import Derived.Test.YthkkmokbjmempaaGreatDoorSl
import Derived.Test.YthkkmokbjmempaaGreatDoorLd
set_option linter.all false
set_option linter.all false
namespace Go.Proofs.YthkkmokbjmempaaGreatDoor
open Go.ChangeShapes Go.WideShapes Go.RowKit Go.Deep
theorem ls_use (w : World) {v0 v1 v2 : Value} {f : FormR} {c : Raw} {xs : List Raw} {N M K : Nat} (r0 : RepT w okT (.agg (formRC f)) v0) (r1 : RepT w okT (.agg (rawC c)) v1) (r2 : RepT w okT (.sl 3 (xs.map rawC)) v2) (k0 : okO_Affine N f) (k1 : okRaw M c) (k2 : okO_LRat K xs) (hG : Glob w okT) :
    Calls Tryz.prog 8 #[v0, v1, v2] w (RetB true w) :=
  (ls_law (okF_lim k0) (okR_lim k1) (okL_lim k2) w okT _ hG (rvs_cons r0 (rvs_cons r1 (rvs_cons r2 rvs_nil)))).mono fun _ _ h => true_end h
end Go.Proofs.YthkkmokbjmempaaGreatDoor
