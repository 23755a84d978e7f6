import Derived.Test.YtjpoanaoaeaneaaGreatDoorGA17
import Derived.Test.YtjpoanaoaeaneaaGreatDoorGA18
set_option linter.all false
namespace Go.Proofs.YtjpoanaoaeaneaaGreatDoor
open Go.ChangeShapes Go.WideShapes Go.RowKit Go.Deep
theorem lpl_use (w : World) (s : ByteArray) (hG : Glob w okT) : Calls Tryz.prog 4 #[.string s] w (RetB true w) := by
  have h := lpl_law s.data.toList
  rw [bs_self] at h
  exact (h w okT _ hG (rvs_cons (.lit _) rvs_nil)).mono fun _ _ h => true_end h
end Go.Proofs.YtjpoanaoaeaneaaGreatDoor
