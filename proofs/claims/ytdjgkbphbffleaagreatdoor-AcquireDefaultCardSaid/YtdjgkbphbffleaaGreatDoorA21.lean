/-
  The closed facts of the row of AcquireDefault.
-/
import Derived.Test.YtdjgkbphbffleaaGreatDoorRows
import Derived.JoinedOf
namespace Go.Proofs.YtdjgkbphbffleaaGreatDoor.acquireDefault

theorem closedF : joinedFacts Tryz.pinned.checked.prog 5 Tryz.f5 Rows.acquireDefaultSpec Rows.acquireDefaultRow = true := by kernel_rfl
end Go.Proofs.YtdjgkbphbffleaaGreatDoor.acquireDefault

