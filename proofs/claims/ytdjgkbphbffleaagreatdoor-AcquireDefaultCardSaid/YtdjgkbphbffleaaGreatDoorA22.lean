/-
  The row of AcquireDefault: it returns true, whatever the input; its arguments read as they did; the listed variables hold what the row lists.
-/
import Derived.Test.YtdjgkbphbffleaaGreatDoorA20
import Derived.Test.YtdjgkbphbffleaaGreatDoorA21
namespace Go.Proofs.YtdjgkbphbffleaaGreatDoor.acquireDefault
open Go.ChangeShapes Go.WideShapes Go.RowKit
set_option maxRecDepth 100000
theorem nm : Tryz.pinned.checked.prog.funcNamed "ceefax/ceefaxlaw14.AcquireDefault" = some 5 := by kernel_rfl
theorem inst : Tryz.f5.isInstance Tryz.pinned.checked.prog Rows.acquireDefaultRow.origin Rows.acquireDefaultRow.targs := of_decide_eq_true (by kernel_rfl)
theorem wrap : Tryz.f5.isWrapper Tryz.pinned.checked.prog Rows.acquireDefaultRow.wrapper Rows.acquireDefaultRow.mainSum := by
  unfold Func.isWrapper; first | (rw [if_pos (by decide +kernel)]; kernel_rfl) | (rw [if_neg (by decide +kernel)]; exact ⟨rfl, rfl⟩)
theorem over : Rows.AcquireDefaultSaid :=
  OpenClaim.holds_of_wide 5 Tryz.f5 rfl rfl rfl rfl rfl rfl rfl ⟨rfl, rfl, rfl, rfl, rfl⟩ rfl rfl rfl rfl rfl nm Tryz.func5 closedF inst wrap
    (fun os started H enc _ => lifted os started H enc)

end Go.Proofs.YtdjgkbphbffleaaGreatDoor.acquireDefault

