/-
  'ceefaxlaw14.AcquireDefault' returns true, whatever the input; its arguments read as they did; what the row lists is tied to the program's text (a pruned copy of the project).
-/
import Derived.Test.YtdjgkbphbffleaaGreatDoorA22
import Derived.Test.YtdjgkbphbffleaaGreatDoorCards
import Derived.Test.YtdjgkbphbffleaaGreatDoorTie
namespace Go.Proofs.YtdjgkbphbffleaaGreatDoor.acquireDefault
open Go.ChangeShapes Go.WideShapes Go.RowKit
set_option maxRecDepth 100000
/-- The law, tied to the program's text. -/
theorem proved : Rows.AcquireDefaultCardSaid :=
  Claim7.holds_tied_plain_at .later [] [.sentinel, .sentinel, .sentinel, .sentinel, .sentinel, .sentinel] true (true, "1f84a7b420bb70f7f7c4cabbb532224cc0a34bab782339d6b6a42595f74cb0c9") true
    over (fun _ h => by cases h) (by kernel_rfl) (fun _ h => by cases h) acquireDefault_row_tie rfl ⟨rfl, rfl⟩ (by kernel_rfl) rfl
    (fun f fn hf hfn => by
      obtain rfl : f = 5 := Option.some.inj ((show Tryz.prog.funcNamed "ceefax/ceefaxlaw14.AcquireDefault" = some 5 by kernel_rfl).symm.trans hf) |>.symm
      obtain rfl : fn = Tryz.f5 := (Option.some.inj (Tryz.func5.symm.trans hfn)).symm
      exact ⟨by kernel_rfl, fun j t ht => by
        rw [Tryz.params5] at ht
        have h3 : t = 3 ∨ t = 4 := by
          rcases j with _ | _ | _ | _ | j
          · exact .inl (by simpa using ht.symm)
          · exact .inl (by simpa using ht.symm)
          · exact .inr (by simpa using ht.symm)
          · exact .inr (by simpa using ht.symm)
          · simp at ht
        rcases h3 with rfl | rfl
        · exact (show Tryz.prog.wantsStandIn 3 = false by kernel_rfl)
        · exact (show Tryz.prog.wantsStandIn 4 = false by kernel_rfl)⟩)
    (by kernel_rfl)
end Go.Proofs.YtdjgkbphbffleaaGreatDoor.acquireDefault

