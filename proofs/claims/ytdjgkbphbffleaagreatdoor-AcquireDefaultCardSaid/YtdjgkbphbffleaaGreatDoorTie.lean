/-
  DERIVED. GIVEN WITH THE SEED: THE PROGRAM's TIES (one call each: nine closed facts by the kernel) AND EACH ROW's TIE, after the 31st guide's Derived/Test/Toyas{Tie, Card}.lean. No idea stands in it: it is a product of the set-up. Laid BY PROGRAM, IN A SANDBOX (cutbox-door.mjs). By AI agents, Wed Nov 11 2026. No macro, syntax, notation, axiom, sorry.
-/
import Derived.Test.YtdjgkbphbffleaaGreatDoorRows
import Derived.LaidByTextLater
import Derived.SevenTiedAt
import Derived.LaidSub
import Derived.LaidOnce
namespace Go.Proofs.YtdjgkbphbffleaaGreatDoor
open Go
set_option maxRecDepth 100000
theorem seatTie1 : Tryz.prog.laidByTextLater [("ceefax/api.ErrRange", Rows.laid_ceefax_api_ErrRange), ("ceefax/api.ErrLength", Rows.laid_ceefax_api_ErrLength), ("ceefax/api.ErrBits", Rows.laid_ceefax_api_ErrBits), ("ceefax/api.ErrKind", Rows.laid_ceefax_api_ErrKind), ("ceefax/api.ErrNone", Rows.laid_ceefax_api_ErrNone), ("ceefax/api.ErrMode", Rows.laid_ceefax_api_ErrMode)] [.sentinel, .sentinel, .sentinel, .sentinel, .sentinel, .sentinel] true :=
  Program.laidByTextLater_by_one 123 8 2 (by kernel_rfl) (by kernel_rfl) (by kernel_rfl) (by kernel_rfl) (by kernel_rfl) (by kernel_rfl) (fun _ _ => by kernel_rfl)
theorem noOwnUnsafe : Tryz.pinned.checked.prog.headLifts.contains "ownunsafe" = false := by kernel_rfl
theorem tie : Tryz.prog.laidByTextLater [("ceefax/api.ErrRange", Rows.laid_ceefax_api_ErrRange), ("ceefax/api.ErrLength", Rows.laid_ceefax_api_ErrLength), ("ceefax/api.ErrBits", Rows.laid_ceefax_api_ErrBits), ("ceefax/api.ErrKind", Rows.laid_ceefax_api_ErrKind), ("ceefax/api.ErrNone", Rows.laid_ceefax_api_ErrNone), ("ceefax/api.ErrMode", Rows.laid_ceefax_api_ErrMode)] [.sentinel, .sentinel, .sentinel, .sentinel, .sentinel, .sentinel] true :=
  Program.laidByTextLater.sub seatTie1 ["ceefax/api.ErrRange", "ceefax/api.ErrLength", "ceefax/api.ErrBits", "ceefax/api.ErrKind", "ceefax/api.ErrNone", "ceefax/api.ErrMode"] (by kernel_rfl) (by kernel_rfl)
theorem acquireMends_row_tie : Rows.acquireMendsRow.laidByTextAt .later Tryz.pinned [.sentinel, .sentinel, .sentinel, .sentinel, .sentinel, .sentinel] true :=
  OpenClaim.laidByTextAt_later rfl rfl tie noOwnUnsafe
theorem acquireCarousel_row_tie : Rows.acquireCarouselRow.laidByTextAt .later Tryz.pinned [.sentinel, .sentinel, .sentinel, .sentinel, .sentinel, .sentinel] true :=
  OpenClaim.laidByTextAt_later rfl rfl tie noOwnUnsafe
theorem acquireDefault_row_tie : Rows.acquireDefaultRow.laidByTextAt .later Tryz.pinned [.sentinel, .sentinel, .sentinel, .sentinel, .sentinel, .sentinel] true :=
  OpenClaim.laidByTextAt_later rfl rfl tie noOwnUnsafe
theorem acquireParallel_row_tie : Rows.acquireParallelRow.laidByTextAt .later Tryz.pinned [.sentinel, .sentinel, .sentinel, .sentinel, .sentinel, .sentinel] true :=
  OpenClaim.laidByTextAt_later rfl rfl tie noOwnUnsafe
theorem acquirePlays_row_tie : Rows.acquirePlaysRow.laidByTextAt .later Tryz.pinned [.sentinel, .sentinel, .sentinel, .sentinel, .sentinel, .sentinel] true :=
  OpenClaim.laidByTextAt_later rfl rfl tie noOwnUnsafe
theorem teletextPlays_row_tie : Rows.teletextPlaysRow.laidByTextAt .later Tryz.pinned [.sentinel, .sentinel, .sentinel, .sentinel, .sentinel, .sentinel] true :=
  OpenClaim.laidByTextAt_later rfl rfl tie noOwnUnsafe
theorem tie2 : Tryz.prog.laidByTextLater [("ceefax/api.ErrRange", Rows.laid_ceefax_api_ErrRange), ("ceefax/api.ErrLength", Rows.laid_ceefax_api_ErrLength), ("ceefax/api.ErrBits", Rows.laid_ceefax_api_ErrBits), ("ceefax/api.ErrKind", Rows.laid_ceefax_api_ErrKind)] [.sentinel, .sentinel, .sentinel, .sentinel] true :=
  Program.laidByTextLater.sub seatTie1 ["ceefax/api.ErrRange", "ceefax/api.ErrLength", "ceefax/api.ErrBits", "ceefax/api.ErrKind"] (by kernel_rfl) (by kernel_rfl)
theorem teletextKeeps_row_tie : Rows.teletextKeepsRow.laidByTextAt .later Tryz.pinned [.sentinel, .sentinel, .sentinel, .sentinel] true :=
  OpenClaim.laidByTextAt_later rfl rfl tie2 noOwnUnsafe
theorem teletextTicks_row_tie : Rows.teletextTicksRow.laidByTextAt .later Tryz.pinned [.sentinel, .sentinel, .sentinel, .sentinel] true :=
  OpenClaim.laidByTextAt_later rfl rfl tie2 noOwnUnsafe
theorem teletextFinds_row_tie : Rows.teletextFindsRow.laidByTextAt .later Tryz.pinned [.sentinel, .sentinel, .sentinel, .sentinel] true :=
  OpenClaim.laidByTextAt_later rfl rfl tie2 noOwnUnsafe
theorem teletextHold_row_tie : Rows.teletextHoldRow.laidByTextAt .later Tryz.pinned [.sentinel, .sentinel, .sentinel, .sentinel] true :=
  OpenClaim.laidByTextAt_later rfl rfl tie2 noOwnUnsafe
theorem teletextMends_row_tie : Rows.teletextMendsRow.laidByTextAt .later Tryz.pinned [.sentinel, .sentinel, .sentinel, .sentinel] true :=
  OpenClaim.laidByTextAt_later rfl rfl tie2 noOwnUnsafe
theorem acquireMendsUpto_row_tie : Rows.acquireMendsUptoRow.laidByTextAt .later Tryz.pinned [.sentinel, .sentinel, .sentinel, .sentinel, .sentinel, .sentinel] true :=
  OpenClaim.laidByTextAt_later rfl rfl tie noOwnUnsafe
theorem acquireCarouselUpto_row_tie : Rows.acquireCarouselUptoRow.laidByTextAt .later Tryz.pinned [.sentinel, .sentinel, .sentinel, .sentinel, .sentinel, .sentinel] true :=
  OpenClaim.laidByTextAt_later rfl rfl tie noOwnUnsafe
theorem acquireDefaultUpto_row_tie : Rows.acquireDefaultUptoRow.laidByTextAt .later Tryz.pinned [.sentinel, .sentinel, .sentinel, .sentinel, .sentinel, .sentinel] true :=
  OpenClaim.laidByTextAt_later rfl rfl tie noOwnUnsafe
theorem acquireParallelUpto_row_tie : Rows.acquireParallelUptoRow.laidByTextAt .later Tryz.pinned [.sentinel, .sentinel, .sentinel, .sentinel, .sentinel, .sentinel] true :=
  OpenClaim.laidByTextAt_later rfl rfl tie noOwnUnsafe
theorem acquirePlaysUpto_row_tie : Rows.acquirePlaysUptoRow.laidByTextAt .later Tryz.pinned [.sentinel, .sentinel, .sentinel, .sentinel, .sentinel, .sentinel] true :=
  OpenClaim.laidByTextAt_later rfl rfl tie noOwnUnsafe
theorem teletextKeepsUpto_row_tie : Rows.teletextKeepsUptoRow.laidByTextAt .later Tryz.pinned [.sentinel, .sentinel, .sentinel, .sentinel] true :=
  OpenClaim.laidByTextAt_later rfl rfl tie2 noOwnUnsafe
theorem teletextTicksUpto_row_tie : Rows.teletextTicksUptoRow.laidByTextAt .later Tryz.pinned [.sentinel, .sentinel, .sentinel, .sentinel] true :=
  OpenClaim.laidByTextAt_later rfl rfl tie2 noOwnUnsafe
theorem teletextFindsUpto_row_tie : Rows.teletextFindsUptoRow.laidByTextAt .later Tryz.pinned [.sentinel, .sentinel, .sentinel, .sentinel] true :=
  OpenClaim.laidByTextAt_later rfl rfl tie2 noOwnUnsafe
theorem teletextHoldUpto_row_tie : Rows.teletextHoldUptoRow.laidByTextAt .later Tryz.pinned [.sentinel, .sentinel, .sentinel, .sentinel] true :=
  OpenClaim.laidByTextAt_later rfl rfl tie2 noOwnUnsafe
theorem teletextPlaysUpto_row_tie : Rows.teletextPlaysUptoRow.laidByTextAt .later Tryz.pinned [.sentinel, .sentinel, .sentinel, .sentinel, .sentinel, .sentinel] true :=
  OpenClaim.laidByTextAt_later rfl rfl tie noOwnUnsafe
theorem teletextMendsUpto_row_tie : Rows.teletextMendsUptoRow.laidByTextAt .later Tryz.pinned [.sentinel, .sentinel, .sentinel, .sentinel] true :=
  OpenClaim.laidByTextAt_later rfl rfl tie2 noOwnUnsafe
end Go.Proofs.YtdjgkbphbffleaaGreatDoor
