/-
  DERIVED. GIVEN WITH THE SEED: THE CARDS: each row of YtdjgkbphbffleaaGreatDoorRows.lean that lists a variable, with what it lists TIED to the program's text (the seventh form; the later family's looks); each row that meets fmt, with fmt's text TOLD by the authors' own Lean function (tested against real Go, not proved from fmt's source: count such statements apart). THE CARD IS WHAT COUNTS. Prove the row's statement (the work); the ties are given (YtdjgkbphbffleaaGreatDoorTie.lean); close each card by the builder's one call (the guide's Derived/Test/ToyasCard.lean, 'card_holds'). Laid BY PROGRAM, IN A SANDBOX (cutbox-door.mjs). By AI agents, Wed Nov 11 2026. No macro, syntax, notation, axiom, sorry.
-/
import Derived.Test.YtdjgkbphbffleaaGreatDoorRows
import GoSem.ClaimSeven
namespace Go.Proofs.YtdjgkbphbffleaaGreatDoor
namespace Rows

/-- THE TIED CARD OF 'ceefaxlaw14.AcquireMends'. -/
def acquireMendsCard : Claim7 := { stood := { row := acquireMendsRow, standIns := [], harness := (true, "1f84a7b420bb70f7f7c4cabbb532224cc0a34bab782339d6b6a42595f74cb0c9"), looks := true }, kinds := [], alts := [], laidByText := true, laidKinds := [.sentinel, .sentinel, .sentinel, .sentinel, .sentinel, .sentinel], laidTests := true, laidLooks := .later }
def AcquireMendsCardSaid : Prop := Claim7.holds Tryz.pinned (.plain (OpenSpec.ofChange acquireMendsSpec)) acquireMendsCard

/-- THE TIED CARD OF 'ceefaxlaw14.AcquireCarousel'. -/
def acquireCarouselCard : Claim7 := { stood := { row := acquireCarouselRow, standIns := [], harness := (true, "1f84a7b420bb70f7f7c4cabbb532224cc0a34bab782339d6b6a42595f74cb0c9"), looks := true }, kinds := [], alts := [], laidByText := true, laidKinds := [.sentinel, .sentinel, .sentinel, .sentinel, .sentinel, .sentinel], laidTests := true, laidLooks := .later }
def AcquireCarouselCardSaid : Prop := Claim7.holds Tryz.pinned (.plain (OpenSpec.ofChange acquireCarouselSpec)) acquireCarouselCard

/-- THE TIED CARD OF 'ceefaxlaw14.AcquireDefault'. -/
def acquireDefaultCard : Claim7 := { stood := { row := acquireDefaultRow, standIns := [], harness := (true, "1f84a7b420bb70f7f7c4cabbb532224cc0a34bab782339d6b6a42595f74cb0c9"), looks := true }, kinds := [], alts := [], laidByText := true, laidKinds := [.sentinel, .sentinel, .sentinel, .sentinel, .sentinel, .sentinel], laidTests := true, laidLooks := .later }
def AcquireDefaultCardSaid : Prop := Claim7.holds Tryz.pinned (.plain (OpenSpec.ofChange acquireDefaultSpec)) acquireDefaultCard

/-- THE TIED CARD OF 'ceefaxlaw14.AcquireParallel'. -/
def acquireParallelCard : Claim7 := { stood := { row := acquireParallelRow, standIns := [], harness := (true, "1f84a7b420bb70f7f7c4cabbb532224cc0a34bab782339d6b6a42595f74cb0c9"), looks := true }, kinds := [], alts := [], laidByText := true, laidKinds := [.sentinel, .sentinel, .sentinel, .sentinel, .sentinel, .sentinel], laidTests := true, laidLooks := .later }
def AcquireParallelCardSaid : Prop := Claim7.holds Tryz.pinned (.plain (OpenSpec.ofChange acquireParallelSpec)) acquireParallelCard

/-- THE TIED CARD OF 'ceefaxlaw14.AcquirePlays'. -/
def acquirePlaysCard : Claim7 := { stood := { row := acquirePlaysRow, standIns := [], harness := (true, "1f84a7b420bb70f7f7c4cabbb532224cc0a34bab782339d6b6a42595f74cb0c9"), looks := true }, kinds := [], alts := [], laidByText := true, laidKinds := [.sentinel, .sentinel, .sentinel, .sentinel, .sentinel, .sentinel], laidTests := true, laidLooks := .later }
def AcquirePlaysCardSaid : Prop := Claim7.holds Tryz.pinned (.plain (OpenSpec.ofChange acquirePlaysSpec)) acquirePlaysCard

/-- THE TIED CARD OF 'ceefaxlaw19.TeletextKeeps'. -/
def teletextKeepsCard : Claim7 := { stood := { row := teletextKeepsRow, standIns := [], harness := (true, "1f84a7b420bb70f7f7c4cabbb532224cc0a34bab782339d6b6a42595f74cb0c9"), looks := true }, kinds := [], alts := [], laidByText := true, laidKinds := [.sentinel, .sentinel, .sentinel, .sentinel], laidTests := true, laidLooks := .later }
def TeletextKeepsCardSaid : Prop := Claim7.holds Tryz.pinned (.plain (OpenSpec.ofChange teletextKeepsSpec)) teletextKeepsCard

/-- THE TIED CARD OF 'ceefaxlaw19.TeletextTicks'. -/
def teletextTicksCard : Claim7 := { stood := { row := teletextTicksRow, standIns := [], harness := (true, "1f84a7b420bb70f7f7c4cabbb532224cc0a34bab782339d6b6a42595f74cb0c9"), looks := true }, kinds := [], alts := [], laidByText := true, laidKinds := [.sentinel, .sentinel, .sentinel, .sentinel], laidTests := true, laidLooks := .later }
def TeletextTicksCardSaid : Prop := Claim7.holds Tryz.pinned (.plain (OpenSpec.ofChange teletextTicksSpec)) teletextTicksCard

/-- THE TIED CARD OF 'ceefaxlaw19.TeletextFinds'. -/
def teletextFindsCard : Claim7 := { stood := { row := teletextFindsRow, standIns := [], harness := (true, "1f84a7b420bb70f7f7c4cabbb532224cc0a34bab782339d6b6a42595f74cb0c9"), looks := true }, kinds := [], alts := [], laidByText := true, laidKinds := [.sentinel, .sentinel, .sentinel, .sentinel], laidTests := true, laidLooks := .later }
def TeletextFindsCardSaid : Prop := Claim7.holds Tryz.pinned (.plain (OpenSpec.ofChange teletextFindsSpec)) teletextFindsCard

/-- THE TIED CARD OF 'ceefaxlaw19.TeletextHold'. -/
def teletextHoldCard : Claim7 := { stood := { row := teletextHoldRow, standIns := [], harness := (true, "1f84a7b420bb70f7f7c4cabbb532224cc0a34bab782339d6b6a42595f74cb0c9"), looks := true }, kinds := [], alts := [], laidByText := true, laidKinds := [.sentinel, .sentinel, .sentinel, .sentinel], laidTests := true, laidLooks := .later }
def TeletextHoldCardSaid : Prop := Claim7.holds Tryz.pinned (.plain (OpenSpec.ofChange teletextHoldSpec)) teletextHoldCard

/-- THE TIED CARD OF 'ceefaxlaw19.TeletextPlays'. -/
def teletextPlaysCard : Claim7 := { stood := { row := teletextPlaysRow, standIns := [], harness := (true, "1f84a7b420bb70f7f7c4cabbb532224cc0a34bab782339d6b6a42595f74cb0c9"), looks := true }, kinds := [], alts := [], laidByText := true, laidKinds := [.sentinel, .sentinel, .sentinel, .sentinel, .sentinel, .sentinel], laidTests := true, laidLooks := .later }
def TeletextPlaysCardSaid : Prop := Claim7.holds Tryz.pinned (.plain (OpenSpec.ofChange teletextPlaysSpec)) teletextPlaysCard

/-- THE TIED CARD OF 'ceefaxlaw19.TeletextMends'. -/
def teletextMendsCard : Claim7 := { stood := { row := teletextMendsRow, standIns := [], harness := (true, "1f84a7b420bb70f7f7c4cabbb532224cc0a34bab782339d6b6a42595f74cb0c9"), looks := true }, kinds := [], alts := [], laidByText := true, laidKinds := [.sentinel, .sentinel, .sentinel, .sentinel], laidTests := true, laidLooks := .later }
def TeletextMendsCardSaid : Prop := Claim7.holds Tryz.pinned (.plain (OpenSpec.ofChange teletextMendsSpec)) teletextMendsCard

/-- THE SECOND FORM's CARD OF 'ceefaxlaw14.AcquireMends'. -/
def acquireMendsUptoCard : Claim7 := { stood := { row := acquireMendsUptoRow, standIns := [], harness := (true, "1f84a7b420bb70f7f7c4cabbb532224cc0a34bab782339d6b6a42595f74cb0c9"), looks := true }, kinds := [], alts := [], laidByText := true, laidKinds := [.sentinel, .sentinel, .sentinel, .sentinel, .sentinel, .sentinel], laidTests := true, laidLooks := .later }
def AcquireMendsUptoCardSaid : Prop := Claim7.holds Tryz.pinned (.plain (OpenSpec.upto acquireMendsSpec)) acquireMendsUptoCard

/-- THE SECOND FORM's CARD OF 'ceefaxlaw14.AcquireCarousel'. -/
def acquireCarouselUptoCard : Claim7 := { stood := { row := acquireCarouselUptoRow, standIns := [], harness := (true, "1f84a7b420bb70f7f7c4cabbb532224cc0a34bab782339d6b6a42595f74cb0c9"), looks := true }, kinds := [], alts := [], laidByText := true, laidKinds := [.sentinel, .sentinel, .sentinel, .sentinel, .sentinel, .sentinel], laidTests := true, laidLooks := .later }
def AcquireCarouselUptoCardSaid : Prop := Claim7.holds Tryz.pinned (.plain (OpenSpec.upto acquireCarouselSpec)) acquireCarouselUptoCard

/-- THE SECOND FORM's CARD OF 'ceefaxlaw14.AcquireDefault'. -/
def acquireDefaultUptoCard : Claim7 := { stood := { row := acquireDefaultUptoRow, standIns := [], harness := (true, "1f84a7b420bb70f7f7c4cabbb532224cc0a34bab782339d6b6a42595f74cb0c9"), looks := true }, kinds := [], alts := [], laidByText := true, laidKinds := [.sentinel, .sentinel, .sentinel, .sentinel, .sentinel, .sentinel], laidTests := true, laidLooks := .later }
def AcquireDefaultUptoCardSaid : Prop := Claim7.holds Tryz.pinned (.plain (OpenSpec.upto acquireDefaultSpec)) acquireDefaultUptoCard

/-- THE SECOND FORM's CARD OF 'ceefaxlaw14.AcquireParallel'. -/
def acquireParallelUptoCard : Claim7 := { stood := { row := acquireParallelUptoRow, standIns := [], harness := (true, "1f84a7b420bb70f7f7c4cabbb532224cc0a34bab782339d6b6a42595f74cb0c9"), looks := true }, kinds := [], alts := [], laidByText := true, laidKinds := [.sentinel, .sentinel, .sentinel, .sentinel, .sentinel, .sentinel], laidTests := true, laidLooks := .later }
def AcquireParallelUptoCardSaid : Prop := Claim7.holds Tryz.pinned (.plain (OpenSpec.upto acquireParallelSpec)) acquireParallelUptoCard

/-- THE SECOND FORM's CARD OF 'ceefaxlaw14.AcquirePlays'. -/
def acquirePlaysUptoCard : Claim7 := { stood := { row := acquirePlaysUptoRow, standIns := [], harness := (true, "1f84a7b420bb70f7f7c4cabbb532224cc0a34bab782339d6b6a42595f74cb0c9"), looks := true }, kinds := [], alts := [], laidByText := true, laidKinds := [.sentinel, .sentinel, .sentinel, .sentinel, .sentinel, .sentinel], laidTests := true, laidLooks := .later }
def AcquirePlaysUptoCardSaid : Prop := Claim7.holds Tryz.pinned (.plain (OpenSpec.upto acquirePlaysSpec)) acquirePlaysUptoCard

/-- THE SECOND FORM's CARD OF 'ceefaxlaw19.TeletextKeeps'. -/
def teletextKeepsUptoCard : Claim7 := { stood := { row := teletextKeepsUptoRow, standIns := [], harness := (true, "1f84a7b420bb70f7f7c4cabbb532224cc0a34bab782339d6b6a42595f74cb0c9"), looks := true }, kinds := [], alts := [], laidByText := true, laidKinds := [.sentinel, .sentinel, .sentinel, .sentinel], laidTests := true, laidLooks := .later }
def TeletextKeepsUptoCardSaid : Prop := Claim7.holds Tryz.pinned (.plain (OpenSpec.upto teletextKeepsSpec)) teletextKeepsUptoCard

/-- THE SECOND FORM's CARD OF 'ceefaxlaw19.TeletextTicks'. -/
def teletextTicksUptoCard : Claim7 := { stood := { row := teletextTicksUptoRow, standIns := [], harness := (true, "1f84a7b420bb70f7f7c4cabbb532224cc0a34bab782339d6b6a42595f74cb0c9"), looks := true }, kinds := [], alts := [], laidByText := true, laidKinds := [.sentinel, .sentinel, .sentinel, .sentinel], laidTests := true, laidLooks := .later }
def TeletextTicksUptoCardSaid : Prop := Claim7.holds Tryz.pinned (.plain (OpenSpec.upto teletextTicksSpec)) teletextTicksUptoCard

/-- THE SECOND FORM's CARD OF 'ceefaxlaw19.TeletextFinds'. -/
def teletextFindsUptoCard : Claim7 := { stood := { row := teletextFindsUptoRow, standIns := [], harness := (true, "1f84a7b420bb70f7f7c4cabbb532224cc0a34bab782339d6b6a42595f74cb0c9"), looks := true }, kinds := [], alts := [], laidByText := true, laidKinds := [.sentinel, .sentinel, .sentinel, .sentinel], laidTests := true, laidLooks := .later }
def TeletextFindsUptoCardSaid : Prop := Claim7.holds Tryz.pinned (.plain (OpenSpec.upto teletextFindsSpec)) teletextFindsUptoCard

/-- THE SECOND FORM's CARD OF 'ceefaxlaw19.TeletextHold'. -/
def teletextHoldUptoCard : Claim7 := { stood := { row := teletextHoldUptoRow, standIns := [], harness := (true, "1f84a7b420bb70f7f7c4cabbb532224cc0a34bab782339d6b6a42595f74cb0c9"), looks := true }, kinds := [], alts := [], laidByText := true, laidKinds := [.sentinel, .sentinel, .sentinel, .sentinel], laidTests := true, laidLooks := .later }
def TeletextHoldUptoCardSaid : Prop := Claim7.holds Tryz.pinned (.plain (OpenSpec.upto teletextHoldSpec)) teletextHoldUptoCard

/-- THE SECOND FORM's CARD OF 'ceefaxlaw19.TeletextPlays'. -/
def teletextPlaysUptoCard : Claim7 := { stood := { row := teletextPlaysUptoRow, standIns := [], harness := (true, "1f84a7b420bb70f7f7c4cabbb532224cc0a34bab782339d6b6a42595f74cb0c9"), looks := true }, kinds := [], alts := [], laidByText := true, laidKinds := [.sentinel, .sentinel, .sentinel, .sentinel, .sentinel, .sentinel], laidTests := true, laidLooks := .later }
def TeletextPlaysUptoCardSaid : Prop := Claim7.holds Tryz.pinned (.plain (OpenSpec.upto teletextPlaysSpec)) teletextPlaysUptoCard

/-- THE SECOND FORM's CARD OF 'ceefaxlaw19.TeletextMends'. -/
def teletextMendsUptoCard : Claim7 := { stood := { row := teletextMendsUptoRow, standIns := [], harness := (true, "1f84a7b420bb70f7f7c4cabbb532224cc0a34bab782339d6b6a42595f74cb0c9"), looks := true }, kinds := [], alts := [], laidByText := true, laidKinds := [.sentinel, .sentinel, .sentinel, .sentinel], laidTests := true, laidLooks := .later }
def TeletextMendsUptoCardSaid : Prop := Claim7.holds Tryz.pinned (.plain (OpenSpec.upto teletextMendsSpec)) teletextMendsUptoCard
end Rows
end Go.Proofs.YtdjgkbphbffleaaGreatDoor
