/-
  NARROWER THAN 'FOR EVERY INPUT', by the rows' own cells (each row's printed sentence says how): AcquireMends: laid · AcquireCarousel: laid · AcquireDefault: laid · AcquireParallel: laid · AcquirePlays: laid · TeletextKeeps: laid · TeletextTicks: laid · TeletextFinds: laid · TeletextHold: laid · TeletextPlays: laid · TeletextMends: laid.
  DERIVED. THE GIVEN ROWS OF THIS SEAT. 11 by the template 'for every input the law returns true; each argument reads behind the call as it read before'; 0 by the template 'total and deterministic' (their statements: YtdjgkbphbffleaaGreatDoorTotals.lean).
  GIVEN WITH THE SEED: the statements are not yours to turn. If you find one false, say at which input.
  Laid BY PROGRAM, IN A SANDBOX (cutbox-rows.mjs): the forced cells as the released guide's own fill.sh prints them over the translation 9a654b928954136f… (all of the seat's roots in one cut). By AI agents, Wed Nov 11 2026. No macro, syntax, notation, axiom, sorry.
-/
import Derived.Test.YtdjgkbphbffleaaGreatDoorChecked
import GoSem.Claim
import GoSem.ClaimJoined
import GoSem.ClaimMapViews
import Derived.JoinedTies
import Derived.KernelRfl
namespace Go.Proofs.YtdjgkbphbffleaaGreatDoor
/- THE CELL 'sum', in the pinned program and in every row, IS THE sha256 OF THE DUMP (.gsa) THAT YtdjgkbphbffleaaGreatDoorProg.lean LOADS. Nothing in Lean hashes anything: it is a label: what it is worth is what the hold of that sum in a sandbox is worth. -/
noncomputable def Tryz.pinned : Pinned := { name := "ytdjgkbphbffleaagreatdoor", sum := "9a654b928954136fec64670f4ffe177aa559e7535fb2cc580770fba2fbac8bf3", checked := Tryz.checked }
namespace Rows
def none {H : Type} : Left H := { results := [], args := [] }

/- WHAT THE LISTED PACKAGE-LEVEL VARIABLES READ AS WHEN THE CALL BEGINS. Each datum BY PROGRAM (the guide's laid-datum.mjs) off the statement by which the dump's own 'gosem.cut.vars' lays the variable. In a bare row this is a premise. The card (YtdjgkbphbffleaaGreatDoorCards.lean) ties it to the program's text. -/
def laid_ceefax_api_ErrRange {H : Type} : DataW H := .iface "*errors.errorString" (.ptr (.agg [.lit (.string [97, 32, 110, 117, 109, 98, 101, 114, 32, 111, 117, 116, 32, 111, 102, 32, 105, 116, 115, 32, 114, 97, 110, 103, 101])]))
def laid_ceefax_api_ErrLength {H : Type} : DataW H := .iface "*errors.errorString" (.ptr (.agg [.lit (.string [110, 111, 116, 32, 97, 115, 32, 108, 111, 110, 103, 32, 97, 115, 32, 105, 116, 32, 104, 97, 115, 32, 116, 111, 32, 98, 101])]))
def laid_ceefax_api_ErrBits {H : Type} : DataW H := .iface "*errors.errorString" (.ptr (.agg [.lit (.string [98, 105, 116, 115, 32, 116, 104, 97, 116, 32, 99, 97, 110, 39, 116, 32, 98, 101, 32, 109, 101, 110, 100, 101, 100])]))
def laid_ceefax_api_ErrKind {H : Type} : DataW H := .iface "*errors.errorString" (.ptr (.agg [.lit (.string [111, 102, 32, 97, 110, 111, 116, 104, 101, 114, 32, 107, 105, 110, 100])]))
def laid_ceefax_api_ErrNone {H : Type} : DataW H := .iface "*errors.errorString" (.ptr (.agg [.lit (.string [116, 104, 101, 114, 101, 32, 105, 115, 32, 110, 111, 110, 101])]))
def laid_ceefax_api_ErrMode {H : Type} : DataW H := .iface "*errors.errorString" (.ptr (.agg [.lit (.string [110, 111, 116, 32, 105, 110, 32, 116, 104, 105, 115, 32, 109, 111, 100, 101])]))

/-- 'ceefaxlaw14.AcquireMends': WHATEVER THE INPUT: true; the input reads as it did. -/
def acquireMendsSpec : ChangeSpec := { name := "acquireMends", fn := fun _ => fun
  | [d1, d2] => { results := [.lit (.bool true)], args := [d1, d2] }
  | _ => none }
def acquireMendsRow : OpenClaim := { program := "ytdjgkbphbffleaagreatdoor", sum := "9a654b928954136fec64670f4ffe177aa559e7535fb2cc580770fba2fbac8bf3", func := "ceefax/ceefaxlaw14.AcquireMends", spec := "acquireMends", unfollowed := true, recurses := true, named := ["ceefax/api.ErrRange", "ceefax/api.ErrLength", "ceefax/api.ErrBits", "ceefax/api.ErrKind", "ceefax/api.ErrNone", "ceefax/api.ErrMode"], plainKeys := false, apart := false, laid := [("ceefax/api.ErrRange", laid_ceefax_api_ErrRange), ("ceefax/api.ErrLength", laid_ceefax_api_ErrLength), ("ceefax/api.ErrBits", laid_ceefax_api_ErrBits), ("ceefax/api.ErrKind", laid_ceefax_api_ErrKind), ("ceefax/api.ErrNone", laid_ceefax_api_ErrNone), ("ceefax/api.ErrMode", laid_ceefax_api_ErrMode)] }
def AcquireMendsSaid : Prop := acquireMendsRow.holds Tryz.pinned (OpenSpec.ofChange acquireMendsSpec)

/-- ITS FALSE NEIGHBOUR: 'it returns false'. Refute it at one input. -/
def acquireMendsWrong : ChangeSpec := { name := "acquireMends", fn := fun _ => fun
  | [d1, d2] => { results := [.lit (.bool false)], args := [d1, d2] }
  | _ => none }
def AcquireMendsWrongFalsely : Prop := acquireMendsRow.holds Tryz.pinned (OpenSpec.ofChange acquireMendsWrong)

/-- 'ceefaxlaw14.AcquireCarousel': WHATEVER THE INPUT: true; the input reads as it did. -/
def acquireCarouselSpec : ChangeSpec := { name := "acquireCarousel", fn := fun _ => fun
  | [d1, d2, d3, d4] => { results := [.lit (.bool true)], args := [d1, d2, d3, d4] }
  | _ => none }
def acquireCarouselRow : OpenClaim := { program := "ytdjgkbphbffleaagreatdoor", sum := "9a654b928954136fec64670f4ffe177aa559e7535fb2cc580770fba2fbac8bf3", func := "ceefax/ceefaxlaw14.AcquireCarousel", spec := "acquireCarousel", unfollowed := true, recurses := true, named := ["ceefax/api.ErrRange", "ceefax/api.ErrLength", "ceefax/api.ErrBits", "ceefax/api.ErrKind", "ceefax/api.ErrNone", "ceefax/api.ErrMode"], plainKeys := false, apart := false, laid := [("ceefax/api.ErrRange", laid_ceefax_api_ErrRange), ("ceefax/api.ErrLength", laid_ceefax_api_ErrLength), ("ceefax/api.ErrBits", laid_ceefax_api_ErrBits), ("ceefax/api.ErrKind", laid_ceefax_api_ErrKind), ("ceefax/api.ErrNone", laid_ceefax_api_ErrNone), ("ceefax/api.ErrMode", laid_ceefax_api_ErrMode)] }
def AcquireCarouselSaid : Prop := acquireCarouselRow.holds Tryz.pinned (OpenSpec.ofChange acquireCarouselSpec)

/-- ITS FALSE NEIGHBOUR: 'it returns false'. Refute it at one input. -/
def acquireCarouselWrong : ChangeSpec := { name := "acquireCarousel", fn := fun _ => fun
  | [d1, d2, d3, d4] => { results := [.lit (.bool false)], args := [d1, d2, d3, d4] }
  | _ => none }
def AcquireCarouselWrongFalsely : Prop := acquireCarouselRow.holds Tryz.pinned (OpenSpec.ofChange acquireCarouselWrong)

/-- 'ceefaxlaw14.AcquireDefault': WHATEVER THE INPUT: true; the input reads as it did. -/
def acquireDefaultSpec : ChangeSpec := { name := "acquireDefault", fn := fun _ => fun
  | [d1, d2, d3, d4] => { results := [.lit (.bool true)], args := [d1, d2, d3, d4] }
  | _ => none }
def acquireDefaultRow : OpenClaim := { program := "ytdjgkbphbffleaagreatdoor", sum := "9a654b928954136fec64670f4ffe177aa559e7535fb2cc580770fba2fbac8bf3", func := "ceefax/ceefaxlaw14.AcquireDefault", spec := "acquireDefault", unfollowed := true, recurses := true, named := ["ceefax/api.ErrRange", "ceefax/api.ErrLength", "ceefax/api.ErrBits", "ceefax/api.ErrKind", "ceefax/api.ErrNone", "ceefax/api.ErrMode"], plainKeys := false, apart := false, laid := [("ceefax/api.ErrRange", laid_ceefax_api_ErrRange), ("ceefax/api.ErrLength", laid_ceefax_api_ErrLength), ("ceefax/api.ErrBits", laid_ceefax_api_ErrBits), ("ceefax/api.ErrKind", laid_ceefax_api_ErrKind), ("ceefax/api.ErrNone", laid_ceefax_api_ErrNone), ("ceefax/api.ErrMode", laid_ceefax_api_ErrMode)] }
def AcquireDefaultSaid : Prop := acquireDefaultRow.holds Tryz.pinned (OpenSpec.ofChange acquireDefaultSpec)

/-- ITS FALSE NEIGHBOUR: 'it returns false'. Refute it at one input. -/
def acquireDefaultWrong : ChangeSpec := { name := "acquireDefault", fn := fun _ => fun
  | [d1, d2, d3, d4] => { results := [.lit (.bool false)], args := [d1, d2, d3, d4] }
  | _ => none }
def AcquireDefaultWrongFalsely : Prop := acquireDefaultRow.holds Tryz.pinned (OpenSpec.ofChange acquireDefaultWrong)

/-- 'ceefaxlaw14.AcquireParallel': WHATEVER THE INPUT: true; the input reads as it did. -/
def acquireParallelSpec : ChangeSpec := { name := "acquireParallel", fn := fun _ => fun
  | [d1, d2, d3, d4] => { results := [.lit (.bool true)], args := [d1, d2, d3, d4] }
  | _ => none }
def acquireParallelRow : OpenClaim := { program := "ytdjgkbphbffleaagreatdoor", sum := "9a654b928954136fec64670f4ffe177aa559e7535fb2cc580770fba2fbac8bf3", func := "ceefax/ceefaxlaw14.AcquireParallel", spec := "acquireParallel", unfollowed := true, recurses := true, named := ["ceefax/api.ErrRange", "ceefax/api.ErrLength", "ceefax/api.ErrBits", "ceefax/api.ErrKind", "ceefax/api.ErrNone", "ceefax/api.ErrMode"], plainKeys := false, apart := false, laid := [("ceefax/api.ErrRange", laid_ceefax_api_ErrRange), ("ceefax/api.ErrLength", laid_ceefax_api_ErrLength), ("ceefax/api.ErrBits", laid_ceefax_api_ErrBits), ("ceefax/api.ErrKind", laid_ceefax_api_ErrKind), ("ceefax/api.ErrNone", laid_ceefax_api_ErrNone), ("ceefax/api.ErrMode", laid_ceefax_api_ErrMode)] }
def AcquireParallelSaid : Prop := acquireParallelRow.holds Tryz.pinned (OpenSpec.ofChange acquireParallelSpec)

/-- ITS FALSE NEIGHBOUR: 'it returns false'. Refute it at one input. -/
def acquireParallelWrong : ChangeSpec := { name := "acquireParallel", fn := fun _ => fun
  | [d1, d2, d3, d4] => { results := [.lit (.bool false)], args := [d1, d2, d3, d4] }
  | _ => none }
def AcquireParallelWrongFalsely : Prop := acquireParallelRow.holds Tryz.pinned (OpenSpec.ofChange acquireParallelWrong)

/-- 'ceefaxlaw14.AcquirePlays': WHATEVER THE INPUT: true; the input reads as it did. -/
def acquirePlaysSpec : ChangeSpec := { name := "acquirePlays", fn := fun _ => fun
  | [d1, d2, d3, d4] => { results := [.lit (.bool true)], args := [d1, d2, d3, d4] }
  | _ => none }
def acquirePlaysRow : OpenClaim := { program := "ytdjgkbphbffleaagreatdoor", sum := "9a654b928954136fec64670f4ffe177aa559e7535fb2cc580770fba2fbac8bf3", func := "ceefax/ceefaxlaw14.AcquirePlays", spec := "acquirePlays", unfollowed := true, recurses := true, named := ["ceefax/api.ErrRange", "ceefax/api.ErrLength", "ceefax/api.ErrBits", "ceefax/api.ErrKind", "ceefax/api.ErrNone", "ceefax/api.ErrMode"], plainKeys := false, apart := false, laid := [("ceefax/api.ErrRange", laid_ceefax_api_ErrRange), ("ceefax/api.ErrLength", laid_ceefax_api_ErrLength), ("ceefax/api.ErrBits", laid_ceefax_api_ErrBits), ("ceefax/api.ErrKind", laid_ceefax_api_ErrKind), ("ceefax/api.ErrNone", laid_ceefax_api_ErrNone), ("ceefax/api.ErrMode", laid_ceefax_api_ErrMode)] }
def AcquirePlaysSaid : Prop := acquirePlaysRow.holds Tryz.pinned (OpenSpec.ofChange acquirePlaysSpec)

/-- ITS FALSE NEIGHBOUR: 'it returns false'. Refute it at one input. -/
def acquirePlaysWrong : ChangeSpec := { name := "acquirePlays", fn := fun _ => fun
  | [d1, d2, d3, d4] => { results := [.lit (.bool false)], args := [d1, d2, d3, d4] }
  | _ => none }
def AcquirePlaysWrongFalsely : Prop := acquirePlaysRow.holds Tryz.pinned (OpenSpec.ofChange acquirePlaysWrong)

/-- 'ceefaxlaw19.TeletextKeeps': WHATEVER THE INPUT: true; the input reads as it did. -/
def teletextKeepsSpec : ChangeSpec := { name := "teletextKeeps", fn := fun _ => fun
  | [d1, d2] => { results := [.lit (.bool true)], args := [d1, d2] }
  | _ => none }
def teletextKeepsRow : OpenClaim := { program := "ytdjgkbphbffleaagreatdoor", sum := "9a654b928954136fec64670f4ffe177aa559e7535fb2cc580770fba2fbac8bf3", func := "ceefax/ceefaxlaw19.TeletextKeeps", spec := "teletextKeeps", inPlace := ["internal/abi.NoEscape"], unfollowed := true, recurses := true, named := ["ceefax/api.ErrRange", "ceefax/api.ErrLength", "ceefax/api.ErrBits", "ceefax/api.ErrKind"], plainKeys := false, apart := false, laid := [("ceefax/api.ErrRange", laid_ceefax_api_ErrRange), ("ceefax/api.ErrLength", laid_ceefax_api_ErrLength), ("ceefax/api.ErrBits", laid_ceefax_api_ErrBits), ("ceefax/api.ErrKind", laid_ceefax_api_ErrKind)] }
def TeletextKeepsSaid : Prop := teletextKeepsRow.holds Tryz.pinned (OpenSpec.ofChange teletextKeepsSpec)

/-- ITS FALSE NEIGHBOUR: 'it returns false'. Refute it at one input. -/
def teletextKeepsWrong : ChangeSpec := { name := "teletextKeeps", fn := fun _ => fun
  | [d1, d2] => { results := [.lit (.bool false)], args := [d1, d2] }
  | _ => none }
def TeletextKeepsWrongFalsely : Prop := teletextKeepsRow.holds Tryz.pinned (OpenSpec.ofChange teletextKeepsWrong)

/-- 'ceefaxlaw19.TeletextTicks': WHATEVER THE INPUT: true; the input reads as it did. -/
def teletextTicksSpec : ChangeSpec := { name := "teletextTicks", fn := fun _ => fun
  | [d1, d2] => { results := [.lit (.bool true)], args := [d1, d2] }
  | _ => none }
def teletextTicksRow : OpenClaim := { program := "ytdjgkbphbffleaagreatdoor", sum := "9a654b928954136fec64670f4ffe177aa559e7535fb2cc580770fba2fbac8bf3", func := "ceefax/ceefaxlaw19.TeletextTicks", spec := "teletextTicks", inPlace := ["internal/abi.NoEscape"], unfollowed := true, recurses := true, named := ["ceefax/api.ErrRange", "ceefax/api.ErrLength", "ceefax/api.ErrBits", "ceefax/api.ErrKind"], plainKeys := false, apart := false, laid := [("ceefax/api.ErrRange", laid_ceefax_api_ErrRange), ("ceefax/api.ErrLength", laid_ceefax_api_ErrLength), ("ceefax/api.ErrBits", laid_ceefax_api_ErrBits), ("ceefax/api.ErrKind", laid_ceefax_api_ErrKind)] }
def TeletextTicksSaid : Prop := teletextTicksRow.holds Tryz.pinned (OpenSpec.ofChange teletextTicksSpec)

/-- ITS FALSE NEIGHBOUR: 'it returns false'. Refute it at one input. -/
def teletextTicksWrong : ChangeSpec := { name := "teletextTicks", fn := fun _ => fun
  | [d1, d2] => { results := [.lit (.bool false)], args := [d1, d2] }
  | _ => none }
def TeletextTicksWrongFalsely : Prop := teletextTicksRow.holds Tryz.pinned (OpenSpec.ofChange teletextTicksWrong)

/-- 'ceefaxlaw19.TeletextFinds': WHATEVER THE INPUT: true; the input reads as it did. -/
def teletextFindsSpec : ChangeSpec := { name := "teletextFinds", fn := fun _ => fun
  | [d1, d2, d3, d4] => { results := [.lit (.bool true)], args := [d1, d2, d3, d4] }
  | _ => none }
def teletextFindsRow : OpenClaim := { program := "ytdjgkbphbffleaagreatdoor", sum := "9a654b928954136fec64670f4ffe177aa559e7535fb2cc580770fba2fbac8bf3", func := "ceefax/ceefaxlaw19.TeletextFinds", spec := "teletextFinds", inPlace := ["internal/abi.NoEscape", "internal/bytealg.IndexByte"], unfollowed := true, recurses := true, named := ["ceefax/api.ErrRange", "ceefax/api.ErrLength", "ceefax/api.ErrBits", "ceefax/api.ErrKind"], plainKeys := false, apart := false, laid := [("ceefax/api.ErrRange", laid_ceefax_api_ErrRange), ("ceefax/api.ErrLength", laid_ceefax_api_ErrLength), ("ceefax/api.ErrBits", laid_ceefax_api_ErrBits), ("ceefax/api.ErrKind", laid_ceefax_api_ErrKind)] }
def TeletextFindsSaid : Prop := teletextFindsRow.holds Tryz.pinned (OpenSpec.ofChange teletextFindsSpec)

/-- ITS FALSE NEIGHBOUR: 'it returns false'. Refute it at one input. -/
def teletextFindsWrong : ChangeSpec := { name := "teletextFinds", fn := fun _ => fun
  | [d1, d2, d3, d4] => { results := [.lit (.bool false)], args := [d1, d2, d3, d4] }
  | _ => none }
def TeletextFindsWrongFalsely : Prop := teletextFindsRow.holds Tryz.pinned (OpenSpec.ofChange teletextFindsWrong)

/-- 'ceefaxlaw19.TeletextHold': WHATEVER THE INPUT: true; the input reads as it did. -/
def teletextHoldSpec : ChangeSpec := { name := "teletextHold", fn := fun _ => fun
  | [d1, d2] => { results := [.lit (.bool true)], args := [d1, d2] }
  | _ => none }
def teletextHoldRow : OpenClaim := { program := "ytdjgkbphbffleaagreatdoor", sum := "9a654b928954136fec64670f4ffe177aa559e7535fb2cc580770fba2fbac8bf3", func := "ceefax/ceefaxlaw19.TeletextHold", spec := "teletextHold", inPlace := ["internal/abi.NoEscape", "internal/bytealg.IndexByte"], unfollowed := true, recurses := true, named := ["ceefax/api.ErrRange", "ceefax/api.ErrLength", "ceefax/api.ErrBits", "ceefax/api.ErrKind"], plainKeys := false, apart := false, laid := [("ceefax/api.ErrRange", laid_ceefax_api_ErrRange), ("ceefax/api.ErrLength", laid_ceefax_api_ErrLength), ("ceefax/api.ErrBits", laid_ceefax_api_ErrBits), ("ceefax/api.ErrKind", laid_ceefax_api_ErrKind)] }
def TeletextHoldSaid : Prop := teletextHoldRow.holds Tryz.pinned (OpenSpec.ofChange teletextHoldSpec)

/-- ITS FALSE NEIGHBOUR: 'it returns false'. Refute it at one input. -/
def teletextHoldWrong : ChangeSpec := { name := "teletextHold", fn := fun _ => fun
  | [d1, d2] => { results := [.lit (.bool false)], args := [d1, d2] }
  | _ => none }
def TeletextHoldWrongFalsely : Prop := teletextHoldRow.holds Tryz.pinned (OpenSpec.ofChange teletextHoldWrong)

/-- 'ceefaxlaw19.TeletextPlays': WHATEVER THE INPUT: true; the input reads as it did. -/
def teletextPlaysSpec : ChangeSpec := { name := "teletextPlays", fn := fun _ => fun
  | [d1, d2] => { results := [.lit (.bool true)], args := [d1, d2] }
  | _ => none }
def teletextPlaysRow : OpenClaim := { program := "ytdjgkbphbffleaagreatdoor", sum := "9a654b928954136fec64670f4ffe177aa559e7535fb2cc580770fba2fbac8bf3", func := "ceefax/ceefaxlaw19.TeletextPlays", spec := "teletextPlays", inPlace := ["internal/abi.NoEscape", "internal/bytealg.IndexByte"], unfollowed := true, recurses := true, named := ["ceefax/api.ErrRange", "ceefax/api.ErrLength", "ceefax/api.ErrBits", "ceefax/api.ErrKind", "ceefax/api.ErrNone", "ceefax/api.ErrMode"], plainKeys := false, apart := false, laid := [("ceefax/api.ErrRange", laid_ceefax_api_ErrRange), ("ceefax/api.ErrLength", laid_ceefax_api_ErrLength), ("ceefax/api.ErrBits", laid_ceefax_api_ErrBits), ("ceefax/api.ErrKind", laid_ceefax_api_ErrKind), ("ceefax/api.ErrNone", laid_ceefax_api_ErrNone), ("ceefax/api.ErrMode", laid_ceefax_api_ErrMode)] }
def TeletextPlaysSaid : Prop := teletextPlaysRow.holds Tryz.pinned (OpenSpec.ofChange teletextPlaysSpec)

/-- ITS FALSE NEIGHBOUR: 'it returns false'. Refute it at one input. -/
def teletextPlaysWrong : ChangeSpec := { name := "teletextPlays", fn := fun _ => fun
  | [d1, d2] => { results := [.lit (.bool false)], args := [d1, d2] }
  | _ => none }
def TeletextPlaysWrongFalsely : Prop := teletextPlaysRow.holds Tryz.pinned (OpenSpec.ofChange teletextPlaysWrong)

/-- 'ceefaxlaw19.TeletextMends': WHATEVER THE INPUT: true; the input reads as it did. -/
def teletextMendsSpec : ChangeSpec := { name := "teletextMends", fn := fun _ => fun
  | [d1, d2] => { results := [.lit (.bool true)], args := [d1, d2] }
  | _ => none }
def teletextMendsRow : OpenClaim := { program := "ytdjgkbphbffleaagreatdoor", sum := "9a654b928954136fec64670f4ffe177aa559e7535fb2cc580770fba2fbac8bf3", func := "ceefax/ceefaxlaw19.TeletextMends", spec := "teletextMends", inPlace := ["internal/abi.NoEscape", "internal/bytealg.IndexByte"], unfollowed := true, recurses := true, named := ["ceefax/api.ErrRange", "ceefax/api.ErrLength", "ceefax/api.ErrBits", "ceefax/api.ErrKind"], plainKeys := false, apart := false, laid := [("ceefax/api.ErrRange", laid_ceefax_api_ErrRange), ("ceefax/api.ErrLength", laid_ceefax_api_ErrLength), ("ceefax/api.ErrBits", laid_ceefax_api_ErrBits), ("ceefax/api.ErrKind", laid_ceefax_api_ErrKind)] }
def TeletextMendsSaid : Prop := teletextMendsRow.holds Tryz.pinned (OpenSpec.ofChange teletextMendsSpec)

/-- ITS FALSE NEIGHBOUR: 'it returns false'. Refute it at one input. -/
def teletextMendsWrong : ChangeSpec := { name := "teletextMends", fn := fun _ => fun
  | [d1, d2] => { results := [.lit (.bool false)], args := [d1, d2] }
  | _ => none }
def TeletextMendsWrongFalsely : Prop := teletextMendsRow.holds Tryz.pinned (OpenSpec.ofChange teletextMendsWrong)

/- THE SECOND FORM. 'bulk': how many values and letters a reading holds, each counted each time it is reached (what is shared counts as often as it is met; a slice's spare places count too). A statement '..UptoSaid' is the law's where the arguments, and the package variables that the reading takes, are together of bulk at most 1048576: NARROWER than '..Said'. Prove '..Said' where nothing that the law and all that it calls make is longer than what came in: it says more and counts as full. Else prove '..UptoSaid'. A law counts once. -/
mutual
def uptoBulk {H : Type} : DataW H → Nat
  | .lit (.string bytes) => bytes.length + 1
  | .lit _ => 1
  | .nil => 1
  | .ptr d => uptoBulk d + 1
  | .slice elems spare => uptoBulkAll elems + uptoBulkAll spare + 1
  | .agg parts => uptoBulkAll parts + 1
  | .iface _ d => uptoBulk d + 1
  | .map entries => uptoBulkEntries entries + 1
  | .held _ => 1
def uptoBulkAll {H : Type} : List (DataW H) → Nat
  | [] => 0
  | d :: r => uptoBulk d + uptoBulkAll r
def uptoBulkEntries {H : Type} : List (Lit × DataW H) → Nat
  | [] => 0
  | x :: r => uptoBulkEntry x + uptoBulkEntries r
def uptoBulkEntry {H : Type} : Lit × DataW H → Nat
  | (.string bytes, d) => bytes.length + uptoBulk d + 1
  | (_, d) => uptoBulk d + 1
 end
def uptoSmall : (H : Type) → List (DataW H) → Bool := fun _ ds => decide (uptoBulkAll ds ≤ 1048576)
def OpenSpec.upto (s : _root_.Go.ChangeSpec) : _root_.Go.OpenSpec := { _root_.Go.OpenSpec.ofChange s with cond := some uptoSmall }

/-- 'ceefaxlaw14.AcquireMends', WHERE WHAT IT READS IS OF BULK AT MOST 1048576: true; the input reads as it did. -/
def acquireMendsUptoRow : OpenClaim := { program := "ytdjgkbphbffleaagreatdoor", sum := "9a654b928954136fec64670f4ffe177aa559e7535fb2cc580770fba2fbac8bf3", func := "ceefax/ceefaxlaw14.AcquireMends", spec := "acquireMends", unfollowed := true, recurses := true, named := ["ceefax/api.ErrRange", "ceefax/api.ErrLength", "ceefax/api.ErrBits", "ceefax/api.ErrKind", "ceefax/api.ErrNone", "ceefax/api.ErrMode"], plainKeys := false, apart := false, laid := [("ceefax/api.ErrRange", laid_ceefax_api_ErrRange), ("ceefax/api.ErrLength", laid_ceefax_api_ErrLength), ("ceefax/api.ErrBits", laid_ceefax_api_ErrBits), ("ceefax/api.ErrKind", laid_ceefax_api_ErrKind), ("ceefax/api.ErrNone", laid_ceefax_api_ErrNone), ("ceefax/api.ErrMode", laid_ceefax_api_ErrMode)], narrowed := true }
def AcquireMendsUptoSaid : Prop := acquireMendsUptoRow.holds Tryz.pinned (OpenSpec.upto acquireMendsSpec)

/-- 'ceefaxlaw14.AcquireCarousel', WHERE WHAT IT READS IS OF BULK AT MOST 1048576: true; the input reads as it did. -/
def acquireCarouselUptoRow : OpenClaim := { program := "ytdjgkbphbffleaagreatdoor", sum := "9a654b928954136fec64670f4ffe177aa559e7535fb2cc580770fba2fbac8bf3", func := "ceefax/ceefaxlaw14.AcquireCarousel", spec := "acquireCarousel", unfollowed := true, recurses := true, named := ["ceefax/api.ErrRange", "ceefax/api.ErrLength", "ceefax/api.ErrBits", "ceefax/api.ErrKind", "ceefax/api.ErrNone", "ceefax/api.ErrMode"], plainKeys := false, apart := false, laid := [("ceefax/api.ErrRange", laid_ceefax_api_ErrRange), ("ceefax/api.ErrLength", laid_ceefax_api_ErrLength), ("ceefax/api.ErrBits", laid_ceefax_api_ErrBits), ("ceefax/api.ErrKind", laid_ceefax_api_ErrKind), ("ceefax/api.ErrNone", laid_ceefax_api_ErrNone), ("ceefax/api.ErrMode", laid_ceefax_api_ErrMode)], narrowed := true }
def AcquireCarouselUptoSaid : Prop := acquireCarouselUptoRow.holds Tryz.pinned (OpenSpec.upto acquireCarouselSpec)

/-- 'ceefaxlaw14.AcquireDefault', WHERE WHAT IT READS IS OF BULK AT MOST 1048576: true; the input reads as it did. -/
def acquireDefaultUptoRow : OpenClaim := { program := "ytdjgkbphbffleaagreatdoor", sum := "9a654b928954136fec64670f4ffe177aa559e7535fb2cc580770fba2fbac8bf3", func := "ceefax/ceefaxlaw14.AcquireDefault", spec := "acquireDefault", unfollowed := true, recurses := true, named := ["ceefax/api.ErrRange", "ceefax/api.ErrLength", "ceefax/api.ErrBits", "ceefax/api.ErrKind", "ceefax/api.ErrNone", "ceefax/api.ErrMode"], plainKeys := false, apart := false, laid := [("ceefax/api.ErrRange", laid_ceefax_api_ErrRange), ("ceefax/api.ErrLength", laid_ceefax_api_ErrLength), ("ceefax/api.ErrBits", laid_ceefax_api_ErrBits), ("ceefax/api.ErrKind", laid_ceefax_api_ErrKind), ("ceefax/api.ErrNone", laid_ceefax_api_ErrNone), ("ceefax/api.ErrMode", laid_ceefax_api_ErrMode)], narrowed := true }
def AcquireDefaultUptoSaid : Prop := acquireDefaultUptoRow.holds Tryz.pinned (OpenSpec.upto acquireDefaultSpec)

/-- 'ceefaxlaw14.AcquireParallel', WHERE WHAT IT READS IS OF BULK AT MOST 1048576: true; the input reads as it did. -/
def acquireParallelUptoRow : OpenClaim := { program := "ytdjgkbphbffleaagreatdoor", sum := "9a654b928954136fec64670f4ffe177aa559e7535fb2cc580770fba2fbac8bf3", func := "ceefax/ceefaxlaw14.AcquireParallel", spec := "acquireParallel", unfollowed := true, recurses := true, named := ["ceefax/api.ErrRange", "ceefax/api.ErrLength", "ceefax/api.ErrBits", "ceefax/api.ErrKind", "ceefax/api.ErrNone", "ceefax/api.ErrMode"], plainKeys := false, apart := false, laid := [("ceefax/api.ErrRange", laid_ceefax_api_ErrRange), ("ceefax/api.ErrLength", laid_ceefax_api_ErrLength), ("ceefax/api.ErrBits", laid_ceefax_api_ErrBits), ("ceefax/api.ErrKind", laid_ceefax_api_ErrKind), ("ceefax/api.ErrNone", laid_ceefax_api_ErrNone), ("ceefax/api.ErrMode", laid_ceefax_api_ErrMode)], narrowed := true }
def AcquireParallelUptoSaid : Prop := acquireParallelUptoRow.holds Tryz.pinned (OpenSpec.upto acquireParallelSpec)

/-- 'ceefaxlaw14.AcquirePlays', WHERE WHAT IT READS IS OF BULK AT MOST 1048576: true; the input reads as it did. -/
def acquirePlaysUptoRow : OpenClaim := { program := "ytdjgkbphbffleaagreatdoor", sum := "9a654b928954136fec64670f4ffe177aa559e7535fb2cc580770fba2fbac8bf3", func := "ceefax/ceefaxlaw14.AcquirePlays", spec := "acquirePlays", unfollowed := true, recurses := true, named := ["ceefax/api.ErrRange", "ceefax/api.ErrLength", "ceefax/api.ErrBits", "ceefax/api.ErrKind", "ceefax/api.ErrNone", "ceefax/api.ErrMode"], plainKeys := false, apart := false, laid := [("ceefax/api.ErrRange", laid_ceefax_api_ErrRange), ("ceefax/api.ErrLength", laid_ceefax_api_ErrLength), ("ceefax/api.ErrBits", laid_ceefax_api_ErrBits), ("ceefax/api.ErrKind", laid_ceefax_api_ErrKind), ("ceefax/api.ErrNone", laid_ceefax_api_ErrNone), ("ceefax/api.ErrMode", laid_ceefax_api_ErrMode)], narrowed := true }
def AcquirePlaysUptoSaid : Prop := acquirePlaysUptoRow.holds Tryz.pinned (OpenSpec.upto acquirePlaysSpec)

/-- 'ceefaxlaw19.TeletextKeeps', WHERE WHAT IT READS IS OF BULK AT MOST 1048576: true; the input reads as it did. -/
def teletextKeepsUptoRow : OpenClaim := { program := "ytdjgkbphbffleaagreatdoor", sum := "9a654b928954136fec64670f4ffe177aa559e7535fb2cc580770fba2fbac8bf3", func := "ceefax/ceefaxlaw19.TeletextKeeps", spec := "teletextKeeps", inPlace := ["internal/abi.NoEscape"], unfollowed := true, recurses := true, named := ["ceefax/api.ErrRange", "ceefax/api.ErrLength", "ceefax/api.ErrBits", "ceefax/api.ErrKind"], plainKeys := false, apart := false, laid := [("ceefax/api.ErrRange", laid_ceefax_api_ErrRange), ("ceefax/api.ErrLength", laid_ceefax_api_ErrLength), ("ceefax/api.ErrBits", laid_ceefax_api_ErrBits), ("ceefax/api.ErrKind", laid_ceefax_api_ErrKind)], narrowed := true }
def TeletextKeepsUptoSaid : Prop := teletextKeepsUptoRow.holds Tryz.pinned (OpenSpec.upto teletextKeepsSpec)

/-- 'ceefaxlaw19.TeletextTicks', WHERE WHAT IT READS IS OF BULK AT MOST 1048576: true; the input reads as it did. -/
def teletextTicksUptoRow : OpenClaim := { program := "ytdjgkbphbffleaagreatdoor", sum := "9a654b928954136fec64670f4ffe177aa559e7535fb2cc580770fba2fbac8bf3", func := "ceefax/ceefaxlaw19.TeletextTicks", spec := "teletextTicks", inPlace := ["internal/abi.NoEscape"], unfollowed := true, recurses := true, named := ["ceefax/api.ErrRange", "ceefax/api.ErrLength", "ceefax/api.ErrBits", "ceefax/api.ErrKind"], plainKeys := false, apart := false, laid := [("ceefax/api.ErrRange", laid_ceefax_api_ErrRange), ("ceefax/api.ErrLength", laid_ceefax_api_ErrLength), ("ceefax/api.ErrBits", laid_ceefax_api_ErrBits), ("ceefax/api.ErrKind", laid_ceefax_api_ErrKind)], narrowed := true }
def TeletextTicksUptoSaid : Prop := teletextTicksUptoRow.holds Tryz.pinned (OpenSpec.upto teletextTicksSpec)

/-- 'ceefaxlaw19.TeletextFinds', WHERE WHAT IT READS IS OF BULK AT MOST 1048576: true; the input reads as it did. -/
def teletextFindsUptoRow : OpenClaim := { program := "ytdjgkbphbffleaagreatdoor", sum := "9a654b928954136fec64670f4ffe177aa559e7535fb2cc580770fba2fbac8bf3", func := "ceefax/ceefaxlaw19.TeletextFinds", spec := "teletextFinds", inPlace := ["internal/abi.NoEscape", "internal/bytealg.IndexByte"], unfollowed := true, recurses := true, named := ["ceefax/api.ErrRange", "ceefax/api.ErrLength", "ceefax/api.ErrBits", "ceefax/api.ErrKind"], plainKeys := false, apart := false, laid := [("ceefax/api.ErrRange", laid_ceefax_api_ErrRange), ("ceefax/api.ErrLength", laid_ceefax_api_ErrLength), ("ceefax/api.ErrBits", laid_ceefax_api_ErrBits), ("ceefax/api.ErrKind", laid_ceefax_api_ErrKind)], narrowed := true }
def TeletextFindsUptoSaid : Prop := teletextFindsUptoRow.holds Tryz.pinned (OpenSpec.upto teletextFindsSpec)

/-- 'ceefaxlaw19.TeletextHold', WHERE WHAT IT READS IS OF BULK AT MOST 1048576: true; the input reads as it did. -/
def teletextHoldUptoRow : OpenClaim := { program := "ytdjgkbphbffleaagreatdoor", sum := "9a654b928954136fec64670f4ffe177aa559e7535fb2cc580770fba2fbac8bf3", func := "ceefax/ceefaxlaw19.TeletextHold", spec := "teletextHold", inPlace := ["internal/abi.NoEscape", "internal/bytealg.IndexByte"], unfollowed := true, recurses := true, named := ["ceefax/api.ErrRange", "ceefax/api.ErrLength", "ceefax/api.ErrBits", "ceefax/api.ErrKind"], plainKeys := false, apart := false, laid := [("ceefax/api.ErrRange", laid_ceefax_api_ErrRange), ("ceefax/api.ErrLength", laid_ceefax_api_ErrLength), ("ceefax/api.ErrBits", laid_ceefax_api_ErrBits), ("ceefax/api.ErrKind", laid_ceefax_api_ErrKind)], narrowed := true }
def TeletextHoldUptoSaid : Prop := teletextHoldUptoRow.holds Tryz.pinned (OpenSpec.upto teletextHoldSpec)

/-- 'ceefaxlaw19.TeletextPlays', WHERE WHAT IT READS IS OF BULK AT MOST 1048576: true; the input reads as it did. -/
def teletextPlaysUptoRow : OpenClaim := { program := "ytdjgkbphbffleaagreatdoor", sum := "9a654b928954136fec64670f4ffe177aa559e7535fb2cc580770fba2fbac8bf3", func := "ceefax/ceefaxlaw19.TeletextPlays", spec := "teletextPlays", inPlace := ["internal/abi.NoEscape", "internal/bytealg.IndexByte"], unfollowed := true, recurses := true, named := ["ceefax/api.ErrRange", "ceefax/api.ErrLength", "ceefax/api.ErrBits", "ceefax/api.ErrKind", "ceefax/api.ErrNone", "ceefax/api.ErrMode"], plainKeys := false, apart := false, laid := [("ceefax/api.ErrRange", laid_ceefax_api_ErrRange), ("ceefax/api.ErrLength", laid_ceefax_api_ErrLength), ("ceefax/api.ErrBits", laid_ceefax_api_ErrBits), ("ceefax/api.ErrKind", laid_ceefax_api_ErrKind), ("ceefax/api.ErrNone", laid_ceefax_api_ErrNone), ("ceefax/api.ErrMode", laid_ceefax_api_ErrMode)], narrowed := true }
def TeletextPlaysUptoSaid : Prop := teletextPlaysUptoRow.holds Tryz.pinned (OpenSpec.upto teletextPlaysSpec)

/-- 'ceefaxlaw19.TeletextMends', WHERE WHAT IT READS IS OF BULK AT MOST 1048576: true; the input reads as it did. -/
def teletextMendsUptoRow : OpenClaim := { program := "ytdjgkbphbffleaagreatdoor", sum := "9a654b928954136fec64670f4ffe177aa559e7535fb2cc580770fba2fbac8bf3", func := "ceefax/ceefaxlaw19.TeletextMends", spec := "teletextMends", inPlace := ["internal/abi.NoEscape", "internal/bytealg.IndexByte"], unfollowed := true, recurses := true, named := ["ceefax/api.ErrRange", "ceefax/api.ErrLength", "ceefax/api.ErrBits", "ceefax/api.ErrKind"], plainKeys := false, apart := false, laid := [("ceefax/api.ErrRange", laid_ceefax_api_ErrRange), ("ceefax/api.ErrLength", laid_ceefax_api_ErrLength), ("ceefax/api.ErrBits", laid_ceefax_api_ErrBits), ("ceefax/api.ErrKind", laid_ceefax_api_ErrKind)], narrowed := true }
def TeletextMendsUptoSaid : Prop := teletextMendsUptoRow.holds Tryz.pinned (OpenSpec.upto teletextMendsSpec)

end Rows
end Go.Proofs.YtdjgkbphbffleaaGreatDoor
