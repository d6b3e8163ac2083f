/-
  No cell of these rows narrows 'for every input' (looked for: loops, veiled, ifaces, maps, wideKeys, modest, calm, conditions, laid).
  DERIVED. THE GIVEN ROWS OF THIS SEAT. 33 by the template 'for every input the law returns true; each argument reads behind the call as it read before'; 0 by the template 'total and deterministic' (their statements: YtcfbdfgondmkoaaTotals.lean).
  GIVEN WITH THE SEED: the statements are not yours to turn. If you find one false, say at which input.
  Laid BY PROGRAM, IN A SANDBOX (cutbox-rows.mjs): the forced cells as the released guide's own fill.sh prints them over the translation 593fec2c62b99ea0… (all of the seat's roots in one cut). By AI agents, Wed Nov 11 2026. No macro, syntax, notation, axiom, sorry.
-/
import Derived.Test.YtcfbdfgondmkoaaChecked
import GoSem.Claim
import GoSem.ClaimJoined
import GoSem.ClaimMapViews
import Derived.JoinedTies
import Derived.KernelRfl
namespace Go.Proofs.Ytcfbdfgondmkoaa
/- THE CELL 'sum', in the pinned program and in every row, IS THE sha256 OF THE DUMP (.gsa) THAT YtcfbdfgondmkoaaProg.lean LOADS. Nothing in Lean hashes anything: it is a label: what it is worth is what the hold of that sum in a sandbox is worth. -/
noncomputable def Try.pinned : Pinned := { name := "ytcfbdfgondmkoaa", sum := "593fec2c62b99ea007e9b71f1fb60fca6297af33c77e84d347e6b1388b16b253", checked := Try.checked }
namespace Rows
def none {H : Type} : Left H := { results := [], args := [] }

/-- 'hazellaw01.PackTells': WHATEVER THE INPUT: true; the input reads as it did. -/
def packTellsSpec : ChangeSpec := { name := "packTells", fn := fun _ => fun
  | [d] => { results := [.lit (.bool true)], args := [d] }
  | _ => none }
def packTellsRow : OpenClaim := { program := "ytcfbdfgondmkoaa", sum := "593fec2c62b99ea007e9b71f1fb60fca6297af33c77e84d347e6b1388b16b253", func := "hazel/hazellaw01.PackTells", spec := "packTells", apart := false }
def PackTellsSaid : Prop := packTellsRow.holds Try.pinned (OpenSpec.ofChange packTellsSpec)

/-- ITS FALSE NEIGHBOUR: 'it returns false'. Refute it at one input. -/
def packTellsWrong : ChangeSpec := { name := "packTells", fn := fun _ => fun
  | [d] => { results := [.lit (.bool false)], args := [d] }
  | _ => none }
def PackTellsWrongFalsely : Prop := packTellsRow.holds Try.pinned (OpenSpec.ofChange packTellsWrong)

/-- 'hazellaw01.PackBack': WHATEVER THE INPUT: true; the input reads as it did. -/
def packBackSpec : ChangeSpec := { name := "packBack", fn := fun _ => fun
  | [d] => { results := [.lit (.bool true)], args := [d] }
  | _ => none }
def packBackRow : OpenClaim := { program := "ytcfbdfgondmkoaa", sum := "593fec2c62b99ea007e9b71f1fb60fca6297af33c77e84d347e6b1388b16b253", func := "hazel/hazellaw01.PackBack", spec := "packBack", apart := false }
def PackBackSaid : Prop := packBackRow.holds Try.pinned (OpenSpec.ofChange packBackSpec)

/-- ITS FALSE NEIGHBOUR: 'it returns false'. Refute it at one input. -/
def packBackWrong : ChangeSpec := { name := "packBack", fn := fun _ => fun
  | [d] => { results := [.lit (.bool false)], args := [d] }
  | _ => none }
def PackBackWrongFalsely : Prop := packBackRow.holds Try.pinned (OpenSpec.ofChange packBackWrong)

/-- 'hazellaw01.PackNext': WHATEVER THE INPUT: true; the input reads as it did. -/
def packNextSpec : ChangeSpec := { name := "packNext", fn := fun _ => fun
  | [d] => { results := [.lit (.bool true)], args := [d] }
  | _ => none }
def packNextRow : OpenClaim := { program := "ytcfbdfgondmkoaa", sum := "593fec2c62b99ea007e9b71f1fb60fca6297af33c77e84d347e6b1388b16b253", func := "hazel/hazellaw01.PackNext", spec := "packNext", apart := false }
def PackNextSaid : Prop := packNextRow.holds Try.pinned (OpenSpec.ofChange packNextSpec)

/-- ITS FALSE NEIGHBOUR: 'it returns false'. Refute it at one input. -/
def packNextWrong : ChangeSpec := { name := "packNext", fn := fun _ => fun
  | [d] => { results := [.lit (.bool false)], args := [d] }
  | _ => none }
def PackNextWrongFalsely : Prop := packNextRow.holds Try.pinned (OpenSpec.ofChange packNextWrong)

/-- 'hazellaw01.PackApart': WHATEVER THE INPUT: true; the input reads as it did. -/
def packApartSpec : ChangeSpec := { name := "packApart", fn := fun _ => fun
  | [d1, d2] => { results := [.lit (.bool true)], args := [d1, d2] }
  | _ => none }
def packApartRow : OpenClaim := { program := "ytcfbdfgondmkoaa", sum := "593fec2c62b99ea007e9b71f1fb60fca6297af33c77e84d347e6b1388b16b253", func := "hazel/hazellaw01.PackApart", spec := "packApart", apart := false }
def PackApartSaid : Prop := packApartRow.holds Try.pinned (OpenSpec.ofChange packApartSpec)

/-- ITS FALSE NEIGHBOUR: 'it returns false'. Refute it at one input. -/
def packApartWrong : ChangeSpec := { name := "packApart", fn := fun _ => fun
  | [d1, d2] => { results := [.lit (.bool false)], args := [d1, d2] }
  | _ => none }
def PackApartWrongFalsely : Prop := packApartRow.holds Try.pinned (OpenSpec.ofChange packApartWrong)

/-- 'hazellaw01.PackParts': WHATEVER THE INPUT: true; the input reads as it did. -/
def packPartsSpec : ChangeSpec := { name := "packParts", fn := fun _ => fun
  | [d] => { results := [.lit (.bool true)], args := [d] }
  | _ => none }
def packPartsRow : OpenClaim := { program := "ytcfbdfgondmkoaa", sum := "593fec2c62b99ea007e9b71f1fb60fca6297af33c77e84d347e6b1388b16b253", func := "hazel/hazellaw01.PackParts", spec := "packParts", apart := false }
def PackPartsSaid : Prop := packPartsRow.holds Try.pinned (OpenSpec.ofChange packPartsSpec)

/-- ITS FALSE NEIGHBOUR: 'it returns false'. Refute it at one input. -/
def packPartsWrong : ChangeSpec := { name := "packParts", fn := fun _ => fun
  | [d] => { results := [.lit (.bool false)], args := [d] }
  | _ => none }
def PackPartsWrongFalsely : Prop := packPartsRow.holds Try.pinned (OpenSpec.ofChange packPartsWrong)

/-- 'hazellaw01.PackOne': WHATEVER THE INPUT: true; the input reads as it did. -/
def packOneSpec : ChangeSpec := { name := "packOne", fn := fun _ => fun
  | [d1, d2, d3] => { results := [.lit (.bool true)], args := [d1, d2, d3] }
  | _ => none }
def packOneRow : OpenClaim := { program := "ytcfbdfgondmkoaa", sum := "593fec2c62b99ea007e9b71f1fb60fca6297af33c77e84d347e6b1388b16b253", func := "hazel/hazellaw01.PackOne", spec := "packOne", apart := false }
def PackOneSaid : Prop := packOneRow.holds Try.pinned (OpenSpec.ofChange packOneSpec)

/-- ITS FALSE NEIGHBOUR: 'it returns false'. Refute it at one input. -/
def packOneWrong : ChangeSpec := { name := "packOne", fn := fun _ => fun
  | [d1, d2, d3] => { results := [.lit (.bool false)], args := [d1, d2, d3] }
  | _ => none }
def PackOneWrongFalsely : Prop := packOneRow.holds Try.pinned (OpenSpec.ofChange packOneWrong)

/-- 'hazellaw01.PackWraps': WHATEVER THE INPUT: true; the input reads as it did. -/
def packWrapsSpec : ChangeSpec := { name := "packWraps", fn := fun _ => fun
  | [d1, d2, d3] => { results := [.lit (.bool true)], args := [d1, d2, d3] }
  | _ => none }
def packWrapsRow : OpenClaim := { program := "ytcfbdfgondmkoaa", sum := "593fec2c62b99ea007e9b71f1fb60fca6297af33c77e84d347e6b1388b16b253", func := "hazel/hazellaw01.PackWraps", spec := "packWraps", apart := false }
def PackWrapsSaid : Prop := packWrapsRow.holds Try.pinned (OpenSpec.ofChange packWrapsSpec)

/-- ITS FALSE NEIGHBOUR: 'it returns false'. Refute it at one input. -/
def packWrapsWrong : ChangeSpec := { name := "packWraps", fn := fun _ => fun
  | [d1, d2, d3] => { results := [.lit (.bool false)], args := [d1, d2, d3] }
  | _ => none }
def PackWrapsWrongFalsely : Prop := packWrapsRow.holds Try.pinned (OpenSpec.ofChange packWrapsWrong)

/-- 'hazellaw01.PackOdd': WHATEVER THE INPUT: true; the input reads as it did. -/
def packOddSpec : ChangeSpec := { name := "packOdd", fn := fun _ => fun
  | [d] => { results := [.lit (.bool true)], args := [d] }
  | _ => none }
def packOddRow : OpenClaim := { program := "ytcfbdfgondmkoaa", sum := "593fec2c62b99ea007e9b71f1fb60fca6297af33c77e84d347e6b1388b16b253", func := "hazel/hazellaw01.PackOdd", spec := "packOdd", apart := false }
def PackOddSaid : Prop := packOddRow.holds Try.pinned (OpenSpec.ofChange packOddSpec)

/-- ITS FALSE NEIGHBOUR: 'it returns false'. Refute it at one input. -/
def packOddWrong : ChangeSpec := { name := "packOdd", fn := fun _ => fun
  | [d] => { results := [.lit (.bool false)], args := [d] }
  | _ => none }
def PackOddWrongFalsely : Prop := packOddRow.holds Try.pinned (OpenSpec.ofChange packOddWrong)

/-- 'hazellaw02.MemTells': WHATEVER THE INPUT: true; the input reads as it did. -/
def memTellsSpec : ChangeSpec := { name := "memTells", fn := fun _ => fun
  | [d] => { results := [.lit (.bool true)], args := [d] }
  | _ => none }
def memTellsRow : OpenClaim := { program := "ytcfbdfgondmkoaa", sum := "593fec2c62b99ea007e9b71f1fb60fca6297af33c77e84d347e6b1388b16b253", func := "hazel/hazellaw02.MemTells", spec := "memTells", unfollowed := true, recurses := true, apart := false }
def MemTellsSaid : Prop := memTellsRow.holds Try.pinned (OpenSpec.ofChange memTellsSpec)

/-- ITS FALSE NEIGHBOUR: 'it returns false'. Refute it at one input. -/
def memTellsWrong : ChangeSpec := { name := "memTells", fn := fun _ => fun
  | [d] => { results := [.lit (.bool false)], args := [d] }
  | _ => none }
def MemTellsWrongFalsely : Prop := memTellsRow.holds Try.pinned (OpenSpec.ofChange memTellsWrong)

/-- 'hazellaw02.MemDoes': WHATEVER THE INPUT: true; the input reads as it did. -/
def memDoesSpec : ChangeSpec := { name := "memDoes", fn := fun _ => fun
  | [d] => { results := [.lit (.bool true)], args := [d] }
  | _ => none }
def memDoesRow : OpenClaim := { program := "ytcfbdfgondmkoaa", sum := "593fec2c62b99ea007e9b71f1fb60fca6297af33c77e84d347e6b1388b16b253", func := "hazel/hazellaw02.MemDoes", spec := "memDoes", unfollowed := true, recurses := true, apart := false }
def MemDoesSaid : Prop := memDoesRow.holds Try.pinned (OpenSpec.ofChange memDoesSpec)

/-- ITS FALSE NEIGHBOUR: 'it returns false'. Refute it at one input. -/
def memDoesWrong : ChangeSpec := { name := "memDoes", fn := fun _ => fun
  | [d] => { results := [.lit (.bool false)], args := [d] }
  | _ => none }
def MemDoesWrongFalsely : Prop := memDoesRow.holds Try.pinned (OpenSpec.ofChange memDoesWrong)

/-- 'hazellaw02.MemBack': WHATEVER THE INPUT: true; the input reads as it did. -/
def memBackSpec : ChangeSpec := { name := "memBack", fn := fun _ => fun
  | [d] => { results := [.lit (.bool true)], args := [d] }
  | _ => none }
def memBackRow : OpenClaim := { program := "ytcfbdfgondmkoaa", sum := "593fec2c62b99ea007e9b71f1fb60fca6297af33c77e84d347e6b1388b16b253", func := "hazel/hazellaw02.MemBack", spec := "memBack", unfollowed := true, recurses := true, apart := false }
def MemBackSaid : Prop := memBackRow.holds Try.pinned (OpenSpec.ofChange memBackSpec)

/-- ITS FALSE NEIGHBOUR: 'it returns false'. Refute it at one input. -/
def memBackWrong : ChangeSpec := { name := "memBack", fn := fun _ => fun
  | [d] => { results := [.lit (.bool false)], args := [d] }
  | _ => none }
def MemBackWrongFalsely : Prop := memBackRow.holds Try.pinned (OpenSpec.ofChange memBackWrong)

/-- 'hazellaw02.MemGuards': WHATEVER THE INPUT: true; the input reads as it did. -/
def memGuardsSpec : ChangeSpec := { name := "memGuards", fn := fun _ => fun
  | [d1, d2, d3] => { results := [.lit (.bool true)], args := [d1, d2, d3] }
  | _ => none }
def memGuardsRow : OpenClaim := { program := "ytcfbdfgondmkoaa", sum := "593fec2c62b99ea007e9b71f1fb60fca6297af33c77e84d347e6b1388b16b253", func := "hazel/hazellaw02.MemGuards", spec := "memGuards", unfollowed := true, recurses := true, apart := false }
def MemGuardsSaid : Prop := memGuardsRow.holds Try.pinned (OpenSpec.ofChange memGuardsSpec)

/-- ITS FALSE NEIGHBOUR: 'it returns false'. Refute it at one input. -/
def memGuardsWrong : ChangeSpec := { name := "memGuards", fn := fun _ => fun
  | [d1, d2, d3] => { results := [.lit (.bool false)], args := [d1, d2, d3] }
  | _ => none }
def MemGuardsWrongFalsely : Prop := memGuardsRow.holds Try.pinned (OpenSpec.ofChange memGuardsWrong)

/-- 'hazellaw02.MemTwice': WHATEVER THE INPUT: true; the input reads as it did. -/
def memTwiceSpec : ChangeSpec := { name := "memTwice", fn := fun _ => fun
  | [d1, d2, d3] => { results := [.lit (.bool true)], args := [d1, d2, d3] }
  | _ => none }
def memTwiceRow : OpenClaim := { program := "ytcfbdfgondmkoaa", sum := "593fec2c62b99ea007e9b71f1fb60fca6297af33c77e84d347e6b1388b16b253", func := "hazel/hazellaw02.MemTwice", spec := "memTwice", unfollowed := true, recurses := true, apart := false }
def MemTwiceSaid : Prop := memTwiceRow.holds Try.pinned (OpenSpec.ofChange memTwiceSpec)

/-- ITS FALSE NEIGHBOUR: 'it returns false'. Refute it at one input. -/
def memTwiceWrong : ChangeSpec := { name := "memTwice", fn := fun _ => fun
  | [d1, d2, d3] => { results := [.lit (.bool false)], args := [d1, d2, d3] }
  | _ => none }
def MemTwiceWrongFalsely : Prop := memTwiceRow.holds Try.pinned (OpenSpec.ofChange memTwiceWrong)

/-- 'hazellaw02.MemPlaces': WHATEVER THE INPUT: true; the input reads as it did. -/
def memPlacesSpec : ChangeSpec := { name := "memPlaces", fn := fun _ => fun
  | [d1, d2] => { results := [.lit (.bool true)], args := [d1, d2] }
  | _ => none }
def memPlacesRow : OpenClaim := { program := "ytcfbdfgondmkoaa", sum := "593fec2c62b99ea007e9b71f1fb60fca6297af33c77e84d347e6b1388b16b253", func := "hazel/hazellaw02.MemPlaces", spec := "memPlaces", unfollowed := true, recurses := true, apart := false }
def MemPlacesSaid : Prop := memPlacesRow.holds Try.pinned (OpenSpec.ofChange memPlacesSpec)

/-- ITS FALSE NEIGHBOUR: 'it returns false'. Refute it at one input. -/
def memPlacesWrong : ChangeSpec := { name := "memPlaces", fn := fun _ => fun
  | [d1, d2] => { results := [.lit (.bool false)], args := [d1, d2] }
  | _ => none }
def MemPlacesWrongFalsely : Prop := memPlacesRow.holds Try.pinned (OpenSpec.ofChange memPlacesWrong)

/-- 'hazellaw02.MemTurns': WHATEVER THE INPUT: true; the input reads as it did. -/
def memTurnsSpec : ChangeSpec := { name := "memTurns", fn := fun _ => fun
  | [d1, d2, d3] => { results := [.lit (.bool true)], args := [d1, d2, d3] }
  | _ => none }
def memTurnsRow : OpenClaim := { program := "ytcfbdfgondmkoaa", sum := "593fec2c62b99ea007e9b71f1fb60fca6297af33c77e84d347e6b1388b16b253", func := "hazel/hazellaw02.MemTurns", spec := "memTurns", unfollowed := true, recurses := true, apart := false }
def MemTurnsSaid : Prop := memTurnsRow.holds Try.pinned (OpenSpec.ofChange memTurnsSpec)

/-- ITS FALSE NEIGHBOUR: 'it returns false'. Refute it at one input. -/
def memTurnsWrong : ChangeSpec := { name := "memTurns", fn := fun _ => fun
  | [d1, d2, d3] => { results := [.lit (.bool false)], args := [d1, d2, d3] }
  | _ => none }
def MemTurnsWrongFalsely : Prop := memTurnsRow.holds Try.pinned (OpenSpec.ofChange memTurnsWrong)

/-- 'hazellaw02.MemCounts': WHATEVER THE INPUT: true; the input reads as it did. -/
def memCountsSpec : ChangeSpec := { name := "memCounts", fn := fun _ => fun
  | [d1, d2, d3] => { results := [.lit (.bool true)], args := [d1, d2, d3] }
  | _ => none }
def memCountsRow : OpenClaim := { program := "ytcfbdfgondmkoaa", sum := "593fec2c62b99ea007e9b71f1fb60fca6297af33c77e84d347e6b1388b16b253", func := "hazel/hazellaw02.MemCounts", spec := "memCounts", unfollowed := true, recurses := true, apart := false }
def MemCountsSaid : Prop := memCountsRow.holds Try.pinned (OpenSpec.ofChange memCountsSpec)

/-- ITS FALSE NEIGHBOUR: 'it returns false'. Refute it at one input. -/
def memCountsWrong : ChangeSpec := { name := "memCounts", fn := fun _ => fun
  | [d1, d2, d3] => { results := [.lit (.bool false)], args := [d1, d2, d3] }
  | _ => none }
def MemCountsWrongFalsely : Prop := memCountsRow.holds Try.pinned (OpenSpec.ofChange memCountsWrong)

/-- 'hazellaw03.CoreTells': WHATEVER THE INPUT: true; the input reads as it did. -/
def coreTellsSpec : ChangeSpec := { name := "coreTells", fn := fun _ => fun
  | [d] => { results := [.lit (.bool true)], args := [d] }
  | _ => none }
def coreTellsRow : OpenClaim := { program := "ytcfbdfgondmkoaa", sum := "593fec2c62b99ea007e9b71f1fb60fca6297af33c77e84d347e6b1388b16b253", func := "hazel/hazellaw03.CoreTells", spec := "coreTells", unfollowed := true, recurses := true, apart := false }
def CoreTellsSaid : Prop := coreTellsRow.holds Try.pinned (OpenSpec.ofChange coreTellsSpec)

/-- ITS FALSE NEIGHBOUR: 'it returns false'. Refute it at one input. -/
def coreTellsWrong : ChangeSpec := { name := "coreTells", fn := fun _ => fun
  | [d] => { results := [.lit (.bool false)], args := [d] }
  | _ => none }
def CoreTellsWrongFalsely : Prop := coreTellsRow.holds Try.pinned (OpenSpec.ofChange coreTellsWrong)

/-- 'hazellaw03.CoreDoes': WHATEVER THE INPUT: true; the input reads as it did. -/
def coreDoesSpec : ChangeSpec := { name := "coreDoes", fn := fun _ => fun
  | [d] => { results := [.lit (.bool true)], args := [d] }
  | _ => none }
def coreDoesRow : OpenClaim := { program := "ytcfbdfgondmkoaa", sum := "593fec2c62b99ea007e9b71f1fb60fca6297af33c77e84d347e6b1388b16b253", func := "hazel/hazellaw03.CoreDoes", spec := "coreDoes", unfollowed := true, recurses := true, apart := false }
def CoreDoesSaid : Prop := coreDoesRow.holds Try.pinned (OpenSpec.ofChange coreDoesSpec)

/-- ITS FALSE NEIGHBOUR: 'it returns false'. Refute it at one input. -/
def coreDoesWrong : ChangeSpec := { name := "coreDoes", fn := fun _ => fun
  | [d] => { results := [.lit (.bool false)], args := [d] }
  | _ => none }
def CoreDoesWrongFalsely : Prop := coreDoesRow.holds Try.pinned (OpenSpec.ofChange coreDoesWrong)

/-- 'hazellaw03.CoreLogs': WHATEVER THE INPUT: true; the input reads as it did. -/
def coreLogsSpec : ChangeSpec := { name := "coreLogs", fn := fun _ => fun
  | [d] => { results := [.lit (.bool true)], args := [d] }
  | _ => none }
def coreLogsRow : OpenClaim := { program := "ytcfbdfgondmkoaa", sum := "593fec2c62b99ea007e9b71f1fb60fca6297af33c77e84d347e6b1388b16b253", func := "hazel/hazellaw03.CoreLogs", spec := "coreLogs", unfollowed := true, recurses := true, apart := false }
def CoreLogsSaid : Prop := coreLogsRow.holds Try.pinned (OpenSpec.ofChange coreLogsSpec)

/-- ITS FALSE NEIGHBOUR: 'it returns false'. Refute it at one input. -/
def coreLogsWrong : ChangeSpec := { name := "coreLogs", fn := fun _ => fun
  | [d] => { results := [.lit (.bool false)], args := [d] }
  | _ => none }
def CoreLogsWrongFalsely : Prop := coreLogsRow.holds Try.pinned (OpenSpec.ofChange coreLogsWrong)

/-- 'hazellaw03.CoreNews': WHATEVER THE INPUT: true; the input reads as it did. -/
def coreNewsSpec : ChangeSpec := { name := "coreNews", fn := fun _ => fun
  | [d1, d2] => { results := [.lit (.bool true)], args := [d1, d2] }
  | _ => none }
def coreNewsRow : OpenClaim := { program := "ytcfbdfgondmkoaa", sum := "593fec2c62b99ea007e9b71f1fb60fca6297af33c77e84d347e6b1388b16b253", func := "hazel/hazellaw03.CoreNews", spec := "coreNews", unfollowed := true, recurses := true, apart := false }
def CoreNewsSaid : Prop := coreNewsRow.holds Try.pinned (OpenSpec.ofChange coreNewsSpec)

/-- ITS FALSE NEIGHBOUR: 'it returns false'. Refute it at one input. -/
def coreNewsWrong : ChangeSpec := { name := "coreNews", fn := fun _ => fun
  | [d1, d2] => { results := [.lit (.bool false)], args := [d1, d2] }
  | _ => none }
def CoreNewsWrongFalsely : Prop := coreNewsRow.holds Try.pinned (OpenSpec.ofChange coreNewsWrong)

/-- 'hazellaw03.CoreSame': WHATEVER THE INPUT: true; the input reads as it did. -/
def coreSameSpec : ChangeSpec := { name := "coreSame", fn := fun _ => fun
  | [d1, d2, d3] => { results := [.lit (.bool true)], args := [d1, d2, d3] }
  | _ => none }
def coreSameRow : OpenClaim := { program := "ytcfbdfgondmkoaa", sum := "593fec2c62b99ea007e9b71f1fb60fca6297af33c77e84d347e6b1388b16b253", func := "hazel/hazellaw03.CoreSame", spec := "coreSame", unfollowed := true, recurses := true, apart := false }
def CoreSameSaid : Prop := coreSameRow.holds Try.pinned (OpenSpec.ofChange coreSameSpec)

/-- ITS FALSE NEIGHBOUR: 'it returns false'. Refute it at one input. -/
def coreSameWrong : ChangeSpec := { name := "coreSame", fn := fun _ => fun
  | [d1, d2, d3] => { results := [.lit (.bool false)], args := [d1, d2, d3] }
  | _ => none }
def CoreSameWrongFalsely : Prop := coreSameRow.holds Try.pinned (OpenSpec.ofChange coreSameWrong)

/-- 'hazellaw05.HazTells': WHATEVER THE INPUT: true; the input reads as it did. -/
def hazTellsSpec : ChangeSpec := { name := "hazTells", fn := fun _ => fun
  | [d] => { results := [.lit (.bool true)], args := [d] }
  | _ => none }
def hazTellsRow : OpenClaim := { program := "ytcfbdfgondmkoaa", sum := "593fec2c62b99ea007e9b71f1fb60fca6297af33c77e84d347e6b1388b16b253", func := "hazel/hazellaw05.HazTells", spec := "hazTells", unfollowed := true, recurses := true, apart := false }
def HazTellsSaid : Prop := hazTellsRow.holds Try.pinned (OpenSpec.ofChange hazTellsSpec)

/-- ITS FALSE NEIGHBOUR: 'it returns false'. Refute it at one input. -/
def hazTellsWrong : ChangeSpec := { name := "hazTells", fn := fun _ => fun
  | [d] => { results := [.lit (.bool false)], args := [d] }
  | _ => none }
def HazTellsWrongFalsely : Prop := hazTellsRow.holds Try.pinned (OpenSpec.ofChange hazTellsWrong)

/-- 'hazellaw05.HazClears': WHATEVER THE INPUT: true; the input reads as it did. -/
def hazClearsSpec : ChangeSpec := { name := "hazClears", fn := fun _ => fun
  | [d1, d2] => { results := [.lit (.bool true)], args := [d1, d2] }
  | _ => none }
def hazClearsRow : OpenClaim := { program := "ytcfbdfgondmkoaa", sum := "593fec2c62b99ea007e9b71f1fb60fca6297af33c77e84d347e6b1388b16b253", func := "hazel/hazellaw05.HazClears", spec := "hazClears", unfollowed := true, recurses := true, apart := false }
def HazClearsSaid : Prop := hazClearsRow.holds Try.pinned (OpenSpec.ofChange hazClearsSpec)

/-- ITS FALSE NEIGHBOUR: 'it returns false'. Refute it at one input. -/
def hazClearsWrong : ChangeSpec := { name := "hazClears", fn := fun _ => fun
  | [d1, d2] => { results := [.lit (.bool false)], args := [d1, d2] }
  | _ => none }
def HazClearsWrongFalsely : Prop := hazClearsRow.holds Try.pinned (OpenSpec.ofChange hazClearsWrong)

/-- 'hazellaw05.HazNames': WHATEVER THE INPUT: true; the input reads as it did. -/
def hazNamesSpec : ChangeSpec := { name := "hazNames", fn := fun _ => fun
  | [d] => { results := [.lit (.bool true)], args := [d] }
  | _ => none }
def hazNamesRow : OpenClaim := { program := "ytcfbdfgondmkoaa", sum := "593fec2c62b99ea007e9b71f1fb60fca6297af33c77e84d347e6b1388b16b253", func := "hazel/hazellaw05.HazNames", spec := "hazNames", unfollowed := true, recurses := true, apart := false }
def HazNamesSaid : Prop := hazNamesRow.holds Try.pinned (OpenSpec.ofChange hazNamesSpec)

/-- ITS FALSE NEIGHBOUR: 'it returns false'. Refute it at one input. -/
def hazNamesWrong : ChangeSpec := { name := "hazNames", fn := fun _ => fun
  | [d] => { results := [.lit (.bool false)], args := [d] }
  | _ => none }
def HazNamesWrongFalsely : Prop := hazNamesRow.holds Try.pinned (OpenSpec.ofChange hazNamesWrong)

/-- 'hazellaw05.HazPlaces': WHATEVER THE INPUT: true; the input reads as it did. -/
def hazPlacesSpec : ChangeSpec := { name := "hazPlaces", fn := fun _ => fun
  | [d] => { results := [.lit (.bool true)], args := [d] }
  | _ => none }
def hazPlacesRow : OpenClaim := { program := "ytcfbdfgondmkoaa", sum := "593fec2c62b99ea007e9b71f1fb60fca6297af33c77e84d347e6b1388b16b253", func := "hazel/hazellaw05.HazPlaces", spec := "hazPlaces", unfollowed := true, recurses := true, apart := false }
def HazPlacesSaid : Prop := hazPlacesRow.holds Try.pinned (OpenSpec.ofChange hazPlacesSpec)

/-- ITS FALSE NEIGHBOUR: 'it returns false'. Refute it at one input. -/
def hazPlacesWrong : ChangeSpec := { name := "hazPlaces", fn := fun _ => fun
  | [d] => { results := [.lit (.bool false)], args := [d] }
  | _ => none }
def HazPlacesWrongFalsely : Prop := hazPlacesRow.holds Try.pinned (OpenSpec.ofChange hazPlacesWrong)

/-- 'hazellaw05.HazApart': WHATEVER THE INPUT: true; the input reads as it did. -/
def hazApartSpec : ChangeSpec := { name := "hazApart", fn := fun _ => fun
  | [d1, d2] => { results := [.lit (.bool true)], args := [d1, d2] }
  | _ => none }
def hazApartRow : OpenClaim := { program := "ytcfbdfgondmkoaa", sum := "593fec2c62b99ea007e9b71f1fb60fca6297af33c77e84d347e6b1388b16b253", func := "hazel/hazellaw05.HazApart", spec := "hazApart", unfollowed := true, recurses := true, apart := false }
def HazApartSaid : Prop := hazApartRow.holds Try.pinned (OpenSpec.ofChange hazApartSpec)

/-- ITS FALSE NEIGHBOUR: 'it returns false'. Refute it at one input. -/
def hazApartWrong : ChangeSpec := { name := "hazApart", fn := fun _ => fun
  | [d1, d2] => { results := [.lit (.bool false)], args := [d1, d2] }
  | _ => none }
def HazApartWrongFalsely : Prop := hazApartRow.holds Try.pinned (OpenSpec.ofChange hazApartWrong)

/-- 'hazellaw04.StackTells': WHATEVER THE INPUT: true; the input reads as it did. -/
def stackTellsSpec : ChangeSpec := { name := "stackTells", fn := fun _ => fun
  | [d1, d2, d3] => { results := [.lit (.bool true)], args := [d1, d2, d3] }
  | _ => none }
def stackTellsRow : OpenClaim := { program := "ytcfbdfgondmkoaa", sum := "593fec2c62b99ea007e9b71f1fb60fca6297af33c77e84d347e6b1388b16b253", func := "hazel/hazellaw04.StackTells", spec := "stackTells", unfollowed := true, recurses := true, apart := false }
def StackTellsSaid : Prop := stackTellsRow.holds Try.pinned (OpenSpec.ofChange stackTellsSpec)

/-- ITS FALSE NEIGHBOUR: 'it returns false'. Refute it at one input. -/
def stackTellsWrong : ChangeSpec := { name := "stackTells", fn := fun _ => fun
  | [d1, d2, d3] => { results := [.lit (.bool false)], args := [d1, d2, d3] }
  | _ => none }
def StackTellsWrongFalsely : Prop := stackTellsRow.holds Try.pinned (OpenSpec.ofChange stackTellsWrong)

/-- 'hazellaw04.StackSafe': WHATEVER THE INPUT: true; the input reads as it did. -/
def stackSafeSpec : ChangeSpec := { name := "stackSafe", fn := fun _ => fun
  | [d1, d2, d3] => { results := [.lit (.bool true)], args := [d1, d2, d3] }
  | _ => none }
def stackSafeRow : OpenClaim := { program := "ytcfbdfgondmkoaa", sum := "593fec2c62b99ea007e9b71f1fb60fca6297af33c77e84d347e6b1388b16b253", func := "hazel/hazellaw04.StackSafe", spec := "stackSafe", unfollowed := true, recurses := true, apart := false }
def StackSafeSaid : Prop := stackSafeRow.holds Try.pinned (OpenSpec.ofChange stackSafeSpec)

/-- ITS FALSE NEIGHBOUR: 'it returns false'. Refute it at one input. -/
def stackSafeWrong : ChangeSpec := { name := "stackSafe", fn := fun _ => fun
  | [d1, d2, d3] => { results := [.lit (.bool false)], args := [d1, d2, d3] }
  | _ => none }
def StackSafeWrongFalsely : Prop := stackSafeRow.holds Try.pinned (OpenSpec.ofChange stackSafeWrong)

/-- 'hazellaw04.StackFull': WHATEVER THE INPUT: true; the input reads as it did. -/
def stackFullSpec : ChangeSpec := { name := "stackFull", fn := fun _ => fun
  | [d] => { results := [.lit (.bool true)], args := [d] }
  | _ => none }
def stackFullRow : OpenClaim := { program := "ytcfbdfgondmkoaa", sum := "593fec2c62b99ea007e9b71f1fb60fca6297af33c77e84d347e6b1388b16b253", func := "hazel/hazellaw04.StackFull", spec := "stackFull", unfollowed := true, recurses := true, apart := false }
def StackFullSaid : Prop := stackFullRow.holds Try.pinned (OpenSpec.ofChange stackFullSpec)

/-- ITS FALSE NEIGHBOUR: 'it returns false'. Refute it at one input. -/
def stackFullWrong : ChangeSpec := { name := "stackFull", fn := fun _ => fun
  | [d] => { results := [.lit (.bool false)], args := [d] }
  | _ => none }
def StackFullWrongFalsely : Prop := stackFullRow.holds Try.pinned (OpenSpec.ofChange stackFullWrong)

/-- 'hazellaw04.StackFree': WHATEVER THE INPUT: true; the input reads as it did. -/
def stackFreeSpec : ChangeSpec := { name := "stackFree", fn := fun _ => fun
  | [d] => { results := [.lit (.bool true)], args := [d] }
  | _ => none }
def stackFreeRow : OpenClaim := { program := "ytcfbdfgondmkoaa", sum := "593fec2c62b99ea007e9b71f1fb60fca6297af33c77e84d347e6b1388b16b253", func := "hazel/hazellaw04.StackFree", spec := "stackFree", unfollowed := true, recurses := true, apart := false }
def StackFreeSaid : Prop := stackFreeRow.holds Try.pinned (OpenSpec.ofChange stackFreeSpec)

/-- ITS FALSE NEIGHBOUR: 'it returns false'. Refute it at one input. -/
def stackFreeWrong : ChangeSpec := { name := "stackFree", fn := fun _ => fun
  | [d] => { results := [.lit (.bool false)], args := [d] }
  | _ => none }
def StackFreeWrongFalsely : Prop := stackFreeRow.holds Try.pinned (OpenSpec.ofChange stackFreeWrong)

/-- 'hazellaw04.StackAlone': WHATEVER THE INPUT: true; the input reads as it did. -/
def stackAloneSpec : ChangeSpec := { name := "stackAlone", fn := fun _ => fun
  | [d] => { results := [.lit (.bool true)], args := [d] }
  | _ => none }
def stackAloneRow : OpenClaim := { program := "ytcfbdfgondmkoaa", sum := "593fec2c62b99ea007e9b71f1fb60fca6297af33c77e84d347e6b1388b16b253", func := "hazel/hazellaw04.StackAlone", spec := "stackAlone", unfollowed := true, recurses := true, apart := false }
def StackAloneSaid : Prop := stackAloneRow.holds Try.pinned (OpenSpec.ofChange stackAloneSpec)

/-- ITS FALSE NEIGHBOUR: 'it returns false'. Refute it at one input. -/
def stackAloneWrong : ChangeSpec := { name := "stackAlone", fn := fun _ => fun
  | [d] => { results := [.lit (.bool false)], args := [d] }
  | _ => none }
def StackAloneWrongFalsely : Prop := stackAloneRow.holds Try.pinned (OpenSpec.ofChange stackAloneWrong)

/-- 'hazellaw04.StackFills': WHATEVER THE INPUT: true; the input reads as it did. -/
def stackFillsSpec : ChangeSpec := { name := "stackFills", fn := fun _ => fun
  | [d] => { results := [.lit (.bool true)], args := [d] }
  | _ => none }
def stackFillsRow : OpenClaim := { program := "ytcfbdfgondmkoaa", sum := "593fec2c62b99ea007e9b71f1fb60fca6297af33c77e84d347e6b1388b16b253", func := "hazel/hazellaw04.StackFills", spec := "stackFills", unfollowed := true, recurses := true, apart := false }
def StackFillsSaid : Prop := stackFillsRow.holds Try.pinned (OpenSpec.ofChange stackFillsSpec)

/-- ITS FALSE NEIGHBOUR: 'it returns false'. Refute it at one input. -/
def stackFillsWrong : ChangeSpec := { name := "stackFills", fn := fun _ => fun
  | [d] => { results := [.lit (.bool false)], args := [d] }
  | _ => none }
def StackFillsWrongFalsely : Prop := stackFillsRow.holds Try.pinned (OpenSpec.ofChange stackFillsWrong)

/-- 'hazellaw04.StackTags': WHATEVER THE INPUT: true; the input reads as it did. -/
def stackTagsSpec : ChangeSpec := { name := "stackTags", fn := fun _ => fun
  | [d] => { results := [.lit (.bool true)], args := [d] }
  | _ => none }
def stackTagsRow : OpenClaim := { program := "ytcfbdfgondmkoaa", sum := "593fec2c62b99ea007e9b71f1fb60fca6297af33c77e84d347e6b1388b16b253", func := "hazel/hazellaw04.StackTags", spec := "stackTags", unfollowed := true, recurses := true, apart := false }
def StackTagsSaid : Prop := stackTagsRow.holds Try.pinned (OpenSpec.ofChange stackTagsSpec)

/-- ITS FALSE NEIGHBOUR: 'it returns false'. Refute it at one input. -/
def stackTagsWrong : ChangeSpec := { name := "stackTags", fn := fun _ => fun
  | [d] => { results := [.lit (.bool false)], args := [d] }
  | _ => none }
def StackTagsWrongFalsely : Prop := stackTagsRow.holds Try.pinned (OpenSpec.ofChange stackTagsWrong)

/- THE SECOND FORM. 'bulk': how many values and letters a reading holds, each counted each time it is reached (what is shared counts as often as it is met; a slice's spare places count too). A statement '..UptoSaid' is the law's where the arguments, and the package variables that the reading takes, are together of bulk at most 1048576: NARROWER than '..Said'. Prove '..Said' where nothing that the law and all that it calls make is longer than what came in: it says more and counts as full. Else prove '..UptoSaid'. A law counts once. -/
mutual
def uptoBulk {H : Type} : DataW H → Nat
  | .lit (.string bytes) => bytes.length + 1
  | .lit _ => 1
  | .nil => 1
  | .ptr d => uptoBulk d + 1
  | .slice elems spare => uptoBulkAll elems + uptoBulkAll spare + 1
  | .agg parts => uptoBulkAll parts + 1
  | .iface _ d => uptoBulk d + 1
  | .map entries => uptoBulkEntries entries + 1
  | .held _ => 1
def uptoBulkAll {H : Type} : List (DataW H) → Nat
  | [] => 0
  | d :: r => uptoBulk d + uptoBulkAll r
def uptoBulkEntries {H : Type} : List (Lit × DataW H) → Nat
  | [] => 0
  | x :: r => uptoBulkEntry x + uptoBulkEntries r
def uptoBulkEntry {H : Type} : Lit × DataW H → Nat
  | (.string bytes, d) => bytes.length + uptoBulk d + 1
  | (_, d) => uptoBulk d + 1
 end
def uptoSmall : (H : Type) → List (DataW H) → Bool := fun _ ds => decide (uptoBulkAll ds ≤ 1048576)
def OpenSpec.upto (s : _root_.Go.ChangeSpec) : _root_.Go.OpenSpec := { _root_.Go.OpenSpec.ofChange s with cond := some uptoSmall }

/-- 'hazellaw01.PackTells', WHERE WHAT IT READS IS OF BULK AT MOST 1048576: true; the input reads as it did. -/
def packTellsUptoRow : OpenClaim := { program := "ytcfbdfgondmkoaa", sum := "593fec2c62b99ea007e9b71f1fb60fca6297af33c77e84d347e6b1388b16b253", func := "hazel/hazellaw01.PackTells", spec := "packTells", apart := false, narrowed := true }
def PackTellsUptoSaid : Prop := packTellsUptoRow.holds Try.pinned (OpenSpec.upto packTellsSpec)

/-- 'hazellaw01.PackBack', WHERE WHAT IT READS IS OF BULK AT MOST 1048576: true; the input reads as it did. -/
def packBackUptoRow : OpenClaim := { program := "ytcfbdfgondmkoaa", sum := "593fec2c62b99ea007e9b71f1fb60fca6297af33c77e84d347e6b1388b16b253", func := "hazel/hazellaw01.PackBack", spec := "packBack", apart := false, narrowed := true }
def PackBackUptoSaid : Prop := packBackUptoRow.holds Try.pinned (OpenSpec.upto packBackSpec)

/-- 'hazellaw01.PackNext', WHERE WHAT IT READS IS OF BULK AT MOST 1048576: true; the input reads as it did. -/
def packNextUptoRow : OpenClaim := { program := "ytcfbdfgondmkoaa", sum := "593fec2c62b99ea007e9b71f1fb60fca6297af33c77e84d347e6b1388b16b253", func := "hazel/hazellaw01.PackNext", spec := "packNext", apart := false, narrowed := true }
def PackNextUptoSaid : Prop := packNextUptoRow.holds Try.pinned (OpenSpec.upto packNextSpec)

/-- 'hazellaw01.PackApart', WHERE WHAT IT READS IS OF BULK AT MOST 1048576: true; the input reads as it did. -/
def packApartUptoRow : OpenClaim := { program := "ytcfbdfgondmkoaa", sum := "593fec2c62b99ea007e9b71f1fb60fca6297af33c77e84d347e6b1388b16b253", func := "hazel/hazellaw01.PackApart", spec := "packApart", apart := false, narrowed := true }
def PackApartUptoSaid : Prop := packApartUptoRow.holds Try.pinned (OpenSpec.upto packApartSpec)

/-- 'hazellaw01.PackParts', WHERE WHAT IT READS IS OF BULK AT MOST 1048576: true; the input reads as it did. -/
def packPartsUptoRow : OpenClaim := { program := "ytcfbdfgondmkoaa", sum := "593fec2c62b99ea007e9b71f1fb60fca6297af33c77e84d347e6b1388b16b253", func := "hazel/hazellaw01.PackParts", spec := "packParts", apart := false, narrowed := true }
def PackPartsUptoSaid : Prop := packPartsUptoRow.holds Try.pinned (OpenSpec.upto packPartsSpec)

/-- 'hazellaw01.PackOne', WHERE WHAT IT READS IS OF BULK AT MOST 1048576: true; the input reads as it did. -/
def packOneUptoRow : OpenClaim := { program := "ytcfbdfgondmkoaa", sum := "593fec2c62b99ea007e9b71f1fb60fca6297af33c77e84d347e6b1388b16b253", func := "hazel/hazellaw01.PackOne", spec := "packOne", apart := false, narrowed := true }
def PackOneUptoSaid : Prop := packOneUptoRow.holds Try.pinned (OpenSpec.upto packOneSpec)

/-- 'hazellaw01.PackWraps', WHERE WHAT IT READS IS OF BULK AT MOST 1048576: true; the input reads as it did. -/
def packWrapsUptoRow : OpenClaim := { program := "ytcfbdfgondmkoaa", sum := "593fec2c62b99ea007e9b71f1fb60fca6297af33c77e84d347e6b1388b16b253", func := "hazel/hazellaw01.PackWraps", spec := "packWraps", apart := false, narrowed := true }
def PackWrapsUptoSaid : Prop := packWrapsUptoRow.holds Try.pinned (OpenSpec.upto packWrapsSpec)

/-- 'hazellaw01.PackOdd', WHERE WHAT IT READS IS OF BULK AT MOST 1048576: true; the input reads as it did. -/
def packOddUptoRow : OpenClaim := { program := "ytcfbdfgondmkoaa", sum := "593fec2c62b99ea007e9b71f1fb60fca6297af33c77e84d347e6b1388b16b253", func := "hazel/hazellaw01.PackOdd", spec := "packOdd", apart := false, narrowed := true }
def PackOddUptoSaid : Prop := packOddUptoRow.holds Try.pinned (OpenSpec.upto packOddSpec)

/-- 'hazellaw02.MemTells', WHERE WHAT IT READS IS OF BULK AT MOST 1048576: true; the input reads as it did. -/
def memTellsUptoRow : OpenClaim := { program := "ytcfbdfgondmkoaa", sum := "593fec2c62b99ea007e9b71f1fb60fca6297af33c77e84d347e6b1388b16b253", func := "hazel/hazellaw02.MemTells", spec := "memTells", unfollowed := true, recurses := true, apart := false, narrowed := true }
def MemTellsUptoSaid : Prop := memTellsUptoRow.holds Try.pinned (OpenSpec.upto memTellsSpec)

/-- 'hazellaw02.MemDoes', WHERE WHAT IT READS IS OF BULK AT MOST 1048576: true; the input reads as it did. -/
def memDoesUptoRow : OpenClaim := { program := "ytcfbdfgondmkoaa", sum := "593fec2c62b99ea007e9b71f1fb60fca6297af33c77e84d347e6b1388b16b253", func := "hazel/hazellaw02.MemDoes", spec := "memDoes", unfollowed := true, recurses := true, apart := false, narrowed := true }
def MemDoesUptoSaid : Prop := memDoesUptoRow.holds Try.pinned (OpenSpec.upto memDoesSpec)

/-- 'hazellaw02.MemBack', WHERE WHAT IT READS IS OF BULK AT MOST 1048576: true; the input reads as it did. -/
def memBackUptoRow : OpenClaim := { program := "ytcfbdfgondmkoaa", sum := "593fec2c62b99ea007e9b71f1fb60fca6297af33c77e84d347e6b1388b16b253", func := "hazel/hazellaw02.MemBack", spec := "memBack", unfollowed := true, recurses := true, apart := false, narrowed := true }
def MemBackUptoSaid : Prop := memBackUptoRow.holds Try.pinned (OpenSpec.upto memBackSpec)

/-- 'hazellaw02.MemGuards', WHERE WHAT IT READS IS OF BULK AT MOST 1048576: true; the input reads as it did. -/
def memGuardsUptoRow : OpenClaim := { program := "ytcfbdfgondmkoaa", sum := "593fec2c62b99ea007e9b71f1fb60fca6297af33c77e84d347e6b1388b16b253", func := "hazel/hazellaw02.MemGuards", spec := "memGuards", unfollowed := true, recurses := true, apart := false, narrowed := true }
def MemGuardsUptoSaid : Prop := memGuardsUptoRow.holds Try.pinned (OpenSpec.upto memGuardsSpec)

/-- 'hazellaw02.MemTwice', WHERE WHAT IT READS IS OF BULK AT MOST 1048576: true; the input reads as it did. -/
def memTwiceUptoRow : OpenClaim := { program := "ytcfbdfgondmkoaa", sum := "593fec2c62b99ea007e9b71f1fb60fca6297af33c77e84d347e6b1388b16b253", func := "hazel/hazellaw02.MemTwice", spec := "memTwice", unfollowed := true, recurses := true, apart := false, narrowed := true }
def MemTwiceUptoSaid : Prop := memTwiceUptoRow.holds Try.pinned (OpenSpec.upto memTwiceSpec)

/-- 'hazellaw02.MemPlaces', WHERE WHAT IT READS IS OF BULK AT MOST 1048576: true; the input reads as it did. -/
def memPlacesUptoRow : OpenClaim := { program := "ytcfbdfgondmkoaa", sum := "593fec2c62b99ea007e9b71f1fb60fca6297af33c77e84d347e6b1388b16b253", func := "hazel/hazellaw02.MemPlaces", spec := "memPlaces", unfollowed := true, recurses := true, apart := false, narrowed := true }
def MemPlacesUptoSaid : Prop := memPlacesUptoRow.holds Try.pinned (OpenSpec.upto memPlacesSpec)

/-- 'hazellaw02.MemTurns', WHERE WHAT IT READS IS OF BULK AT MOST 1048576: true; the input reads as it did. -/
def memTurnsUptoRow : OpenClaim := { program := "ytcfbdfgondmkoaa", sum := "593fec2c62b99ea007e9b71f1fb60fca6297af33c77e84d347e6b1388b16b253", func := "hazel/hazellaw02.MemTurns", spec := "memTurns", unfollowed := true, recurses := true, apart := false, narrowed := true }
def MemTurnsUptoSaid : Prop := memTurnsUptoRow.holds Try.pinned (OpenSpec.upto memTurnsSpec)

/-- 'hazellaw02.MemCounts', WHERE WHAT IT READS IS OF BULK AT MOST 1048576: true; the input reads as it did. -/
def memCountsUptoRow : OpenClaim := { program := "ytcfbdfgondmkoaa", sum := "593fec2c62b99ea007e9b71f1fb60fca6297af33c77e84d347e6b1388b16b253", func := "hazel/hazellaw02.MemCounts", spec := "memCounts", unfollowed := true, recurses := true, apart := false, narrowed := true }
def MemCountsUptoSaid : Prop := memCountsUptoRow.holds Try.pinned (OpenSpec.upto memCountsSpec)

/-- 'hazellaw03.CoreTells', WHERE WHAT IT READS IS OF BULK AT MOST 1048576: true; the input reads as it did. -/
def coreTellsUptoRow : OpenClaim := { program := "ytcfbdfgondmkoaa", sum := "593fec2c62b99ea007e9b71f1fb60fca6297af33c77e84d347e6b1388b16b253", func := "hazel/hazellaw03.CoreTells", spec := "coreTells", unfollowed := true, recurses := true, apart := false, narrowed := true }
def CoreTellsUptoSaid : Prop := coreTellsUptoRow.holds Try.pinned (OpenSpec.upto coreTellsSpec)

/-- 'hazellaw03.CoreDoes', WHERE WHAT IT READS IS OF BULK AT MOST 1048576: true; the input reads as it did. -/
def coreDoesUptoRow : OpenClaim := { program := "ytcfbdfgondmkoaa", sum := "593fec2c62b99ea007e9b71f1fb60fca6297af33c77e84d347e6b1388b16b253", func := "hazel/hazellaw03.CoreDoes", spec := "coreDoes", unfollowed := true, recurses := true, apart := false, narrowed := true }
def CoreDoesUptoSaid : Prop := coreDoesUptoRow.holds Try.pinned (OpenSpec.upto coreDoesSpec)

/-- 'hazellaw03.CoreLogs', WHERE WHAT IT READS IS OF BULK AT MOST 1048576: true; the input reads as it did. -/
def coreLogsUptoRow : OpenClaim := { program := "ytcfbdfgondmkoaa", sum := "593fec2c62b99ea007e9b71f1fb60fca6297af33c77e84d347e6b1388b16b253", func := "hazel/hazellaw03.CoreLogs", spec := "coreLogs", unfollowed := true, recurses := true, apart := false, narrowed := true }
def CoreLogsUptoSaid : Prop := coreLogsUptoRow.holds Try.pinned (OpenSpec.upto coreLogsSpec)

/-- 'hazellaw03.CoreNews', WHERE WHAT IT READS IS OF BULK AT MOST 1048576: true; the input reads as it did. -/
def coreNewsUptoRow : OpenClaim := { program := "ytcfbdfgondmkoaa", sum := "593fec2c62b99ea007e9b71f1fb60fca6297af33c77e84d347e6b1388b16b253", func := "hazel/hazellaw03.CoreNews", spec := "coreNews", unfollowed := true, recurses := true, apart := false, narrowed := true }
def CoreNewsUptoSaid : Prop := coreNewsUptoRow.holds Try.pinned (OpenSpec.upto coreNewsSpec)

/-- 'hazellaw03.CoreSame', WHERE WHAT IT READS IS OF BULK AT MOST 1048576: true; the input reads as it did. -/
def coreSameUptoRow : OpenClaim := { program := "ytcfbdfgondmkoaa", sum := "593fec2c62b99ea007e9b71f1fb60fca6297af33c77e84d347e6b1388b16b253", func := "hazel/hazellaw03.CoreSame", spec := "coreSame", unfollowed := true, recurses := true, apart := false, narrowed := true }
def CoreSameUptoSaid : Prop := coreSameUptoRow.holds Try.pinned (OpenSpec.upto coreSameSpec)

/-- 'hazellaw05.HazTells', WHERE WHAT IT READS IS OF BULK AT MOST 1048576: true; the input reads as it did. -/
def hazTellsUptoRow : OpenClaim := { program := "ytcfbdfgondmkoaa", sum := "593fec2c62b99ea007e9b71f1fb60fca6297af33c77e84d347e6b1388b16b253", func := "hazel/hazellaw05.HazTells", spec := "hazTells", unfollowed := true, recurses := true, apart := false, narrowed := true }
def HazTellsUptoSaid : Prop := hazTellsUptoRow.holds Try.pinned (OpenSpec.upto hazTellsSpec)

/-- 'hazellaw05.HazClears', WHERE WHAT IT READS IS OF BULK AT MOST 1048576: true; the input reads as it did. -/
def hazClearsUptoRow : OpenClaim := { program := "ytcfbdfgondmkoaa", sum := "593fec2c62b99ea007e9b71f1fb60fca6297af33c77e84d347e6b1388b16b253", func := "hazel/hazellaw05.HazClears", spec := "hazClears", unfollowed := true, recurses := true, apart := false, narrowed := true }
def HazClearsUptoSaid : Prop := hazClearsUptoRow.holds Try.pinned (OpenSpec.upto hazClearsSpec)

/-- 'hazellaw05.HazNames', WHERE WHAT IT READS IS OF BULK AT MOST 1048576: true; the input reads as it did. -/
def hazNamesUptoRow : OpenClaim := { program := "ytcfbdfgondmkoaa", sum := "593fec2c62b99ea007e9b71f1fb60fca6297af33c77e84d347e6b1388b16b253", func := "hazel/hazellaw05.HazNames", spec := "hazNames", unfollowed := true, recurses := true, apart := false, narrowed := true }
def HazNamesUptoSaid : Prop := hazNamesUptoRow.holds Try.pinned (OpenSpec.upto hazNamesSpec)

/-- 'hazellaw05.HazPlaces', WHERE WHAT IT READS IS OF BULK AT MOST 1048576: true; the input reads as it did. -/
def hazPlacesUptoRow : OpenClaim := { program := "ytcfbdfgondmkoaa", sum := "593fec2c62b99ea007e9b71f1fb60fca6297af33c77e84d347e6b1388b16b253", func := "hazel/hazellaw05.HazPlaces", spec := "hazPlaces", unfollowed := true, recurses := true, apart := false, narrowed := true }
def HazPlacesUptoSaid : Prop := hazPlacesUptoRow.holds Try.pinned (OpenSpec.upto hazPlacesSpec)

/-- 'hazellaw05.HazApart', WHERE WHAT IT READS IS OF BULK AT MOST 1048576: true; the input reads as it did. -/
def hazApartUptoRow : OpenClaim := { program := "ytcfbdfgondmkoaa", sum := "593fec2c62b99ea007e9b71f1fb60fca6297af33c77e84d347e6b1388b16b253", func := "hazel/hazellaw05.HazApart", spec := "hazApart", unfollowed := true, recurses := true, apart := false, narrowed := true }
def HazApartUptoSaid : Prop := hazApartUptoRow.holds Try.pinned (OpenSpec.upto hazApartSpec)

/-- 'hazellaw04.StackTells', WHERE WHAT IT READS IS OF BULK AT MOST 1048576: true; the input reads as it did. -/
def stackTellsUptoRow : OpenClaim := { program := "ytcfbdfgondmkoaa", sum := "593fec2c62b99ea007e9b71f1fb60fca6297af33c77e84d347e6b1388b16b253", func := "hazel/hazellaw04.StackTells", spec := "stackTells", unfollowed := true, recurses := true, apart := false, narrowed := true }
def StackTellsUptoSaid : Prop := stackTellsUptoRow.holds Try.pinned (OpenSpec.upto stackTellsSpec)

/-- 'hazellaw04.StackSafe', WHERE WHAT IT READS IS OF BULK AT MOST 1048576: true; the input reads as it did. -/
def stackSafeUptoRow : OpenClaim := { program := "ytcfbdfgondmkoaa", sum := "593fec2c62b99ea007e9b71f1fb60fca6297af33c77e84d347e6b1388b16b253", func := "hazel/hazellaw04.StackSafe", spec := "stackSafe", unfollowed := true, recurses := true, apart := false, narrowed := true }
def StackSafeUptoSaid : Prop := stackSafeUptoRow.holds Try.pinned (OpenSpec.upto stackSafeSpec)

/-- 'hazellaw04.StackFull', WHERE WHAT IT READS IS OF BULK AT MOST 1048576: true; the input reads as it did. -/
def stackFullUptoRow : OpenClaim := { program := "ytcfbdfgondmkoaa", sum := "593fec2c62b99ea007e9b71f1fb60fca6297af33c77e84d347e6b1388b16b253", func := "hazel/hazellaw04.StackFull", spec := "stackFull", unfollowed := true, recurses := true, apart := false, narrowed := true }
def StackFullUptoSaid : Prop := stackFullUptoRow.holds Try.pinned (OpenSpec.upto stackFullSpec)

/-- 'hazellaw04.StackFree', WHERE WHAT IT READS IS OF BULK AT MOST 1048576: true; the input reads as it did. -/
def stackFreeUptoRow : OpenClaim := { program := "ytcfbdfgondmkoaa", sum := "593fec2c62b99ea007e9b71f1fb60fca6297af33c77e84d347e6b1388b16b253", func := "hazel/hazellaw04.StackFree", spec := "stackFree", unfollowed := true, recurses := true, apart := false, narrowed := true }
def StackFreeUptoSaid : Prop := stackFreeUptoRow.holds Try.pinned (OpenSpec.upto stackFreeSpec)

/-- 'hazellaw04.StackAlone', WHERE WHAT IT READS IS OF BULK AT MOST 1048576: true; the input reads as it did. -/
def stackAloneUptoRow : OpenClaim := { program := "ytcfbdfgondmkoaa", sum := "593fec2c62b99ea007e9b71f1fb60fca6297af33c77e84d347e6b1388b16b253", func := "hazel/hazellaw04.StackAlone", spec := "stackAlone", unfollowed := true, recurses := true, apart := false, narrowed := true }
def StackAloneUptoSaid : Prop := stackAloneUptoRow.holds Try.pinned (OpenSpec.upto stackAloneSpec)

/-- 'hazellaw04.StackFills', WHERE WHAT IT READS IS OF BULK AT MOST 1048576: true; the input reads as it did. -/
def stackFillsUptoRow : OpenClaim := { program := "ytcfbdfgondmkoaa", sum := "593fec2c62b99ea007e9b71f1fb60fca6297af33c77e84d347e6b1388b16b253", func := "hazel/hazellaw04.StackFills", spec := "stackFills", unfollowed := true, recurses := true, apart := false, narrowed := true }
def StackFillsUptoSaid : Prop := stackFillsUptoRow.holds Try.pinned (OpenSpec.upto stackFillsSpec)

/-- 'hazellaw04.StackTags', WHERE WHAT IT READS IS OF BULK AT MOST 1048576: true; the input reads as it did. -/
def stackTagsUptoRow : OpenClaim := { program := "ytcfbdfgondmkoaa", sum := "593fec2c62b99ea007e9b71f1fb60fca6297af33c77e84d347e6b1388b16b253", func := "hazel/hazellaw04.StackTags", spec := "stackTags", unfollowed := true, recurses := true, apart := false, narrowed := true }
def StackTagsUptoSaid : Prop := stackTagsUptoRow.holds Try.pinned (OpenSpec.upto stackTagsSpec)

end Rows
end Go.Proofs.Ytcfbdfgondmkoaa
