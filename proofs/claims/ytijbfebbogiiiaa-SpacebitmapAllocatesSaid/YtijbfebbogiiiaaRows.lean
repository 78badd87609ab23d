/-
  No cell of these rows narrows 'for every input' (looked for: loops, veiled, ifaces, maps, wideKeys, modest, calm, conditions, laid).
  DERIVED. THE GIVEN ROWS OF THIS SEAT. 23 by the template 'for every input the law returns true; each argument reads behind the call as it read before'; 0 by the template 'total and deterministic' (their statements: YtijbfebbogiiiaaTotals.lean).
  GIVEN WITH THE SEED: the statements are not yours to turn. If you find one false, say at which input.
  Laid BY PROGRAM, IN A SANDBOX (cutbox-rows.mjs): the forced cells as the released guide's own fill.sh prints them over the translation 8417b9ce827a38eb… (all of the seat's roots in one cut). By AI agents, Wed Nov 11 2026. No macro, syntax, notation, axiom, sorry.
-/
import Derived.Test.YtijbfebbogiiiaaChecked
import GoSem.Claim
import GoSem.ClaimJoined
import GoSem.ClaimMapViews
import Derived.JoinedTies
import Derived.KernelRfl
namespace Go.Proofs.Ytijbfebbogiiiaa
/- THE CELL 'sum', in the pinned program and in every row, IS THE sha256 OF THE DUMP (.gsa) THAT YtijbfebbogiiiaaProg.lean LOADS. Nothing in Lean hashes anything: it is a label: what it is worth is what the hold of that sum in a sandbox is worth. -/
noncomputable def Try.pinned : Pinned := { name := "ytijbfebbogiiiaa", sum := "8417b9ce827a38ebe75bb818734e7a44c999c723d0819b4a21c111a46256b52c", checked := Try.checked }
namespace Rows
def none {H : Type} : Left H := { results := [], args := [] }

/-- 'masterdisclaw31.UdftagDetects': WHATEVER THE INPUT: true; the input reads as it did. -/
def udftagDetectsSpec : ChangeSpec := { name := "udftagDetects", fn := fun _ => fun
  | [d1, d2, d3, d4, d5, d6] => { results := [.lit (.bool true)], args := [d1, d2, d3, d4, d5, d6] }
  | _ => none }
def udftagDetectsRow : OpenClaim := { program := "ytijbfebbogiiiaa", sum := "8417b9ce827a38ebe75bb818734e7a44c999c723d0819b4a21c111a46256b52c", func := "masterdisc/masterdisclaw31.UdftagDetects", spec := "udftagDetects", unfollowed := true, recurses := true, apart := false }
def UdftagDetectsSaid : Prop := udftagDetectsRow.holds Try.pinned (OpenSpec.ofChange udftagDetectsSpec)

/-- ITS FALSE NEIGHBOUR: 'it returns false'. Refute it at one input. -/
def udftagDetectsWrong : ChangeSpec := { name := "udftagDetects", fn := fun _ => fun
  | [d1, d2, d3, d4, d5, d6] => { results := [.lit (.bool false)], args := [d1, d2, d3, d4, d5, d6] }
  | _ => none }
def UdftagDetectsWrongFalsely : Prop := udftagDetectsRow.holds Try.pinned (OpenSpec.ofChange udftagDetectsWrong)

/-- 'masterdisclaw31.UdftagOpens': WHATEVER THE INPUT: true; the input reads as it did. -/
def udftagOpensSpec : ChangeSpec := { name := "udftagOpens", fn := fun _ => fun
  | [d1, d2, d3] => { results := [.lit (.bool true)], args := [d1, d2, d3] }
  | _ => none }
def udftagOpensRow : OpenClaim := { program := "ytijbfebbogiiiaa", sum := "8417b9ce827a38ebe75bb818734e7a44c999c723d0819b4a21c111a46256b52c", func := "masterdisc/masterdisclaw31.UdftagOpens", spec := "udftagOpens", unfollowed := true, recurses := true, apart := false }
def UdftagOpensSaid : Prop := udftagOpensRow.holds Try.pinned (OpenSpec.ofChange udftagOpensSpec)

/-- ITS FALSE NEIGHBOUR: 'it returns false'. Refute it at one input. -/
def udftagOpensWrong : ChangeSpec := { name := "udftagOpens", fn := fun _ => fun
  | [d1, d2, d3] => { results := [.lit (.bool false)], args := [d1, d2, d3] }
  | _ => none }
def UdftagOpensWrongFalsely : Prop := udftagOpensRow.holds Try.pinned (OpenSpec.ofChange udftagOpensWrong)

/-- 'masterdisclaw31.UdftagReturns': WHATEVER THE INPUT: true; the input reads as it did. -/
def udftagReturnsSpec : ChangeSpec := { name := "udftagReturns", fn := fun _ => fun
  | [d1, d2, d3, d4, d5] => { results := [.lit (.bool true)], args := [d1, d2, d3, d4, d5] }
  | _ => none }
def udftagReturnsRow : OpenClaim := { program := "ytijbfebbogiiiaa", sum := "8417b9ce827a38ebe75bb818734e7a44c999c723d0819b4a21c111a46256b52c", func := "masterdisc/masterdisclaw31.UdftagReturns", spec := "udftagReturns", unfollowed := true, recurses := true, apart := false }
def UdftagReturnsSaid : Prop := udftagReturnsRow.holds Try.pinned (OpenSpec.ofChange udftagReturnsSpec)

/-- ITS FALSE NEIGHBOUR: 'it returns false'. Refute it at one input. -/
def udftagReturnsWrong : ChangeSpec := { name := "udftagReturns", fn := fun _ => fun
  | [d1, d2, d3, d4, d5] => { results := [.lit (.bool false)], args := [d1, d2, d3, d4, d5] }
  | _ => none }
def UdftagReturnsWrongFalsely : Prop := udftagReturnsRow.holds Try.pinned (OpenSpec.ofChange udftagReturnsWrong)

/-- 'masterdisclaw33.AllocationEncodes': WHATEVER THE INPUT: true; the input reads as it did. -/
def allocationEncodesSpec : ChangeSpec := { name := "allocationEncodes", fn := fun _ => fun
  | [d] => { results := [.lit (.bool true)], args := [d] }
  | _ => none }
def allocationEncodesRow : OpenClaim := { program := "ytijbfebbogiiiaa", sum := "8417b9ce827a38ebe75bb818734e7a44c999c723d0819b4a21c111a46256b52c", func := "masterdisc/masterdisclaw33.AllocationEncodes", spec := "allocationEncodes", unfollowed := true, recurses := true, apart := false }
def AllocationEncodesSaid : Prop := allocationEncodesRow.holds Try.pinned (OpenSpec.ofChange allocationEncodesSpec)

/-- ITS FALSE NEIGHBOUR: 'it returns false'. Refute it at one input. -/
def allocationEncodesWrong : ChangeSpec := { name := "allocationEncodes", fn := fun _ => fun
  | [d] => { results := [.lit (.bool false)], args := [d] }
  | _ => none }
def AllocationEncodesWrongFalsely : Prop := allocationEncodesRow.holds Try.pinned (OpenSpec.ofChange allocationEncodesWrong)

/-- 'masterdisclaw33.AllocationJoins': WHATEVER THE INPUT: true; the input reads as it did. -/
def allocationJoinsSpec : ChangeSpec := { name := "allocationJoins", fn := fun _ => fun
  | [d] => { results := [.lit (.bool true)], args := [d] }
  | _ => none }
def allocationJoinsRow : OpenClaim := { program := "ytijbfebbogiiiaa", sum := "8417b9ce827a38ebe75bb818734e7a44c999c723d0819b4a21c111a46256b52c", func := "masterdisc/masterdisclaw33.AllocationJoins", spec := "allocationJoins", unfollowed := true, recurses := true, apart := false }
def AllocationJoinsSaid : Prop := allocationJoinsRow.holds Try.pinned (OpenSpec.ofChange allocationJoinsSpec)

/-- ITS FALSE NEIGHBOUR: 'it returns false'. Refute it at one input. -/
def allocationJoinsWrong : ChangeSpec := { name := "allocationJoins", fn := fun _ => fun
  | [d] => { results := [.lit (.bool false)], args := [d] }
  | _ => none }
def AllocationJoinsWrongFalsely : Prop := allocationJoinsRow.holds Try.pinned (OpenSpec.ofChange allocationJoinsWrong)

/-- 'masterdisclaw41.SpacebitmapFits': WHATEVER THE INPUT: true; the input reads as it did. -/
def spacebitmapFitsSpec : ChangeSpec := { name := "spacebitmapFits", fn := fun _ => fun
  | [d1, d2, d3] => { results := [.lit (.bool true)], args := [d1, d2, d3] }
  | _ => none }
def spacebitmapFitsRow : OpenClaim := { program := "ytijbfebbogiiiaa", sum := "8417b9ce827a38ebe75bb818734e7a44c999c723d0819b4a21c111a46256b52c", func := "masterdisc/masterdisclaw41.SpacebitmapFits", spec := "spacebitmapFits", inPlace := ["internal/abi.NoEscape", "internal/bytealg.MakeNoZero"], unfollowed := true, recurses := true, apart := false }
def SpacebitmapFitsSaid : Prop := spacebitmapFitsRow.holds Try.pinned (OpenSpec.ofChange spacebitmapFitsSpec)

/-- ITS FALSE NEIGHBOUR: 'it returns false'. Refute it at one input. -/
def spacebitmapFitsWrong : ChangeSpec := { name := "spacebitmapFits", fn := fun _ => fun
  | [d1, d2, d3] => { results := [.lit (.bool false)], args := [d1, d2, d3] }
  | _ => none }
def SpacebitmapFitsWrongFalsely : Prop := spacebitmapFitsRow.holds Try.pinned (OpenSpec.ofChange spacebitmapFitsWrong)

/-- 'masterdisclaw31.UdftagRelocates': WHATEVER THE INPUT: true; the input reads as it did. -/
def udftagRelocatesSpec : ChangeSpec := { name := "udftagRelocates", fn := fun _ => fun
  | [d1, d2] => { results := [.lit (.bool true)], args := [d1, d2] }
  | _ => none }
def udftagRelocatesRow : OpenClaim := { program := "ytijbfebbogiiiaa", sum := "8417b9ce827a38ebe75bb818734e7a44c999c723d0819b4a21c111a46256b52c", func := "masterdisc/masterdisclaw31.UdftagRelocates", spec := "udftagRelocates", unfollowed := true, recurses := true, apart := false }
def UdftagRelocatesSaid : Prop := udftagRelocatesRow.holds Try.pinned (OpenSpec.ofChange udftagRelocatesSpec)

/-- ITS FALSE NEIGHBOUR: 'it returns false'. Refute it at one input. -/
def udftagRelocatesWrong : ChangeSpec := { name := "udftagRelocates", fn := fun _ => fun
  | [d1, d2] => { results := [.lit (.bool false)], args := [d1, d2] }
  | _ => none }
def UdftagRelocatesWrongFalsely : Prop := udftagRelocatesRow.holds Try.pinned (OpenSpec.ofChange udftagRelocatesWrong)

/-- 'masterdisclaw33.AllocationDescriptors': WHATEVER THE INPUT: true; the input reads as it did. -/
def allocationDescriptorsSpec : ChangeSpec := { name := "allocationDescriptors", fn := fun _ => fun
  | [d1, d2, d3, d4, d5] => { results := [.lit (.bool true)], args := [d1, d2, d3, d4, d5] }
  | _ => none }
def allocationDescriptorsRow : OpenClaim := { program := "ytijbfebbogiiiaa", sum := "8417b9ce827a38ebe75bb818734e7a44c999c723d0819b4a21c111a46256b52c", func := "masterdisc/masterdisclaw33.AllocationDescriptors", spec := "allocationDescriptors", inPlace := ["internal/abi.NoEscape", "internal/bytealg.MakeNoZero"], unfollowed := true, recurses := true, apart := false }
def AllocationDescriptorsSaid : Prop := allocationDescriptorsRow.holds Try.pinned (OpenSpec.ofChange allocationDescriptorsSpec)

/-- ITS FALSE NEIGHBOUR: 'it returns false'. Refute it at one input. -/
def allocationDescriptorsWrong : ChangeSpec := { name := "allocationDescriptors", fn := fun _ => fun
  | [d1, d2, d3, d4, d5] => { results := [.lit (.bool false)], args := [d1, d2, d3, d4, d5] }
  | _ => none }
def AllocationDescriptorsWrongFalsely : Prop := allocationDescriptorsRow.holds Try.pinned (OpenSpec.ofChange allocationDescriptorsWrong)

/-- 'masterdisclaw31.UdftagMoves': WHATEVER THE INPUT: true; the input reads as it did. -/
def udftagMovesSpec : ChangeSpec := { name := "udftagMoves", fn := fun _ => fun
  | [d1, d2, d3] => { results := [.lit (.bool true)], args := [d1, d2, d3] }
  | _ => none }
def udftagMovesRow : OpenClaim := { program := "ytijbfebbogiiiaa", sum := "8417b9ce827a38ebe75bb818734e7a44c999c723d0819b4a21c111a46256b52c", func := "masterdisc/masterdisclaw31.UdftagMoves", spec := "udftagMoves", unfollowed := true, recurses := true, apart := false }
def UdftagMovesSaid : Prop := udftagMovesRow.holds Try.pinned (OpenSpec.ofChange udftagMovesSpec)

/-- ITS FALSE NEIGHBOUR: 'it returns false'. Refute it at one input. -/
def udftagMovesWrong : ChangeSpec := { name := "udftagMoves", fn := fun _ => fun
  | [d1, d2, d3] => { results := [.lit (.bool false)], args := [d1, d2, d3] }
  | _ => none }
def UdftagMovesWrongFalsely : Prop := udftagMovesRow.holds Try.pinned (OpenSpec.ofChange udftagMovesWrong)

/-- 'masterdisclaw33.AllocationCuts': WHATEVER THE INPUT: true; the input reads as it did. -/
def allocationCutsSpec : ChangeSpec := { name := "allocationCuts", fn := fun _ => fun
  | [d1, d2] => { results := [.lit (.bool true)], args := [d1, d2] }
  | _ => none }
def allocationCutsRow : OpenClaim := { program := "ytijbfebbogiiiaa", sum := "8417b9ce827a38ebe75bb818734e7a44c999c723d0819b4a21c111a46256b52c", func := "masterdisc/masterdisclaw33.AllocationCuts", spec := "allocationCuts", unfollowed := true, recurses := true, apart := false }
def AllocationCutsSaid : Prop := allocationCutsRow.holds Try.pinned (OpenSpec.ofChange allocationCutsSpec)

/-- ITS FALSE NEIGHBOUR: 'it returns false'. Refute it at one input. -/
def allocationCutsWrong : ChangeSpec := { name := "allocationCuts", fn := fun _ => fun
  | [d1, d2] => { results := [.lit (.bool false)], args := [d1, d2] }
  | _ => none }
def AllocationCutsWrongFalsely : Prop := allocationCutsRow.holds Try.pinned (OpenSpec.ofChange allocationCutsWrong)

/-- 'masterdisclaw33.AllocationFinds': WHATEVER THE INPUT: true; the input reads as it did. -/
def allocationFindsSpec : ChangeSpec := { name := "allocationFinds", fn := fun _ => fun
  | [d1, d2, d3, d4] => { results := [.lit (.bool true)], args := [d1, d2, d3, d4] }
  | _ => none }
def allocationFindsRow : OpenClaim := { program := "ytijbfebbogiiiaa", sum := "8417b9ce827a38ebe75bb818734e7a44c999c723d0819b4a21c111a46256b52c", func := "masterdisc/masterdisclaw33.AllocationFinds", spec := "allocationFinds", unfollowed := true, recurses := true, apart := false }
def AllocationFindsSaid : Prop := allocationFindsRow.holds Try.pinned (OpenSpec.ofChange allocationFindsSpec)

/-- ITS FALSE NEIGHBOUR: 'it returns false'. Refute it at one input. -/
def allocationFindsWrong : ChangeSpec := { name := "allocationFinds", fn := fun _ => fun
  | [d1, d2, d3, d4] => { results := [.lit (.bool false)], args := [d1, d2, d3, d4] }
  | _ => none }
def AllocationFindsWrongFalsely : Prop := allocationFindsRow.holds Try.pinned (OpenSpec.ofChange allocationFindsWrong)

/-- 'masterdisclaw33.AllocationLocates': WHATEVER THE INPUT: true; the input reads as it did. -/
def allocationLocatesSpec : ChangeSpec := { name := "allocationLocates", fn := fun _ => fun
  | [d1, d2] => { results := [.lit (.bool true)], args := [d1, d2] }
  | _ => none }
def allocationLocatesRow : OpenClaim := { program := "ytijbfebbogiiiaa", sum := "8417b9ce827a38ebe75bb818734e7a44c999c723d0819b4a21c111a46256b52c", func := "masterdisc/masterdisclaw33.AllocationLocates", spec := "allocationLocates", unfollowed := true, recurses := true, apart := false }
def AllocationLocatesSaid : Prop := allocationLocatesRow.holds Try.pinned (OpenSpec.ofChange allocationLocatesSpec)

/-- ITS FALSE NEIGHBOUR: 'it returns false'. Refute it at one input. -/
def allocationLocatesWrong : ChangeSpec := { name := "allocationLocates", fn := fun _ => fun
  | [d1, d2] => { results := [.lit (.bool false)], args := [d1, d2] }
  | _ => none }
def AllocationLocatesWrongFalsely : Prop := allocationLocatesRow.holds Try.pinned (OpenSpec.ofChange allocationLocatesWrong)

/-- 'masterdisclaw31.UdftagFaults': WHATEVER THE INPUT: true; the input reads as it did. -/
def udftagFaultsSpec : ChangeSpec := { name := "udftagFaults", fn := fun _ => fun
  | [d1, d2] => { results := [.lit (.bool true)], args := [d1, d2] }
  | _ => none }
def udftagFaultsRow : OpenClaim := { program := "ytijbfebbogiiiaa", sum := "8417b9ce827a38ebe75bb818734e7a44c999c723d0819b4a21c111a46256b52c", func := "masterdisc/masterdisclaw31.UdftagFaults", spec := "udftagFaults", unfollowed := true, recurses := true, apart := false }
def UdftagFaultsSaid : Prop := udftagFaultsRow.holds Try.pinned (OpenSpec.ofChange udftagFaultsSpec)

/-- ITS FALSE NEIGHBOUR: 'it returns false'. Refute it at one input. -/
def udftagFaultsWrong : ChangeSpec := { name := "udftagFaults", fn := fun _ => fun
  | [d1, d2] => { results := [.lit (.bool false)], args := [d1, d2] }
  | _ => none }
def UdftagFaultsWrongFalsely : Prop := udftagFaultsRow.holds Try.pinned (OpenSpec.ofChange udftagFaultsWrong)

/-- 'masterdisclaw33.AllocationDecodes': WHATEVER THE INPUT: true; the input reads as it did. -/
def allocationDecodesSpec : ChangeSpec := { name := "allocationDecodes", fn := fun _ => fun
  | [d1, d2] => { results := [.lit (.bool true)], args := [d1, d2] }
  | _ => none }
def allocationDecodesRow : OpenClaim := { program := "ytijbfebbogiiiaa", sum := "8417b9ce827a38ebe75bb818734e7a44c999c723d0819b4a21c111a46256b52c", func := "masterdisc/masterdisclaw33.AllocationDecodes", spec := "allocationDecodes", unfollowed := true, recurses := true, apart := false }
def AllocationDecodesSaid : Prop := allocationDecodesRow.holds Try.pinned (OpenSpec.ofChange allocationDecodesSpec)

/-- ITS FALSE NEIGHBOUR: 'it returns false'. Refute it at one input. -/
def allocationDecodesWrong : ChangeSpec := { name := "allocationDecodes", fn := fun _ => fun
  | [d1, d2] => { results := [.lit (.bool false)], args := [d1, d2] }
  | _ => none }
def AllocationDecodesWrongFalsely : Prop := allocationDecodesRow.holds Try.pinned (OpenSpec.ofChange allocationDecodesWrong)

/-- 'masterdisclaw33.AllocationReturns': WHATEVER THE INPUT: true; the input reads as it did. -/
def allocationReturnsSpec : ChangeSpec := { name := "allocationReturns", fn := fun _ => fun
  | [d] => { results := [.lit (.bool true)], args := [d] }
  | _ => none }
def allocationReturnsRow : OpenClaim := { program := "ytijbfebbogiiiaa", sum := "8417b9ce827a38ebe75bb818734e7a44c999c723d0819b4a21c111a46256b52c", func := "masterdisc/masterdisclaw33.AllocationReturns", spec := "allocationReturns", unfollowed := true, recurses := true, apart := false }
def AllocationReturnsSaid : Prop := allocationReturnsRow.holds Try.pinned (OpenSpec.ofChange allocationReturnsSpec)

/-- ITS FALSE NEIGHBOUR: 'it returns false'. Refute it at one input. -/
def allocationReturnsWrong : ChangeSpec := { name := "allocationReturns", fn := fun _ => fun
  | [d] => { results := [.lit (.bool false)], args := [d] }
  | _ => none }
def AllocationReturnsWrongFalsely : Prop := allocationReturnsRow.holds Try.pinned (OpenSpec.ofChange allocationReturnsWrong)

/-- 'masterdisclaw31.UdftagSeals': WHATEVER THE INPUT: true; the input reads as it did. -/
def udftagSealsSpec : ChangeSpec := { name := "udftagSeals", fn := fun _ => fun
  | [d1, d2, d3, d4] => { results := [.lit (.bool true)], args := [d1, d2, d3, d4] }
  | _ => none }
def udftagSealsRow : OpenClaim := { program := "ytijbfebbogiiiaa", sum := "8417b9ce827a38ebe75bb818734e7a44c999c723d0819b4a21c111a46256b52c", func := "masterdisc/masterdisclaw31.UdftagSeals", spec := "udftagSeals", inPlace := ["internal/abi.NoEscape", "internal/bytealg.MakeNoZero"], unfollowed := true, recurses := true, apart := false }
def UdftagSealsSaid : Prop := udftagSealsRow.holds Try.pinned (OpenSpec.ofChange udftagSealsSpec)

/-- ITS FALSE NEIGHBOUR: 'it returns false'. Refute it at one input. -/
def udftagSealsWrong : ChangeSpec := { name := "udftagSeals", fn := fun _ => fun
  | [d1, d2, d3, d4] => { results := [.lit (.bool false)], args := [d1, d2, d3, d4] }
  | _ => none }
def UdftagSealsWrongFalsely : Prop := udftagSealsRow.holds Try.pinned (OpenSpec.ofChange udftagSealsWrong)

/-- 'masterdisclaw31.UdftagPads': WHATEVER THE INPUT: true; the input reads as it did. -/
def udftagPadsSpec : ChangeSpec := { name := "udftagPads", fn := fun _ => fun
  | [d1, d2, d3, d4] => { results := [.lit (.bool true)], args := [d1, d2, d3, d4] }
  | _ => none }
def udftagPadsRow : OpenClaim := { program := "ytijbfebbogiiiaa", sum := "8417b9ce827a38ebe75bb818734e7a44c999c723d0819b4a21c111a46256b52c", func := "masterdisc/masterdisclaw31.UdftagPads", spec := "udftagPads", inPlace := ["internal/abi.NoEscape", "internal/bytealg.MakeNoZero"], unfollowed := true, recurses := true, apart := false }
def UdftagPadsSaid : Prop := udftagPadsRow.holds Try.pinned (OpenSpec.ofChange udftagPadsSpec)

/-- ITS FALSE NEIGHBOUR: 'it returns false'. Refute it at one input. -/
def udftagPadsWrong : ChangeSpec := { name := "udftagPads", fn := fun _ => fun
  | [d1, d2, d3, d4] => { results := [.lit (.bool false)], args := [d1, d2, d3, d4] }
  | _ => none }
def UdftagPadsWrongFalsely : Prop := udftagPadsRow.holds Try.pinned (OpenSpec.ofChange udftagPadsWrong)

/-- 'masterdisclaw41.SpacebitmapMarks': WHATEVER THE INPUT: true; the input reads as it did. -/
def spacebitmapMarksSpec : ChangeSpec := { name := "spacebitmapMarks", fn := fun _ => fun
  | [d1, d2, d3, d4] => { results := [.lit (.bool true)], args := [d1, d2, d3, d4] }
  | _ => none }
def spacebitmapMarksRow : OpenClaim := { program := "ytijbfebbogiiiaa", sum := "8417b9ce827a38ebe75bb818734e7a44c999c723d0819b4a21c111a46256b52c", func := "masterdisc/masterdisclaw41.SpacebitmapMarks", spec := "spacebitmapMarks", inPlace := ["internal/abi.NoEscape", "internal/bytealg.MakeNoZero"], unfollowed := true, recurses := true, apart := false }
def SpacebitmapMarksSaid : Prop := spacebitmapMarksRow.holds Try.pinned (OpenSpec.ofChange spacebitmapMarksSpec)

/-- ITS FALSE NEIGHBOUR: 'it returns false'. Refute it at one input. -/
def spacebitmapMarksWrong : ChangeSpec := { name := "spacebitmapMarks", fn := fun _ => fun
  | [d1, d2, d3, d4] => { results := [.lit (.bool false)], args := [d1, d2, d3, d4] }
  | _ => none }
def SpacebitmapMarksWrongFalsely : Prop := spacebitmapMarksRow.holds Try.pinned (OpenSpec.ofChange spacebitmapMarksWrong)

/-- 'masterdisclaw41.SpacebitmapAllocates': WHATEVER THE INPUT: true; the input reads as it did. -/
def spacebitmapAllocatesSpec : ChangeSpec := { name := "spacebitmapAllocates", fn := fun _ => fun
  | [d1, d2, d3] => { results := [.lit (.bool true)], args := [d1, d2, d3] }
  | _ => none }
def spacebitmapAllocatesRow : OpenClaim := { program := "ytijbfebbogiiiaa", sum := "8417b9ce827a38ebe75bb818734e7a44c999c723d0819b4a21c111a46256b52c", func := "masterdisc/masterdisclaw41.SpacebitmapAllocates", spec := "spacebitmapAllocates", inPlace := ["internal/abi.NoEscape", "internal/bytealg.MakeNoZero"], unfollowed := true, recurses := true, apart := false }
def SpacebitmapAllocatesSaid : Prop := spacebitmapAllocatesRow.holds Try.pinned (OpenSpec.ofChange spacebitmapAllocatesSpec)

/-- ITS FALSE NEIGHBOUR: 'it returns false'. Refute it at one input. -/
def spacebitmapAllocatesWrong : ChangeSpec := { name := "spacebitmapAllocates", fn := fun _ => fun
  | [d1, d2, d3] => { results := [.lit (.bool false)], args := [d1, d2, d3] }
  | _ => none }
def SpacebitmapAllocatesWrongFalsely : Prop := spacebitmapAllocatesRow.holds Try.pinned (OpenSpec.ofChange spacebitmapAllocatesWrong)

/-- 'masterdisclaw41.SpacebitmapDescriptors': WHATEVER THE INPUT: true; the input reads as it did. -/
def spacebitmapDescriptorsSpec : ChangeSpec := { name := "spacebitmapDescriptors", fn := fun _ => fun
  | [d1, d2, d3, d4] => { results := [.lit (.bool true)], args := [d1, d2, d3, d4] }
  | _ => none }
def spacebitmapDescriptorsRow : OpenClaim := { program := "ytijbfebbogiiiaa", sum := "8417b9ce827a38ebe75bb818734e7a44c999c723d0819b4a21c111a46256b52c", func := "masterdisc/masterdisclaw41.SpacebitmapDescriptors", spec := "spacebitmapDescriptors", inPlace := ["internal/abi.NoEscape", "internal/bytealg.MakeNoZero"], unfollowed := true, recurses := true, apart := false }
def SpacebitmapDescriptorsSaid : Prop := spacebitmapDescriptorsRow.holds Try.pinned (OpenSpec.ofChange spacebitmapDescriptorsSpec)

/-- ITS FALSE NEIGHBOUR: 'it returns false'. Refute it at one input. -/
def spacebitmapDescriptorsWrong : ChangeSpec := { name := "spacebitmapDescriptors", fn := fun _ => fun
  | [d1, d2, d3, d4] => { results := [.lit (.bool false)], args := [d1, d2, d3, d4] }
  | _ => none }
def SpacebitmapDescriptorsWrongFalsely : Prop := spacebitmapDescriptorsRow.holds Try.pinned (OpenSpec.ofChange spacebitmapDescriptorsWrong)

/-- 'masterdisclaw41.SpacebitmapReturns': WHATEVER THE INPUT: true; the input reads as it did. -/
def spacebitmapReturnsSpec : ChangeSpec := { name := "spacebitmapReturns", fn := fun _ => fun
  | [d1, d2, d3] => { results := [.lit (.bool true)], args := [d1, d2, d3] }
  | _ => none }
def spacebitmapReturnsRow : OpenClaim := { program := "ytijbfebbogiiiaa", sum := "8417b9ce827a38ebe75bb818734e7a44c999c723d0819b4a21c111a46256b52c", func := "masterdisc/masterdisclaw41.SpacebitmapReturns", spec := "spacebitmapReturns", inPlace := ["internal/abi.NoEscape", "internal/bytealg.MakeNoZero"], unfollowed := true, recurses := true, apart := false }
def SpacebitmapReturnsSaid : Prop := spacebitmapReturnsRow.holds Try.pinned (OpenSpec.ofChange spacebitmapReturnsSpec)

/-- ITS FALSE NEIGHBOUR: 'it returns false'. Refute it at one input. -/
def spacebitmapReturnsWrong : ChangeSpec := { name := "spacebitmapReturns", fn := fun _ => fun
  | [d1, d2, d3] => { results := [.lit (.bool false)], args := [d1, d2, d3] }
  | _ => none }
def SpacebitmapReturnsWrongFalsely : Prop := spacebitmapReturnsRow.holds Try.pinned (OpenSpec.ofChange spacebitmapReturnsWrong)

/-- 'masterdisclaw41.SpacebitmapRuns': WHATEVER THE INPUT: true; the input reads as it did. -/
def spacebitmapRunsSpec : ChangeSpec := { name := "spacebitmapRuns", fn := fun _ => fun
  | [d1, d2] => { results := [.lit (.bool true)], args := [d1, d2] }
  | _ => none }
def spacebitmapRunsRow : OpenClaim := { program := "ytijbfebbogiiiaa", sum := "8417b9ce827a38ebe75bb818734e7a44c999c723d0819b4a21c111a46256b52c", func := "masterdisc/masterdisclaw41.SpacebitmapRuns", spec := "spacebitmapRuns", inPlace := ["internal/abi.NoEscape", "internal/bytealg.MakeNoZero"], unfollowed := true, recurses := true, apart := false }
def SpacebitmapRunsSaid : Prop := spacebitmapRunsRow.holds Try.pinned (OpenSpec.ofChange spacebitmapRunsSpec)

/-- ITS FALSE NEIGHBOUR: 'it returns false'. Refute it at one input. -/
def spacebitmapRunsWrong : ChangeSpec := { name := "spacebitmapRuns", fn := fun _ => fun
  | [d1, d2] => { results := [.lit (.bool false)], args := [d1, d2] }
  | _ => none }
def SpacebitmapRunsWrongFalsely : Prop := spacebitmapRunsRow.holds Try.pinned (OpenSpec.ofChange spacebitmapRunsWrong)

/-- 'masterdisclaw41.SpacebitmapTakes': WHATEVER THE INPUT: true; the input reads as it did. -/
def spacebitmapTakesSpec : ChangeSpec := { name := "spacebitmapTakes", fn := fun _ => fun
  | [d1, d2, d3] => { results := [.lit (.bool true)], args := [d1, d2, d3] }
  | _ => none }
def spacebitmapTakesRow : OpenClaim := { program := "ytijbfebbogiiiaa", sum := "8417b9ce827a38ebe75bb818734e7a44c999c723d0819b4a21c111a46256b52c", func := "masterdisc/masterdisclaw41.SpacebitmapTakes", spec := "spacebitmapTakes", inPlace := ["internal/abi.NoEscape", "internal/bytealg.MakeNoZero"], unfollowed := true, recurses := true, apart := false }
def SpacebitmapTakesSaid : Prop := spacebitmapTakesRow.holds Try.pinned (OpenSpec.ofChange spacebitmapTakesSpec)

/-- ITS FALSE NEIGHBOUR: 'it returns false'. Refute it at one input. -/
def spacebitmapTakesWrong : ChangeSpec := { name := "spacebitmapTakes", fn := fun _ => fun
  | [d1, d2, d3] => { results := [.lit (.bool false)], args := [d1, d2, d3] }
  | _ => none }
def SpacebitmapTakesWrongFalsely : Prop := spacebitmapTakesRow.holds Try.pinned (OpenSpec.ofChange spacebitmapTakesWrong)

/- THE SECOND FORM. 'bulk': how many values and letters a reading holds, each counted each time it is reached (what is shared counts as often as it is met; a slice's spare places count too). A statement '..UptoSaid' is the law's where the arguments, and the package variables that the reading takes, are together of bulk at most 1048576: NARROWER than '..Said'. Prove '..Said' where nothing that the law and all that it calls make is longer than what came in: it says more and counts as full. Else prove '..UptoSaid'. A law counts once. -/
mutual
def uptoBulk {H : Type} : DataW H → Nat
  | .lit (.string bytes) => bytes.length + 1
  | .lit _ => 1
  | .nil => 1
  | .ptr d => uptoBulk d + 1
  | .slice elems spare => uptoBulkAll elems + uptoBulkAll spare + 1
  | .agg parts => uptoBulkAll parts + 1
  | .iface _ d => uptoBulk d + 1
  | .map entries => uptoBulkEntries entries + 1
  | .held _ => 1
def uptoBulkAll {H : Type} : List (DataW H) → Nat
  | [] => 0
  | d :: r => uptoBulk d + uptoBulkAll r
def uptoBulkEntries {H : Type} : List (Lit × DataW H) → Nat
  | [] => 0
  | x :: r => uptoBulkEntry x + uptoBulkEntries r
def uptoBulkEntry {H : Type} : Lit × DataW H → Nat
  | (.string bytes, d) => bytes.length + uptoBulk d + 1
  | (_, d) => uptoBulk d + 1
 end
def uptoSmall : (H : Type) → List (DataW H) → Bool := fun _ ds => decide (uptoBulkAll ds ≤ 1048576)
def OpenSpec.upto (s : _root_.Go.ChangeSpec) : _root_.Go.OpenSpec := { _root_.Go.OpenSpec.ofChange s with cond := some uptoSmall }

/-- 'masterdisclaw31.UdftagDetects', WHERE WHAT IT READS IS OF BULK AT MOST 1048576: true; the input reads as it did. -/
def udftagDetectsUptoRow : OpenClaim := { program := "ytijbfebbogiiiaa", sum := "8417b9ce827a38ebe75bb818734e7a44c999c723d0819b4a21c111a46256b52c", func := "masterdisc/masterdisclaw31.UdftagDetects", spec := "udftagDetects", unfollowed := true, recurses := true, apart := false, narrowed := true }
def UdftagDetectsUptoSaid : Prop := udftagDetectsUptoRow.holds Try.pinned (OpenSpec.upto udftagDetectsSpec)

/-- 'masterdisclaw31.UdftagOpens', WHERE WHAT IT READS IS OF BULK AT MOST 1048576: true; the input reads as it did. -/
def udftagOpensUptoRow : OpenClaim := { program := "ytijbfebbogiiiaa", sum := "8417b9ce827a38ebe75bb818734e7a44c999c723d0819b4a21c111a46256b52c", func := "masterdisc/masterdisclaw31.UdftagOpens", spec := "udftagOpens", unfollowed := true, recurses := true, apart := false, narrowed := true }
def UdftagOpensUptoSaid : Prop := udftagOpensUptoRow.holds Try.pinned (OpenSpec.upto udftagOpensSpec)

/-- 'masterdisclaw31.UdftagReturns', WHERE WHAT IT READS IS OF BULK AT MOST 1048576: true; the input reads as it did. -/
def udftagReturnsUptoRow : OpenClaim := { program := "ytijbfebbogiiiaa", sum := "8417b9ce827a38ebe75bb818734e7a44c999c723d0819b4a21c111a46256b52c", func := "masterdisc/masterdisclaw31.UdftagReturns", spec := "udftagReturns", unfollowed := true, recurses := true, apart := false, narrowed := true }
def UdftagReturnsUptoSaid : Prop := udftagReturnsUptoRow.holds Try.pinned (OpenSpec.upto udftagReturnsSpec)

/-- 'masterdisclaw33.AllocationEncodes', WHERE WHAT IT READS IS OF BULK AT MOST 1048576: true; the input reads as it did. -/
def allocationEncodesUptoRow : OpenClaim := { program := "ytijbfebbogiiiaa", sum := "8417b9ce827a38ebe75bb818734e7a44c999c723d0819b4a21c111a46256b52c", func := "masterdisc/masterdisclaw33.AllocationEncodes", spec := "allocationEncodes", unfollowed := true, recurses := true, apart := false, narrowed := true }
def AllocationEncodesUptoSaid : Prop := allocationEncodesUptoRow.holds Try.pinned (OpenSpec.upto allocationEncodesSpec)

/-- 'masterdisclaw33.AllocationJoins', WHERE WHAT IT READS IS OF BULK AT MOST 1048576: true; the input reads as it did. -/
def allocationJoinsUptoRow : OpenClaim := { program := "ytijbfebbogiiiaa", sum := "8417b9ce827a38ebe75bb818734e7a44c999c723d0819b4a21c111a46256b52c", func := "masterdisc/masterdisclaw33.AllocationJoins", spec := "allocationJoins", unfollowed := true, recurses := true, apart := false, narrowed := true }
def AllocationJoinsUptoSaid : Prop := allocationJoinsUptoRow.holds Try.pinned (OpenSpec.upto allocationJoinsSpec)

/-- 'masterdisclaw41.SpacebitmapFits', WHERE WHAT IT READS IS OF BULK AT MOST 1048576: true; the input reads as it did. -/
def spacebitmapFitsUptoRow : OpenClaim := { program := "ytijbfebbogiiiaa", sum := "8417b9ce827a38ebe75bb818734e7a44c999c723d0819b4a21c111a46256b52c", func := "masterdisc/masterdisclaw41.SpacebitmapFits", spec := "spacebitmapFits", inPlace := ["internal/abi.NoEscape", "internal/bytealg.MakeNoZero"], unfollowed := true, recurses := true, apart := false, narrowed := true }
def SpacebitmapFitsUptoSaid : Prop := spacebitmapFitsUptoRow.holds Try.pinned (OpenSpec.upto spacebitmapFitsSpec)

/-- 'masterdisclaw31.UdftagRelocates', WHERE WHAT IT READS IS OF BULK AT MOST 1048576: true; the input reads as it did. -/
def udftagRelocatesUptoRow : OpenClaim := { program := "ytijbfebbogiiiaa", sum := "8417b9ce827a38ebe75bb818734e7a44c999c723d0819b4a21c111a46256b52c", func := "masterdisc/masterdisclaw31.UdftagRelocates", spec := "udftagRelocates", unfollowed := true, recurses := true, apart := false, narrowed := true }
def UdftagRelocatesUptoSaid : Prop := udftagRelocatesUptoRow.holds Try.pinned (OpenSpec.upto udftagRelocatesSpec)

/-- 'masterdisclaw33.AllocationDescriptors', WHERE WHAT IT READS IS OF BULK AT MOST 1048576: true; the input reads as it did. -/
def allocationDescriptorsUptoRow : OpenClaim := { program := "ytijbfebbogiiiaa", sum := "8417b9ce827a38ebe75bb818734e7a44c999c723d0819b4a21c111a46256b52c", func := "masterdisc/masterdisclaw33.AllocationDescriptors", spec := "allocationDescriptors", inPlace := ["internal/abi.NoEscape", "internal/bytealg.MakeNoZero"], unfollowed := true, recurses := true, apart := false, narrowed := true }
def AllocationDescriptorsUptoSaid : Prop := allocationDescriptorsUptoRow.holds Try.pinned (OpenSpec.upto allocationDescriptorsSpec)

/-- 'masterdisclaw31.UdftagMoves', WHERE WHAT IT READS IS OF BULK AT MOST 1048576: true; the input reads as it did. -/
def udftagMovesUptoRow : OpenClaim := { program := "ytijbfebbogiiiaa", sum := "8417b9ce827a38ebe75bb818734e7a44c999c723d0819b4a21c111a46256b52c", func := "masterdisc/masterdisclaw31.UdftagMoves", spec := "udftagMoves", unfollowed := true, recurses := true, apart := false, narrowed := true }
def UdftagMovesUptoSaid : Prop := udftagMovesUptoRow.holds Try.pinned (OpenSpec.upto udftagMovesSpec)

/-- 'masterdisclaw33.AllocationCuts', WHERE WHAT IT READS IS OF BULK AT MOST 1048576: true; the input reads as it did. -/
def allocationCutsUptoRow : OpenClaim := { program := "ytijbfebbogiiiaa", sum := "8417b9ce827a38ebe75bb818734e7a44c999c723d0819b4a21c111a46256b52c", func := "masterdisc/masterdisclaw33.AllocationCuts", spec := "allocationCuts", unfollowed := true, recurses := true, apart := false, narrowed := true }
def AllocationCutsUptoSaid : Prop := allocationCutsUptoRow.holds Try.pinned (OpenSpec.upto allocationCutsSpec)

/-- 'masterdisclaw33.AllocationFinds', WHERE WHAT IT READS IS OF BULK AT MOST 1048576: true; the input reads as it did. -/
def allocationFindsUptoRow : OpenClaim := { program := "ytijbfebbogiiiaa", sum := "8417b9ce827a38ebe75bb818734e7a44c999c723d0819b4a21c111a46256b52c", func := "masterdisc/masterdisclaw33.AllocationFinds", spec := "allocationFinds", unfollowed := true, recurses := true, apart := false, narrowed := true }
def AllocationFindsUptoSaid : Prop := allocationFindsUptoRow.holds Try.pinned (OpenSpec.upto allocationFindsSpec)

/-- 'masterdisclaw33.AllocationLocates', WHERE WHAT IT READS IS OF BULK AT MOST 1048576: true; the input reads as it did. -/
def allocationLocatesUptoRow : OpenClaim := { program := "ytijbfebbogiiiaa", sum := "8417b9ce827a38ebe75bb818734e7a44c999c723d0819b4a21c111a46256b52c", func := "masterdisc/masterdisclaw33.AllocationLocates", spec := "allocationLocates", unfollowed := true, recurses := true, apart := false, narrowed := true }
def AllocationLocatesUptoSaid : Prop := allocationLocatesUptoRow.holds Try.pinned (OpenSpec.upto allocationLocatesSpec)

/-- 'masterdisclaw31.UdftagFaults', WHERE WHAT IT READS IS OF BULK AT MOST 1048576: true; the input reads as it did. -/
def udftagFaultsUptoRow : OpenClaim := { program := "ytijbfebbogiiiaa", sum := "8417b9ce827a38ebe75bb818734e7a44c999c723d0819b4a21c111a46256b52c", func := "masterdisc/masterdisclaw31.UdftagFaults", spec := "udftagFaults", unfollowed := true, recurses := true, apart := false, narrowed := true }
def UdftagFaultsUptoSaid : Prop := udftagFaultsUptoRow.holds Try.pinned (OpenSpec.upto udftagFaultsSpec)

/-- 'masterdisclaw33.AllocationDecodes', WHERE WHAT IT READS IS OF BULK AT MOST 1048576: true; the input reads as it did. -/
def allocationDecodesUptoRow : OpenClaim := { program := "ytijbfebbogiiiaa", sum := "8417b9ce827a38ebe75bb818734e7a44c999c723d0819b4a21c111a46256b52c", func := "masterdisc/masterdisclaw33.AllocationDecodes", spec := "allocationDecodes", unfollowed := true, recurses := true, apart := false, narrowed := true }
def AllocationDecodesUptoSaid : Prop := allocationDecodesUptoRow.holds Try.pinned (OpenSpec.upto allocationDecodesSpec)

/-- 'masterdisclaw33.AllocationReturns', WHERE WHAT IT READS IS OF BULK AT MOST 1048576: true; the input reads as it did. -/
def allocationReturnsUptoRow : OpenClaim := { program := "ytijbfebbogiiiaa", sum := "8417b9ce827a38ebe75bb818734e7a44c999c723d0819b4a21c111a46256b52c", func := "masterdisc/masterdisclaw33.AllocationReturns", spec := "allocationReturns", unfollowed := true, recurses := true, apart := false, narrowed := true }
def AllocationReturnsUptoSaid : Prop := allocationReturnsUptoRow.holds Try.pinned (OpenSpec.upto allocationReturnsSpec)

/-- 'masterdisclaw31.UdftagSeals', WHERE WHAT IT READS IS OF BULK AT MOST 1048576: true; the input reads as it did. -/
def udftagSealsUptoRow : OpenClaim := { program := "ytijbfebbogiiiaa", sum := "8417b9ce827a38ebe75bb818734e7a44c999c723d0819b4a21c111a46256b52c", func := "masterdisc/masterdisclaw31.UdftagSeals", spec := "udftagSeals", inPlace := ["internal/abi.NoEscape", "internal/bytealg.MakeNoZero"], unfollowed := true, recurses := true, apart := false, narrowed := true }
def UdftagSealsUptoSaid : Prop := udftagSealsUptoRow.holds Try.pinned (OpenSpec.upto udftagSealsSpec)

/-- 'masterdisclaw31.UdftagPads', WHERE WHAT IT READS IS OF BULK AT MOST 1048576: true; the input reads as it did. -/
def udftagPadsUptoRow : OpenClaim := { program := "ytijbfebbogiiiaa", sum := "8417b9ce827a38ebe75bb818734e7a44c999c723d0819b4a21c111a46256b52c", func := "masterdisc/masterdisclaw31.UdftagPads", spec := "udftagPads", inPlace := ["internal/abi.NoEscape", "internal/bytealg.MakeNoZero"], unfollowed := true, recurses := true, apart := false, narrowed := true }
def UdftagPadsUptoSaid : Prop := udftagPadsUptoRow.holds Try.pinned (OpenSpec.upto udftagPadsSpec)

/-- 'masterdisclaw41.SpacebitmapMarks', WHERE WHAT IT READS IS OF BULK AT MOST 1048576: true; the input reads as it did. -/
def spacebitmapMarksUptoRow : OpenClaim := { program := "ytijbfebbogiiiaa", sum := "8417b9ce827a38ebe75bb818734e7a44c999c723d0819b4a21c111a46256b52c", func := "masterdisc/masterdisclaw41.SpacebitmapMarks", spec := "spacebitmapMarks", inPlace := ["internal/abi.NoEscape", "internal/bytealg.MakeNoZero"], unfollowed := true, recurses := true, apart := false, narrowed := true }
def SpacebitmapMarksUptoSaid : Prop := spacebitmapMarksUptoRow.holds Try.pinned (OpenSpec.upto spacebitmapMarksSpec)

/-- 'masterdisclaw41.SpacebitmapAllocates', WHERE WHAT IT READS IS OF BULK AT MOST 1048576: true; the input reads as it did. -/
def spacebitmapAllocatesUptoRow : OpenClaim := { program := "ytijbfebbogiiiaa", sum := "8417b9ce827a38ebe75bb818734e7a44c999c723d0819b4a21c111a46256b52c", func := "masterdisc/masterdisclaw41.SpacebitmapAllocates", spec := "spacebitmapAllocates", inPlace := ["internal/abi.NoEscape", "internal/bytealg.MakeNoZero"], unfollowed := true, recurses := true, apart := false, narrowed := true }
def SpacebitmapAllocatesUptoSaid : Prop := spacebitmapAllocatesUptoRow.holds Try.pinned (OpenSpec.upto spacebitmapAllocatesSpec)

/-- 'masterdisclaw41.SpacebitmapDescriptors', WHERE WHAT IT READS IS OF BULK AT MOST 1048576: true; the input reads as it did. -/
def spacebitmapDescriptorsUptoRow : OpenClaim := { program := "ytijbfebbogiiiaa", sum := "8417b9ce827a38ebe75bb818734e7a44c999c723d0819b4a21c111a46256b52c", func := "masterdisc/masterdisclaw41.SpacebitmapDescriptors", spec := "spacebitmapDescriptors", inPlace := ["internal/abi.NoEscape", "internal/bytealg.MakeNoZero"], unfollowed := true, recurses := true, apart := false, narrowed := true }
def SpacebitmapDescriptorsUptoSaid : Prop := spacebitmapDescriptorsUptoRow.holds Try.pinned (OpenSpec.upto spacebitmapDescriptorsSpec)

/-- 'masterdisclaw41.SpacebitmapReturns', WHERE WHAT IT READS IS OF BULK AT MOST 1048576: true; the input reads as it did. -/
def spacebitmapReturnsUptoRow : OpenClaim := { program := "ytijbfebbogiiiaa", sum := "8417b9ce827a38ebe75bb818734e7a44c999c723d0819b4a21c111a46256b52c", func := "masterdisc/masterdisclaw41.SpacebitmapReturns", spec := "spacebitmapReturns", inPlace := ["internal/abi.NoEscape", "internal/bytealg.MakeNoZero"], unfollowed := true, recurses := true, apart := false, narrowed := true }
def SpacebitmapReturnsUptoSaid : Prop := spacebitmapReturnsUptoRow.holds Try.pinned (OpenSpec.upto spacebitmapReturnsSpec)

/-- 'masterdisclaw41.SpacebitmapRuns', WHERE WHAT IT READS IS OF BULK AT MOST 1048576: true; the input reads as it did. -/
def spacebitmapRunsUptoRow : OpenClaim := { program := "ytijbfebbogiiiaa", sum := "8417b9ce827a38ebe75bb818734e7a44c999c723d0819b4a21c111a46256b52c", func := "masterdisc/masterdisclaw41.SpacebitmapRuns", spec := "spacebitmapRuns", inPlace := ["internal/abi.NoEscape", "internal/bytealg.MakeNoZero"], unfollowed := true, recurses := true, apart := false, narrowed := true }
def SpacebitmapRunsUptoSaid : Prop := spacebitmapRunsUptoRow.holds Try.pinned (OpenSpec.upto spacebitmapRunsSpec)

/-- 'masterdisclaw41.SpacebitmapTakes', WHERE WHAT IT READS IS OF BULK AT MOST 1048576: true; the input reads as it did. -/
def spacebitmapTakesUptoRow : OpenClaim := { program := "ytijbfebbogiiiaa", sum := "8417b9ce827a38ebe75bb818734e7a44c999c723d0819b4a21c111a46256b52c", func := "masterdisc/masterdisclaw41.SpacebitmapTakes", spec := "spacebitmapTakes", inPlace := ["internal/abi.NoEscape", "internal/bytealg.MakeNoZero"], unfollowed := true, recurses := true, apart := false, narrowed := true }
def SpacebitmapTakesUptoSaid : Prop := spacebitmapTakesUptoRow.holds Try.pinned (OpenSpec.upto spacebitmapTakesSpec)

end Rows
end Go.Proofs.Ytijbfebbogiiiaa
