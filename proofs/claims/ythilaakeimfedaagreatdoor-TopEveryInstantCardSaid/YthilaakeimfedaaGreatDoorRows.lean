/-
  NARROWER THAN 'FOR EVERY INPUT', by the rows' own cells (each row's printed sentence says how): AscentStays: laid · AscentTasks: laid · AscentRules: laid · AscentLegs: laid · AscentDirects: laid · AscentChecks: laid · AscentGenerates: laid · AscentChanges: laid · AscentFollows: laid · AscentNeeded: laid · AscentInstants: laid · AscentBegins: laid · AscentTexts: laid · TopStaysAccepted: laid · TopRestsAndRepeats: laid · TopEveryInstant: laid.
  DERIVED. THE GIVEN ROWS OF THIS SEAT. 16 by the template 'for every input the law returns true; each argument reads behind the call as it read before'; 0 by the template 'total and deterministic' (their statements: YthilaakeimfedaaGreatDoorTotals.lean).
  GIVEN WITH THE SEED: the statements are not yours to turn. If you find one false, say at which input.
  Laid BY PROGRAM, IN A SANDBOX (cutbox-rows.mjs): the forced cells as the released guide's own fill.sh prints them over the translation 1141b065036e0da9… (all of the seat's roots in one cut). By AI agents, Wed Nov 11 2026. No macro, syntax, notation, axiom, sorry.
-/
import Derived.Test.YthilaakeimfedaaGreatDoorChecked
import GoSem.PinnedTables
import GoSem.Claim
import GoSem.ClaimJoined
import GoSem.ClaimMapViews
import Derived.JoinedTies
import Derived.KernelRfl
namespace Go.Proofs.YthilaakeimfedaaGreatDoor
/- THE CELL 'sum', in the pinned program and in every row, IS THE sha256 OF THE DUMP (.gsa) THAT YthilaakeimfedaaGreatDoorProg.lean LOADS. Nothing in Lean hashes anything: it is a label: what it is worth is what the hold of that sum in a sandbox is worth. -/
noncomputable def Tryz.pinned : Pinned := { name := "ythilaakeimfedaagreatdoor", sum := "1141b065036e0da9e7551cf67bfd92af0105df2ff093400212ae65fca9f1b8a3", checked := Tryz.checked }
namespace Rows
def none {H : Type} : Left H := { results := [], args := [] }

/- WHAT THE LISTED PACKAGE-LEVEL VARIABLES READ AS WHEN THE CALL BEGINS. Each datum BY PROGRAM (the guide's laid-datum.mjs) off the statement by which the dump's own 'gosem.cut.vars' lays the variable. In a bare row this is a premise. The card (YthilaakeimfedaaGreatDoorCards.lean) ties it to the program's text. -/
def laid_math_bits_deBruijn32tab {H : Type} : DataW H := .agg [.lit (.int .u8 0), .lit (.int .u8 1), .lit (.int .u8 28), .lit (.int .u8 2), .lit (.int .u8 29), .lit (.int .u8 14), .lit (.int .u8 24), .lit (.int .u8 3), .lit (.int .u8 30), .lit (.int .u8 22), .lit (.int .u8 20), .lit (.int .u8 15), .lit (.int .u8 25), .lit (.int .u8 17), .lit (.int .u8 4), .lit (.int .u8 8), .lit (.int .u8 31), .lit (.int .u8 27), .lit (.int .u8 13), .lit (.int .u8 23), .lit (.int .u8 21), .lit (.int .u8 19), .lit (.int .u8 16), .lit (.int .u8 7), .lit (.int .u8 26), .lit (.int .u8 12), .lit (.int .u8 18), .lit (.int .u8 6), .lit (.int .u8 11), .lit (.int .u8 5), .lit (.int .u8 10), .lit (.int .u8 9)]
def laid_math_bits_deBruijn64tab {H : Type} : DataW H := .agg [.lit (.int .u8 0), .lit (.int .u8 1), .lit (.int .u8 56), .lit (.int .u8 2), .lit (.int .u8 57), .lit (.int .u8 49), .lit (.int .u8 28), .lit (.int .u8 3), .lit (.int .u8 61), .lit (.int .u8 58), .lit (.int .u8 42), .lit (.int .u8 50), .lit (.int .u8 38), .lit (.int .u8 29), .lit (.int .u8 17), .lit (.int .u8 4), .lit (.int .u8 62), .lit (.int .u8 47), .lit (.int .u8 59), .lit (.int .u8 36), .lit (.int .u8 45), .lit (.int .u8 43), .lit (.int .u8 51), .lit (.int .u8 22), .lit (.int .u8 53), .lit (.int .u8 39), .lit (.int .u8 33), .lit (.int .u8 30), .lit (.int .u8 24), .lit (.int .u8 18), .lit (.int .u8 12), .lit (.int .u8 5), .lit (.int .u8 63), .lit (.int .u8 55), .lit (.int .u8 48), .lit (.int .u8 27), .lit (.int .u8 60), .lit (.int .u8 41), .lit (.int .u8 37), .lit (.int .u8 16), .lit (.int .u8 46), .lit (.int .u8 35), .lit (.int .u8 44), .lit (.int .u8 21), .lit (.int .u8 52), .lit (.int .u8 32), .lit (.int .u8 23), .lit (.int .u8 11), .lit (.int .u8 54), .lit (.int .u8 26), .lit (.int .u8 40), .lit (.int .u8 15), .lit (.int .u8 34), .lit (.int .u8 20), .lit (.int .u8 31), .lit (.int .u8 10), .lit (.int .u8 25), .lit (.int .u8 14), .lit (.int .u8 19), .lit (.int .u8 9), .lit (.int .u8 13), .lit (.int .u8 8), .lit (.int .u8 7), .lit (.int .u8 6)]
def laid_internal_strconv_uint64pow10 {H : Type} : DataW H := .agg [.lit (.int .u64 1), .lit (.int .u64 10), .lit (.int .u64 100), .lit (.int .u64 1000), .lit (.int .u64 10000), .lit (.int .u64 100000), .lit (.int .u64 1000000), .lit (.int .u64 10000000), .lit (.int .u64 100000000), .lit (.int .u64 1000000000), .lit (.int .u64 10000000000), .lit (.int .u64 100000000000), .lit (.int .u64 1000000000000), .lit (.int .u64 10000000000000), .lit (.int .u64 100000000000000), .lit (.int .u64 1000000000000000), .lit (.int .u64 10000000000000000), .lit (.int .u64 100000000000000000), .lit (.int .u64 1000000000000000000), .lit (.int .u64 10000000000000000000)]
def laid_unicode_utf8_acceptRanges {H : Type} : DataW H := .agg [.agg [.lit (.int .u8 128), .lit (.int .u8 191)], .agg [.lit (.int .u8 160), .lit (.int .u8 191)], .agg [.lit (.int .u8 128), .lit (.int .u8 159)], .agg [.lit (.int .u8 144), .lit (.int .u8 191)], .agg [.lit (.int .u8 128), .lit (.int .u8 143)], .agg [.lit (.int .u8 0), .lit (.int .u8 0)], .agg [.lit (.int .u8 0), .lit (.int .u8 0)], .agg [.lit (.int .u8 0), .lit (.int .u8 0)], .agg [.lit (.int .u8 0), .lit (.int .u8 0)], .agg [.lit (.int .u8 0), .lit (.int .u8 0)], .agg [.lit (.int .u8 0), .lit (.int .u8 0)], .agg [.lit (.int .u8 0), .lit (.int .u8 0)], .agg [.lit (.int .u8 0), .lit (.int .u8 0)], .agg [.lit (.int .u8 0), .lit (.int .u8 0)], .agg [.lit (.int .u8 0), .lit (.int .u8 0)], .agg [.lit (.int .u8 0), .lit (.int .u8 0)]]
def laid_strconv_ErrRange {H : Type} : DataW H := .iface "*errors.errorString" (.ptr (.agg [.lit (.string [118, 97, 108, 117, 101, 32, 111, 117, 116, 32, 111, 102, 32, 114, 97, 110, 103, 101])]))
def laid_strconv_ErrSyntax {H : Type} : DataW H := .iface "*errors.errorString" (.ptr (.agg [.lit (.string [105, 110, 118, 97, 108, 105, 100, 32, 115, 121, 110, 116, 97, 120])]))
/-- One of Go's own tables, pinned by name: the form's constant. -/
def laid_unicode_utf8_first : DataW Unit := Go.Pinned.utf8First

/-- 'shotlinelaw04.AscentStays': WHATEVER THE INPUT: true; the input reads as it did. -/
def ascentStaysSpec : ChangeSpec := { name := "ascentStays", fn := fun _ => fun
  | [d] => { results := [.lit (.bool true)], args := [d] }
  | _ => none }
def ascentStaysRow : OpenClaim := { program := "ythilaakeimfedaagreatdoor", sum := "1141b065036e0da9e7551cf67bfd92af0105df2ff093400212ae65fca9f1b8a3", func := "shotline/shotlinelaw04.AscentStays", spec := "ascentStays", inPlace := ["internal/abi.NoEscape"], unfollowed := true, recurses := true, named := ["internal/strconv.uint64pow10", "math/bits.deBruijn32tab", "math/bits.deBruijn64tab"], apart := false, laid := [("math/bits.deBruijn32tab", laid_math_bits_deBruijn32tab), ("math/bits.deBruijn64tab", laid_math_bits_deBruijn64tab), ("internal/strconv.uint64pow10", laid_internal_strconv_uint64pow10)] }
def AscentStaysSaid : Prop := ascentStaysRow.holds Tryz.pinned (OpenSpec.ofChange ascentStaysSpec)

/-- ITS FALSE NEIGHBOUR: 'it returns false'. Refute it at one input. -/
def ascentStaysWrong : ChangeSpec := { name := "ascentStays", fn := fun _ => fun
  | [d] => { results := [.lit (.bool false)], args := [d] }
  | _ => none }
def AscentStaysWrongFalsely : Prop := ascentStaysRow.holds Tryz.pinned (OpenSpec.ofChange ascentStaysWrong)

/-- 'shotlinelaw04.AscentTasks': WHATEVER THE INPUT: true; the input reads as it did. -/
def ascentTasksSpec : ChangeSpec := { name := "ascentTasks", fn := fun _ => fun
  | [d1, d2] => { results := [.lit (.bool true)], args := [d1, d2] }
  | _ => none }
def ascentTasksRow : OpenClaim := { program := "ythilaakeimfedaagreatdoor", sum := "1141b065036e0da9e7551cf67bfd92af0105df2ff093400212ae65fca9f1b8a3", func := "shotline/shotlinelaw04.AscentTasks", spec := "ascentTasks", inPlace := ["internal/abi.NoEscape"], unfollowed := true, recurses := true, named := ["internal/strconv.uint64pow10", "math/bits.deBruijn32tab", "math/bits.deBruijn64tab"], apart := false, laid := [("math/bits.deBruijn32tab", laid_math_bits_deBruijn32tab), ("math/bits.deBruijn64tab", laid_math_bits_deBruijn64tab), ("internal/strconv.uint64pow10", laid_internal_strconv_uint64pow10)] }
def AscentTasksSaid : Prop := ascentTasksRow.holds Tryz.pinned (OpenSpec.ofChange ascentTasksSpec)

/-- ITS FALSE NEIGHBOUR: 'it returns false'. Refute it at one input. -/
def ascentTasksWrong : ChangeSpec := { name := "ascentTasks", fn := fun _ => fun
  | [d1, d2] => { results := [.lit (.bool false)], args := [d1, d2] }
  | _ => none }
def AscentTasksWrongFalsely : Prop := ascentTasksRow.holds Tryz.pinned (OpenSpec.ofChange ascentTasksWrong)

/-- 'shotlinelaw04.AscentRules': WHATEVER THE INPUT: true; the input reads as it did. -/
def ascentRulesSpec : ChangeSpec := { name := "ascentRules", fn := fun _ => fun
  | [d1, d2, d3] => { results := [.lit (.bool true)], args := [d1, d2, d3] }
  | _ => none }
def ascentRulesRow : OpenClaim := { program := "ythilaakeimfedaagreatdoor", sum := "1141b065036e0da9e7551cf67bfd92af0105df2ff093400212ae65fca9f1b8a3", func := "shotline/shotlinelaw04.AscentRules", spec := "ascentRules", inPlace := ["internal/abi.NoEscape"], unfollowed := true, recurses := true, named := ["internal/strconv.uint64pow10", "math/bits.deBruijn32tab", "math/bits.deBruijn64tab"], apart := false, laid := [("math/bits.deBruijn32tab", laid_math_bits_deBruijn32tab), ("math/bits.deBruijn64tab", laid_math_bits_deBruijn64tab), ("internal/strconv.uint64pow10", laid_internal_strconv_uint64pow10)] }
def AscentRulesSaid : Prop := ascentRulesRow.holds Tryz.pinned (OpenSpec.ofChange ascentRulesSpec)

/-- ITS FALSE NEIGHBOUR: 'it returns false'. Refute it at one input. -/
def ascentRulesWrong : ChangeSpec := { name := "ascentRules", fn := fun _ => fun
  | [d1, d2, d3] => { results := [.lit (.bool false)], args := [d1, d2, d3] }
  | _ => none }
def AscentRulesWrongFalsely : Prop := ascentRulesRow.holds Tryz.pinned (OpenSpec.ofChange ascentRulesWrong)

/-- 'shotlinelaw04.AscentLegs': WHATEVER THE INPUT: true; the input reads as it did. -/
def ascentLegsSpec : ChangeSpec := { name := "ascentLegs", fn := fun _ => fun
  | [d1, d2] => { results := [.lit (.bool true)], args := [d1, d2] }
  | _ => none }
def ascentLegsRow : OpenClaim := { program := "ythilaakeimfedaagreatdoor", sum := "1141b065036e0da9e7551cf67bfd92af0105df2ff093400212ae65fca9f1b8a3", func := "shotline/shotlinelaw04.AscentLegs", spec := "ascentLegs", inPlace := ["internal/abi.NoEscape"], unfollowed := true, recurses := true, named := ["internal/strconv.uint64pow10", "math/bits.deBruijn32tab", "math/bits.deBruijn64tab"], apart := false, laid := [("math/bits.deBruijn32tab", laid_math_bits_deBruijn32tab), ("math/bits.deBruijn64tab", laid_math_bits_deBruijn64tab), ("internal/strconv.uint64pow10", laid_internal_strconv_uint64pow10)] }
def AscentLegsSaid : Prop := ascentLegsRow.holds Tryz.pinned (OpenSpec.ofChange ascentLegsSpec)

/-- ITS FALSE NEIGHBOUR: 'it returns false'. Refute it at one input. -/
def ascentLegsWrong : ChangeSpec := { name := "ascentLegs", fn := fun _ => fun
  | [d1, d2] => { results := [.lit (.bool false)], args := [d1, d2] }
  | _ => none }
def AscentLegsWrongFalsely : Prop := ascentLegsRow.holds Tryz.pinned (OpenSpec.ofChange ascentLegsWrong)

/-- 'shotlinelaw04.AscentDirects': WHATEVER THE INPUT: true; the input reads as it did. -/
def ascentDirectsSpec : ChangeSpec := { name := "ascentDirects", fn := fun _ => fun
  | [d] => { results := [.lit (.bool true)], args := [d] }
  | _ => none }
def ascentDirectsRow : OpenClaim := { program := "ythilaakeimfedaagreatdoor", sum := "1141b065036e0da9e7551cf67bfd92af0105df2ff093400212ae65fca9f1b8a3", func := "shotline/shotlinelaw04.AscentDirects", spec := "ascentDirects", inPlace := ["internal/abi.NoEscape"], unfollowed := true, recurses := true, named := ["internal/strconv.uint64pow10", "math/bits.deBruijn32tab", "math/bits.deBruijn64tab"], apart := false, laid := [("math/bits.deBruijn32tab", laid_math_bits_deBruijn32tab), ("math/bits.deBruijn64tab", laid_math_bits_deBruijn64tab), ("internal/strconv.uint64pow10", laid_internal_strconv_uint64pow10)] }
def AscentDirectsSaid : Prop := ascentDirectsRow.holds Tryz.pinned (OpenSpec.ofChange ascentDirectsSpec)

/-- ITS FALSE NEIGHBOUR: 'it returns false'. Refute it at one input. -/
def ascentDirectsWrong : ChangeSpec := { name := "ascentDirects", fn := fun _ => fun
  | [d] => { results := [.lit (.bool false)], args := [d] }
  | _ => none }
def AscentDirectsWrongFalsely : Prop := ascentDirectsRow.holds Tryz.pinned (OpenSpec.ofChange ascentDirectsWrong)

/-- 'shotlinelaw04.AscentChecks': WHATEVER THE INPUT: true; the input reads as it did. -/
def ascentChecksSpec : ChangeSpec := { name := "ascentChecks", fn := fun _ => fun
  | [d1, d2] => { results := [.lit (.bool true)], args := [d1, d2] }
  | _ => none }
def ascentChecksRow : OpenClaim := { program := "ythilaakeimfedaagreatdoor", sum := "1141b065036e0da9e7551cf67bfd92af0105df2ff093400212ae65fca9f1b8a3", func := "shotline/shotlinelaw04.AscentChecks", spec := "ascentChecks", inPlace := ["internal/abi.NoEscape"], unfollowed := true, recurses := true, named := ["internal/strconv.uint64pow10", "math/bits.deBruijn32tab", "math/bits.deBruijn64tab"], apart := false, laid := [("math/bits.deBruijn32tab", laid_math_bits_deBruijn32tab), ("math/bits.deBruijn64tab", laid_math_bits_deBruijn64tab), ("internal/strconv.uint64pow10", laid_internal_strconv_uint64pow10)] }
def AscentChecksSaid : Prop := ascentChecksRow.holds Tryz.pinned (OpenSpec.ofChange ascentChecksSpec)

/-- ITS FALSE NEIGHBOUR: 'it returns false'. Refute it at one input. -/
def ascentChecksWrong : ChangeSpec := { name := "ascentChecks", fn := fun _ => fun
  | [d1, d2] => { results := [.lit (.bool false)], args := [d1, d2] }
  | _ => none }
def AscentChecksWrongFalsely : Prop := ascentChecksRow.holds Tryz.pinned (OpenSpec.ofChange ascentChecksWrong)

/-- 'shotlinelaw04.AscentGenerates': WHATEVER THE INPUT: true; the input reads as it did. -/
def ascentGeneratesSpec : ChangeSpec := { name := "ascentGenerates", fn := fun _ => fun
  | [d] => { results := [.lit (.bool true)], args := [d] }
  | _ => none }
def ascentGeneratesRow : OpenClaim := { program := "ythilaakeimfedaagreatdoor", sum := "1141b065036e0da9e7551cf67bfd92af0105df2ff093400212ae65fca9f1b8a3", func := "shotline/shotlinelaw04.AscentGenerates", spec := "ascentGenerates", inPlace := ["internal/abi.NoEscape"], unfollowed := true, recurses := true, named := ["internal/strconv.uint64pow10", "math/bits.deBruijn32tab", "math/bits.deBruijn64tab"], apart := false, laid := [("math/bits.deBruijn32tab", laid_math_bits_deBruijn32tab), ("math/bits.deBruijn64tab", laid_math_bits_deBruijn64tab), ("internal/strconv.uint64pow10", laid_internal_strconv_uint64pow10)] }
def AscentGeneratesSaid : Prop := ascentGeneratesRow.holds Tryz.pinned (OpenSpec.ofChange ascentGeneratesSpec)

/-- ITS FALSE NEIGHBOUR: 'it returns false'. Refute it at one input. -/
def ascentGeneratesWrong : ChangeSpec := { name := "ascentGenerates", fn := fun _ => fun
  | [d] => { results := [.lit (.bool false)], args := [d] }
  | _ => none }
def AscentGeneratesWrongFalsely : Prop := ascentGeneratesRow.holds Tryz.pinned (OpenSpec.ofChange ascentGeneratesWrong)

/-- 'shotlinelaw04.AscentChanges': WHATEVER THE INPUT: true; the input reads as it did. -/
def ascentChangesSpec : ChangeSpec := { name := "ascentChanges", fn := fun _ => fun
  | [d1, d2, d3] => { results := [.lit (.bool true)], args := [d1, d2, d3] }
  | _ => none }
def ascentChangesRow : OpenClaim := { program := "ythilaakeimfedaagreatdoor", sum := "1141b065036e0da9e7551cf67bfd92af0105df2ff093400212ae65fca9f1b8a3", func := "shotline/shotlinelaw04.AscentChanges", spec := "ascentChanges", inPlace := ["internal/abi.NoEscape"], unfollowed := true, recurses := true, named := ["internal/strconv.uint64pow10", "math/bits.deBruijn32tab", "math/bits.deBruijn64tab"], apart := false, laid := [("math/bits.deBruijn32tab", laid_math_bits_deBruijn32tab), ("math/bits.deBruijn64tab", laid_math_bits_deBruijn64tab), ("internal/strconv.uint64pow10", laid_internal_strconv_uint64pow10)] }
def AscentChangesSaid : Prop := ascentChangesRow.holds Tryz.pinned (OpenSpec.ofChange ascentChangesSpec)

/-- ITS FALSE NEIGHBOUR: 'it returns false'. Refute it at one input. -/
def ascentChangesWrong : ChangeSpec := { name := "ascentChanges", fn := fun _ => fun
  | [d1, d2, d3] => { results := [.lit (.bool false)], args := [d1, d2, d3] }
  | _ => none }
def AscentChangesWrongFalsely : Prop := ascentChangesRow.holds Tryz.pinned (OpenSpec.ofChange ascentChangesWrong)

/-- 'shotlinelaw04.AscentFollows': WHATEVER THE INPUT: true; the input reads as it did. -/
def ascentFollowsSpec : ChangeSpec := { name := "ascentFollows", fn := fun _ => fun
  | [d1, d2] => { results := [.lit (.bool true)], args := [d1, d2] }
  | _ => none }
def ascentFollowsRow : OpenClaim := { program := "ythilaakeimfedaagreatdoor", sum := "1141b065036e0da9e7551cf67bfd92af0105df2ff093400212ae65fca9f1b8a3", func := "shotline/shotlinelaw04.AscentFollows", spec := "ascentFollows", inPlace := ["internal/abi.NoEscape"], unfollowed := true, recurses := true, named := ["internal/strconv.uint64pow10", "math/bits.deBruijn32tab", "math/bits.deBruijn64tab"], apart := false, laid := [("math/bits.deBruijn32tab", laid_math_bits_deBruijn32tab), ("math/bits.deBruijn64tab", laid_math_bits_deBruijn64tab), ("internal/strconv.uint64pow10", laid_internal_strconv_uint64pow10)] }
def AscentFollowsSaid : Prop := ascentFollowsRow.holds Tryz.pinned (OpenSpec.ofChange ascentFollowsSpec)

/-- ITS FALSE NEIGHBOUR: 'it returns false'. Refute it at one input. -/
def ascentFollowsWrong : ChangeSpec := { name := "ascentFollows", fn := fun _ => fun
  | [d1, d2] => { results := [.lit (.bool false)], args := [d1, d2] }
  | _ => none }
def AscentFollowsWrongFalsely : Prop := ascentFollowsRow.holds Tryz.pinned (OpenSpec.ofChange ascentFollowsWrong)

/-- 'shotlinelaw04.AscentNeeded': WHATEVER THE INPUT: true; the input reads as it did. -/
def ascentNeededSpec : ChangeSpec := { name := "ascentNeeded", fn := fun _ => fun
  | [d] => { results := [.lit (.bool true)], args := [d] }
  | _ => none }
def ascentNeededRow : OpenClaim := { program := "ythilaakeimfedaagreatdoor", sum := "1141b065036e0da9e7551cf67bfd92af0105df2ff093400212ae65fca9f1b8a3", func := "shotline/shotlinelaw04.AscentNeeded", spec := "ascentNeeded", inPlace := ["internal/abi.NoEscape"], unfollowed := true, recurses := true, named := ["internal/strconv.uint64pow10", "math/bits.deBruijn32tab", "math/bits.deBruijn64tab"], apart := false, laid := [("math/bits.deBruijn32tab", laid_math_bits_deBruijn32tab), ("math/bits.deBruijn64tab", laid_math_bits_deBruijn64tab), ("internal/strconv.uint64pow10", laid_internal_strconv_uint64pow10)] }
def AscentNeededSaid : Prop := ascentNeededRow.holds Tryz.pinned (OpenSpec.ofChange ascentNeededSpec)

/-- ITS FALSE NEIGHBOUR: 'it returns false'. Refute it at one input. -/
def ascentNeededWrong : ChangeSpec := { name := "ascentNeeded", fn := fun _ => fun
  | [d] => { results := [.lit (.bool false)], args := [d] }
  | _ => none }
def AscentNeededWrongFalsely : Prop := ascentNeededRow.holds Tryz.pinned (OpenSpec.ofChange ascentNeededWrong)

/-- 'shotlinelaw04.AscentInstants': WHATEVER THE INPUT: true; the input reads as it did. -/
def ascentInstantsSpec : ChangeSpec := { name := "ascentInstants", fn := fun _ => fun
  | [d1, d2, d3] => { results := [.lit (.bool true)], args := [d1, d2, d3] }
  | _ => none }
def ascentInstantsRow : OpenClaim := { program := "ythilaakeimfedaagreatdoor", sum := "1141b065036e0da9e7551cf67bfd92af0105df2ff093400212ae65fca9f1b8a3", func := "shotline/shotlinelaw04.AscentInstants", spec := "ascentInstants", inPlace := ["internal/abi.NoEscape"], unfollowed := true, recurses := true, named := ["internal/strconv.uint64pow10", "math/bits.deBruijn32tab", "math/bits.deBruijn64tab"], apart := false, laid := [("math/bits.deBruijn32tab", laid_math_bits_deBruijn32tab), ("math/bits.deBruijn64tab", laid_math_bits_deBruijn64tab), ("internal/strconv.uint64pow10", laid_internal_strconv_uint64pow10)] }
def AscentInstantsSaid : Prop := ascentInstantsRow.holds Tryz.pinned (OpenSpec.ofChange ascentInstantsSpec)

/-- ITS FALSE NEIGHBOUR: 'it returns false'. Refute it at one input. -/
def ascentInstantsWrong : ChangeSpec := { name := "ascentInstants", fn := fun _ => fun
  | [d1, d2, d3] => { results := [.lit (.bool false)], args := [d1, d2, d3] }
  | _ => none }
def AscentInstantsWrongFalsely : Prop := ascentInstantsRow.holds Tryz.pinned (OpenSpec.ofChange ascentInstantsWrong)

/-- 'shotlinelaw04.AscentBegins': WHATEVER THE INPUT: true; the input reads as it did. -/
def ascentBeginsSpec : ChangeSpec := { name := "ascentBegins", fn := fun _ => fun
  | [d1, d2, d3] => { results := [.lit (.bool true)], args := [d1, d2, d3] }
  | _ => none }
def ascentBeginsRow : OpenClaim := { program := "ythilaakeimfedaagreatdoor", sum := "1141b065036e0da9e7551cf67bfd92af0105df2ff093400212ae65fca9f1b8a3", func := "shotline/shotlinelaw04.AscentBegins", spec := "ascentBegins", inPlace := ["internal/abi.NoEscape"], unfollowed := true, recurses := true, named := ["internal/strconv.uint64pow10", "math/bits.deBruijn32tab", "math/bits.deBruijn64tab"], apart := false, laid := [("math/bits.deBruijn32tab", laid_math_bits_deBruijn32tab), ("math/bits.deBruijn64tab", laid_math_bits_deBruijn64tab), ("internal/strconv.uint64pow10", laid_internal_strconv_uint64pow10)] }
def AscentBeginsSaid : Prop := ascentBeginsRow.holds Tryz.pinned (OpenSpec.ofChange ascentBeginsSpec)

/-- ITS FALSE NEIGHBOUR: 'it returns false'. Refute it at one input. -/
def ascentBeginsWrong : ChangeSpec := { name := "ascentBegins", fn := fun _ => fun
  | [d1, d2, d3] => { results := [.lit (.bool false)], args := [d1, d2, d3] }
  | _ => none }
def AscentBeginsWrongFalsely : Prop := ascentBeginsRow.holds Tryz.pinned (OpenSpec.ofChange ascentBeginsWrong)

/-- 'shotlinelaw04.AscentTexts': WHATEVER THE INPUT: true; the input reads as it did. -/
def ascentTextsSpec : ChangeSpec := { name := "ascentTexts", fn := fun _ => fun
  | [d1, d2] => { results := [.lit (.bool true)], args := [d1, d2] }
  | _ => none }
def ascentTextsRow : OpenClaim := { program := "ythilaakeimfedaagreatdoor", sum := "1141b065036e0da9e7551cf67bfd92af0105df2ff093400212ae65fca9f1b8a3", func := "shotline/shotlinelaw04.AscentTexts", spec := "ascentTexts", inPlace := ["internal/abi.NoEscape", "internal/bytealg.IndexByteString", "internal/bytealg.CountString", "internal/bytealg.IndexString"], unfollowed := true, recurses := true, named := ["internal/strconv.uint64pow10", "math/bits.deBruijn32tab", "math/bits.deBruijn64tab", "unicode/utf8.first", "unicode/utf8.acceptRanges", "internal/bytealg.MaxLen", "strconv.ErrSyntax", "strconv.ErrRange"], apart := false, laid := [("math/bits.deBruijn32tab", laid_math_bits_deBruijn32tab), ("math/bits.deBruijn64tab", laid_math_bits_deBruijn64tab), ("internal/strconv.uint64pow10", laid_internal_strconv_uint64pow10), ("unicode/utf8.acceptRanges", laid_unicode_utf8_acceptRanges), ("strconv.ErrRange", laid_strconv_ErrRange), ("strconv.ErrSyntax", laid_strconv_ErrSyntax), ("unicode/utf8.first", laid_unicode_utf8_first)] }
def AscentTextsSaid : Prop := ascentTextsRow.holds Tryz.pinned (OpenSpec.ofChange ascentTextsSpec)

/-- ITS FALSE NEIGHBOUR: 'it returns false'. Refute it at one input. -/
def ascentTextsWrong : ChangeSpec := { name := "ascentTexts", fn := fun _ => fun
  | [d1, d2] => { results := [.lit (.bool false)], args := [d1, d2] }
  | _ => none }
def AscentTextsWrongFalsely : Prop := ascentTextsRow.holds Tryz.pinned (OpenSpec.ofChange ascentTextsWrong)

/-- 'shotlinetop.TopStaysAccepted': WHATEVER THE INPUT: true; the input reads as it did. -/
def topStaysAcceptedSpec : ChangeSpec := { name := "topStaysAccepted", fn := fun _ => fun
  | [d1, d2, d3] => { results := [.lit (.bool true)], args := [d1, d2, d3] }
  | _ => none }
def topStaysAcceptedRow : OpenClaim := { program := "ythilaakeimfedaagreatdoor", sum := "1141b065036e0da9e7551cf67bfd92af0105df2ff093400212ae65fca9f1b8a3", func := "shotline/shotlinetop.TopStaysAccepted", spec := "topStaysAccepted", inPlace := ["internal/abi.NoEscape"], unfollowed := true, recurses := true, named := ["internal/strconv.uint64pow10", "math/bits.deBruijn32tab", "math/bits.deBruijn64tab"], apart := false, laid := [("math/bits.deBruijn32tab", laid_math_bits_deBruijn32tab), ("math/bits.deBruijn64tab", laid_math_bits_deBruijn64tab), ("internal/strconv.uint64pow10", laid_internal_strconv_uint64pow10)] }
def TopStaysAcceptedSaid : Prop := topStaysAcceptedRow.holds Tryz.pinned (OpenSpec.ofChange topStaysAcceptedSpec)

/-- ITS FALSE NEIGHBOUR: 'it returns false'. Refute it at one input. -/
def topStaysAcceptedWrong : ChangeSpec := { name := "topStaysAccepted", fn := fun _ => fun
  | [d1, d2, d3] => { results := [.lit (.bool false)], args := [d1, d2, d3] }
  | _ => none }
def TopStaysAcceptedWrongFalsely : Prop := topStaysAcceptedRow.holds Tryz.pinned (OpenSpec.ofChange topStaysAcceptedWrong)

/-- 'shotlinetop.TopRestsAndRepeats': WHATEVER THE INPUT: true; the input reads as it did. -/
def topRestsAndRepeatsSpec : ChangeSpec := { name := "topRestsAndRepeats", fn := fun _ => fun
  | [d1, d2] => { results := [.lit (.bool true)], args := [d1, d2] }
  | _ => none }
def topRestsAndRepeatsRow : OpenClaim := { program := "ythilaakeimfedaagreatdoor", sum := "1141b065036e0da9e7551cf67bfd92af0105df2ff093400212ae65fca9f1b8a3", func := "shotline/shotlinetop.TopRestsAndRepeats", spec := "topRestsAndRepeats", inPlace := ["internal/abi.NoEscape"], unfollowed := true, recurses := true, named := ["internal/strconv.uint64pow10", "math/bits.deBruijn32tab", "math/bits.deBruijn64tab"], apart := false, laid := [("math/bits.deBruijn32tab", laid_math_bits_deBruijn32tab), ("math/bits.deBruijn64tab", laid_math_bits_deBruijn64tab), ("internal/strconv.uint64pow10", laid_internal_strconv_uint64pow10)] }
def TopRestsAndRepeatsSaid : Prop := topRestsAndRepeatsRow.holds Tryz.pinned (OpenSpec.ofChange topRestsAndRepeatsSpec)

/-- ITS FALSE NEIGHBOUR: 'it returns false'. Refute it at one input. -/
def topRestsAndRepeatsWrong : ChangeSpec := { name := "topRestsAndRepeats", fn := fun _ => fun
  | [d1, d2] => { results := [.lit (.bool false)], args := [d1, d2] }
  | _ => none }
def TopRestsAndRepeatsWrongFalsely : Prop := topRestsAndRepeatsRow.holds Tryz.pinned (OpenSpec.ofChange topRestsAndRepeatsWrong)

/-- 'shotlinetop.TopEveryInstant': WHATEVER THE INPUT: true; the input reads as it did. -/
def topEveryInstantSpec : ChangeSpec := { name := "topEveryInstant", fn := fun _ => fun
  | [d1, d2] => { results := [.lit (.bool true)], args := [d1, d2] }
  | _ => none }
def topEveryInstantRow : OpenClaim := { program := "ythilaakeimfedaagreatdoor", sum := "1141b065036e0da9e7551cf67bfd92af0105df2ff093400212ae65fca9f1b8a3", func := "shotline/shotlinetop.TopEveryInstant", spec := "topEveryInstant", inPlace := ["internal/abi.NoEscape"], unfollowed := true, recurses := true, named := ["internal/strconv.uint64pow10", "math/bits.deBruijn32tab", "math/bits.deBruijn64tab"], apart := false, laid := [("math/bits.deBruijn32tab", laid_math_bits_deBruijn32tab), ("math/bits.deBruijn64tab", laid_math_bits_deBruijn64tab), ("internal/strconv.uint64pow10", laid_internal_strconv_uint64pow10)] }
def TopEveryInstantSaid : Prop := topEveryInstantRow.holds Tryz.pinned (OpenSpec.ofChange topEveryInstantSpec)

/-- ITS FALSE NEIGHBOUR: 'it returns false'. Refute it at one input. -/
def topEveryInstantWrong : ChangeSpec := { name := "topEveryInstant", fn := fun _ => fun
  | [d1, d2] => { results := [.lit (.bool false)], args := [d1, d2] }
  | _ => none }
def TopEveryInstantWrongFalsely : Prop := topEveryInstantRow.holds Tryz.pinned (OpenSpec.ofChange topEveryInstantWrong)

/- THE SECOND FORM. 'bulk': how many values and letters a reading holds, each counted each time it is reached (what is shared counts as often as it is met; a slice's spare places count too). A statement '..UptoSaid' is the law's where the arguments, and the package variables that the reading takes, are together of bulk at most 1048576: NARROWER than '..Said'. Prove '..Said' where nothing that the law and all that it calls make is longer than what came in: it says more and counts as full. Else prove '..UptoSaid'. A law counts once. -/
mutual
def uptoBulk {H : Type} : DataW H → Nat
  | .lit (.string bytes) => bytes.length + 1
  | .lit _ => 1
  | .nil => 1
  | .ptr d => uptoBulk d + 1
  | .slice elems spare => uptoBulkAll elems + uptoBulkAll spare + 1
  | .agg parts => uptoBulkAll parts + 1
  | .iface _ d => uptoBulk d + 1
  | .map entries => uptoBulkEntries entries + 1
  | .held _ => 1
def uptoBulkAll {H : Type} : List (DataW H) → Nat
  | [] => 0
  | d :: r => uptoBulk d + uptoBulkAll r
def uptoBulkEntries {H : Type} : List (Lit × DataW H) → Nat
  | [] => 0
  | x :: r => uptoBulkEntry x + uptoBulkEntries r
def uptoBulkEntry {H : Type} : Lit × DataW H → Nat
  | (.string bytes, d) => bytes.length + uptoBulk d + 1
  | (_, d) => uptoBulk d + 1
 end
def uptoSmall : (H : Type) → List (DataW H) → Bool := fun _ ds => decide (uptoBulkAll ds ≤ 1048576)
def OpenSpec.upto (s : _root_.Go.ChangeSpec) : _root_.Go.OpenSpec := { _root_.Go.OpenSpec.ofChange s with cond := some uptoSmall }

/-- 'shotlinelaw04.AscentStays', WHERE WHAT IT READS IS OF BULK AT MOST 1048576: true; the input reads as it did. -/
def ascentStaysUptoRow : OpenClaim := { program := "ythilaakeimfedaagreatdoor", sum := "1141b065036e0da9e7551cf67bfd92af0105df2ff093400212ae65fca9f1b8a3", func := "shotline/shotlinelaw04.AscentStays", spec := "ascentStays", inPlace := ["internal/abi.NoEscape"], unfollowed := true, recurses := true, named := ["internal/strconv.uint64pow10", "math/bits.deBruijn32tab", "math/bits.deBruijn64tab"], apart := false, laid := [("math/bits.deBruijn32tab", laid_math_bits_deBruijn32tab), ("math/bits.deBruijn64tab", laid_math_bits_deBruijn64tab), ("internal/strconv.uint64pow10", laid_internal_strconv_uint64pow10)], narrowed := true }
def AscentStaysUptoSaid : Prop := ascentStaysUptoRow.holds Tryz.pinned (OpenSpec.upto ascentStaysSpec)

/-- 'shotlinelaw04.AscentTasks', WHERE WHAT IT READS IS OF BULK AT MOST 1048576: true; the input reads as it did. -/
def ascentTasksUptoRow : OpenClaim := { program := "ythilaakeimfedaagreatdoor", sum := "1141b065036e0da9e7551cf67bfd92af0105df2ff093400212ae65fca9f1b8a3", func := "shotline/shotlinelaw04.AscentTasks", spec := "ascentTasks", inPlace := ["internal/abi.NoEscape"], unfollowed := true, recurses := true, named := ["internal/strconv.uint64pow10", "math/bits.deBruijn32tab", "math/bits.deBruijn64tab"], apart := false, laid := [("math/bits.deBruijn32tab", laid_math_bits_deBruijn32tab), ("math/bits.deBruijn64tab", laid_math_bits_deBruijn64tab), ("internal/strconv.uint64pow10", laid_internal_strconv_uint64pow10)], narrowed := true }
def AscentTasksUptoSaid : Prop := ascentTasksUptoRow.holds Tryz.pinned (OpenSpec.upto ascentTasksSpec)

/-- 'shotlinelaw04.AscentRules', WHERE WHAT IT READS IS OF BULK AT MOST 1048576: true; the input reads as it did. -/
def ascentRulesUptoRow : OpenClaim := { program := "ythilaakeimfedaagreatdoor", sum := "1141b065036e0da9e7551cf67bfd92af0105df2ff093400212ae65fca9f1b8a3", func := "shotline/shotlinelaw04.AscentRules", spec := "ascentRules", inPlace := ["internal/abi.NoEscape"], unfollowed := true, recurses := true, named := ["internal/strconv.uint64pow10", "math/bits.deBruijn32tab", "math/bits.deBruijn64tab"], apart := false, laid := [("math/bits.deBruijn32tab", laid_math_bits_deBruijn32tab), ("math/bits.deBruijn64tab", laid_math_bits_deBruijn64tab), ("internal/strconv.uint64pow10", laid_internal_strconv_uint64pow10)], narrowed := true }
def AscentRulesUptoSaid : Prop := ascentRulesUptoRow.holds Tryz.pinned (OpenSpec.upto ascentRulesSpec)

/-- 'shotlinelaw04.AscentLegs', WHERE WHAT IT READS IS OF BULK AT MOST 1048576: true; the input reads as it did. -/
def ascentLegsUptoRow : OpenClaim := { program := "ythilaakeimfedaagreatdoor", sum := "1141b065036e0da9e7551cf67bfd92af0105df2ff093400212ae65fca9f1b8a3", func := "shotline/shotlinelaw04.AscentLegs", spec := "ascentLegs", inPlace := ["internal/abi.NoEscape"], unfollowed := true, recurses := true, named := ["internal/strconv.uint64pow10", "math/bits.deBruijn32tab", "math/bits.deBruijn64tab"], apart := false, laid := [("math/bits.deBruijn32tab", laid_math_bits_deBruijn32tab), ("math/bits.deBruijn64tab", laid_math_bits_deBruijn64tab), ("internal/strconv.uint64pow10", laid_internal_strconv_uint64pow10)], narrowed := true }
def AscentLegsUptoSaid : Prop := ascentLegsUptoRow.holds Tryz.pinned (OpenSpec.upto ascentLegsSpec)

/-- 'shotlinelaw04.AscentDirects', WHERE WHAT IT READS IS OF BULK AT MOST 1048576: true; the input reads as it did. -/
def ascentDirectsUptoRow : OpenClaim := { program := "ythilaakeimfedaagreatdoor", sum := "1141b065036e0da9e7551cf67bfd92af0105df2ff093400212ae65fca9f1b8a3", func := "shotline/shotlinelaw04.AscentDirects", spec := "ascentDirects", inPlace := ["internal/abi.NoEscape"], unfollowed := true, recurses := true, named := ["internal/strconv.uint64pow10", "math/bits.deBruijn32tab", "math/bits.deBruijn64tab"], apart := false, laid := [("math/bits.deBruijn32tab", laid_math_bits_deBruijn32tab), ("math/bits.deBruijn64tab", laid_math_bits_deBruijn64tab), ("internal/strconv.uint64pow10", laid_internal_strconv_uint64pow10)], narrowed := true }
def AscentDirectsUptoSaid : Prop := ascentDirectsUptoRow.holds Tryz.pinned (OpenSpec.upto ascentDirectsSpec)

/-- 'shotlinelaw04.AscentChecks', WHERE WHAT IT READS IS OF BULK AT MOST 1048576: true; the input reads as it did. -/
def ascentChecksUptoRow : OpenClaim := { program := "ythilaakeimfedaagreatdoor", sum := "1141b065036e0da9e7551cf67bfd92af0105df2ff093400212ae65fca9f1b8a3", func := "shotline/shotlinelaw04.AscentChecks", spec := "ascentChecks", inPlace := ["internal/abi.NoEscape"], unfollowed := true, recurses := true, named := ["internal/strconv.uint64pow10", "math/bits.deBruijn32tab", "math/bits.deBruijn64tab"], apart := false, laid := [("math/bits.deBruijn32tab", laid_math_bits_deBruijn32tab), ("math/bits.deBruijn64tab", laid_math_bits_deBruijn64tab), ("internal/strconv.uint64pow10", laid_internal_strconv_uint64pow10)], narrowed := true }
def AscentChecksUptoSaid : Prop := ascentChecksUptoRow.holds Tryz.pinned (OpenSpec.upto ascentChecksSpec)

/-- 'shotlinelaw04.AscentGenerates', WHERE WHAT IT READS IS OF BULK AT MOST 1048576: true; the input reads as it did. -/
def ascentGeneratesUptoRow : OpenClaim := { program := "ythilaakeimfedaagreatdoor", sum := "1141b065036e0da9e7551cf67bfd92af0105df2ff093400212ae65fca9f1b8a3", func := "shotline/shotlinelaw04.AscentGenerates", spec := "ascentGenerates", inPlace := ["internal/abi.NoEscape"], unfollowed := true, recurses := true, named := ["internal/strconv.uint64pow10", "math/bits.deBruijn32tab", "math/bits.deBruijn64tab"], apart := false, laid := [("math/bits.deBruijn32tab", laid_math_bits_deBruijn32tab), ("math/bits.deBruijn64tab", laid_math_bits_deBruijn64tab), ("internal/strconv.uint64pow10", laid_internal_strconv_uint64pow10)], narrowed := true }
def AscentGeneratesUptoSaid : Prop := ascentGeneratesUptoRow.holds Tryz.pinned (OpenSpec.upto ascentGeneratesSpec)

/-- 'shotlinelaw04.AscentChanges', WHERE WHAT IT READS IS OF BULK AT MOST 1048576: true; the input reads as it did. -/
def ascentChangesUptoRow : OpenClaim := { program := "ythilaakeimfedaagreatdoor", sum := "1141b065036e0da9e7551cf67bfd92af0105df2ff093400212ae65fca9f1b8a3", func := "shotline/shotlinelaw04.AscentChanges", spec := "ascentChanges", inPlace := ["internal/abi.NoEscape"], unfollowed := true, recurses := true, named := ["internal/strconv.uint64pow10", "math/bits.deBruijn32tab", "math/bits.deBruijn64tab"], apart := false, laid := [("math/bits.deBruijn32tab", laid_math_bits_deBruijn32tab), ("math/bits.deBruijn64tab", laid_math_bits_deBruijn64tab), ("internal/strconv.uint64pow10", laid_internal_strconv_uint64pow10)], narrowed := true }
def AscentChangesUptoSaid : Prop := ascentChangesUptoRow.holds Tryz.pinned (OpenSpec.upto ascentChangesSpec)

/-- 'shotlinelaw04.AscentFollows', WHERE WHAT IT READS IS OF BULK AT MOST 1048576: true; the input reads as it did. -/
def ascentFollowsUptoRow : OpenClaim := { program := "ythilaakeimfedaagreatdoor", sum := "1141b065036e0da9e7551cf67bfd92af0105df2ff093400212ae65fca9f1b8a3", func := "shotline/shotlinelaw04.AscentFollows", spec := "ascentFollows", inPlace := ["internal/abi.NoEscape"], unfollowed := true, recurses := true, named := ["internal/strconv.uint64pow10", "math/bits.deBruijn32tab", "math/bits.deBruijn64tab"], apart := false, laid := [("math/bits.deBruijn32tab", laid_math_bits_deBruijn32tab), ("math/bits.deBruijn64tab", laid_math_bits_deBruijn64tab), ("internal/strconv.uint64pow10", laid_internal_strconv_uint64pow10)], narrowed := true }
def AscentFollowsUptoSaid : Prop := ascentFollowsUptoRow.holds Tryz.pinned (OpenSpec.upto ascentFollowsSpec)

/-- 'shotlinelaw04.AscentNeeded', WHERE WHAT IT READS IS OF BULK AT MOST 1048576: true; the input reads as it did. -/
def ascentNeededUptoRow : OpenClaim := { program := "ythilaakeimfedaagreatdoor", sum := "1141b065036e0da9e7551cf67bfd92af0105df2ff093400212ae65fca9f1b8a3", func := "shotline/shotlinelaw04.AscentNeeded", spec := "ascentNeeded", inPlace := ["internal/abi.NoEscape"], unfollowed := true, recurses := true, named := ["internal/strconv.uint64pow10", "math/bits.deBruijn32tab", "math/bits.deBruijn64tab"], apart := false, laid := [("math/bits.deBruijn32tab", laid_math_bits_deBruijn32tab), ("math/bits.deBruijn64tab", laid_math_bits_deBruijn64tab), ("internal/strconv.uint64pow10", laid_internal_strconv_uint64pow10)], narrowed := true }
def AscentNeededUptoSaid : Prop := ascentNeededUptoRow.holds Tryz.pinned (OpenSpec.upto ascentNeededSpec)

/-- 'shotlinelaw04.AscentInstants', WHERE WHAT IT READS IS OF BULK AT MOST 1048576: true; the input reads as it did. -/
def ascentInstantsUptoRow : OpenClaim := { program := "ythilaakeimfedaagreatdoor", sum := "1141b065036e0da9e7551cf67bfd92af0105df2ff093400212ae65fca9f1b8a3", func := "shotline/shotlinelaw04.AscentInstants", spec := "ascentInstants", inPlace := ["internal/abi.NoEscape"], unfollowed := true, recurses := true, named := ["internal/strconv.uint64pow10", "math/bits.deBruijn32tab", "math/bits.deBruijn64tab"], apart := false, laid := [("math/bits.deBruijn32tab", laid_math_bits_deBruijn32tab), ("math/bits.deBruijn64tab", laid_math_bits_deBruijn64tab), ("internal/strconv.uint64pow10", laid_internal_strconv_uint64pow10)], narrowed := true }
def AscentInstantsUptoSaid : Prop := ascentInstantsUptoRow.holds Tryz.pinned (OpenSpec.upto ascentInstantsSpec)

/-- 'shotlinelaw04.AscentBegins', WHERE WHAT IT READS IS OF BULK AT MOST 1048576: true; the input reads as it did. -/
def ascentBeginsUptoRow : OpenClaim := { program := "ythilaakeimfedaagreatdoor", sum := "1141b065036e0da9e7551cf67bfd92af0105df2ff093400212ae65fca9f1b8a3", func := "shotline/shotlinelaw04.AscentBegins", spec := "ascentBegins", inPlace := ["internal/abi.NoEscape"], unfollowed := true, recurses := true, named := ["internal/strconv.uint64pow10", "math/bits.deBruijn32tab", "math/bits.deBruijn64tab"], apart := false, laid := [("math/bits.deBruijn32tab", laid_math_bits_deBruijn32tab), ("math/bits.deBruijn64tab", laid_math_bits_deBruijn64tab), ("internal/strconv.uint64pow10", laid_internal_strconv_uint64pow10)], narrowed := true }
def AscentBeginsUptoSaid : Prop := ascentBeginsUptoRow.holds Tryz.pinned (OpenSpec.upto ascentBeginsSpec)

/-- 'shotlinelaw04.AscentTexts', WHERE WHAT IT READS IS OF BULK AT MOST 1048576: true; the input reads as it did. -/
def ascentTextsUptoRow : OpenClaim := { program := "ythilaakeimfedaagreatdoor", sum := "1141b065036e0da9e7551cf67bfd92af0105df2ff093400212ae65fca9f1b8a3", func := "shotline/shotlinelaw04.AscentTexts", spec := "ascentTexts", inPlace := ["internal/abi.NoEscape", "internal/bytealg.IndexByteString", "internal/bytealg.CountString", "internal/bytealg.IndexString"], unfollowed := true, recurses := true, named := ["internal/strconv.uint64pow10", "math/bits.deBruijn32tab", "math/bits.deBruijn64tab", "unicode/utf8.first", "unicode/utf8.acceptRanges", "internal/bytealg.MaxLen", "strconv.ErrSyntax", "strconv.ErrRange"], apart := false, laid := [("math/bits.deBruijn32tab", laid_math_bits_deBruijn32tab), ("math/bits.deBruijn64tab", laid_math_bits_deBruijn64tab), ("internal/strconv.uint64pow10", laid_internal_strconv_uint64pow10), ("unicode/utf8.acceptRanges", laid_unicode_utf8_acceptRanges), ("strconv.ErrRange", laid_strconv_ErrRange), ("strconv.ErrSyntax", laid_strconv_ErrSyntax), ("unicode/utf8.first", laid_unicode_utf8_first)], narrowed := true }
def AscentTextsUptoSaid : Prop := ascentTextsUptoRow.holds Tryz.pinned (OpenSpec.upto ascentTextsSpec)

/-- 'shotlinetop.TopStaysAccepted', WHERE WHAT IT READS IS OF BULK AT MOST 1048576: true; the input reads as it did. -/
def topStaysAcceptedUptoRow : OpenClaim := { program := "ythilaakeimfedaagreatdoor", sum := "1141b065036e0da9e7551cf67bfd92af0105df2ff093400212ae65fca9f1b8a3", func := "shotline/shotlinetop.TopStaysAccepted", spec := "topStaysAccepted", inPlace := ["internal/abi.NoEscape"], unfollowed := true, recurses := true, named := ["internal/strconv.uint64pow10", "math/bits.deBruijn32tab", "math/bits.deBruijn64tab"], apart := false, laid := [("math/bits.deBruijn32tab", laid_math_bits_deBruijn32tab), ("math/bits.deBruijn64tab", laid_math_bits_deBruijn64tab), ("internal/strconv.uint64pow10", laid_internal_strconv_uint64pow10)], narrowed := true }
def TopStaysAcceptedUptoSaid : Prop := topStaysAcceptedUptoRow.holds Tryz.pinned (OpenSpec.upto topStaysAcceptedSpec)

/-- 'shotlinetop.TopRestsAndRepeats', WHERE WHAT IT READS IS OF BULK AT MOST 1048576: true; the input reads as it did. -/
def topRestsAndRepeatsUptoRow : OpenClaim := { program := "ythilaakeimfedaagreatdoor", sum := "1141b065036e0da9e7551cf67bfd92af0105df2ff093400212ae65fca9f1b8a3", func := "shotline/shotlinetop.TopRestsAndRepeats", spec := "topRestsAndRepeats", inPlace := ["internal/abi.NoEscape"], unfollowed := true, recurses := true, named := ["internal/strconv.uint64pow10", "math/bits.deBruijn32tab", "math/bits.deBruijn64tab"], apart := false, laid := [("math/bits.deBruijn32tab", laid_math_bits_deBruijn32tab), ("math/bits.deBruijn64tab", laid_math_bits_deBruijn64tab), ("internal/strconv.uint64pow10", laid_internal_strconv_uint64pow10)], narrowed := true }
def TopRestsAndRepeatsUptoSaid : Prop := topRestsAndRepeatsUptoRow.holds Tryz.pinned (OpenSpec.upto topRestsAndRepeatsSpec)

/-- 'shotlinetop.TopEveryInstant', WHERE WHAT IT READS IS OF BULK AT MOST 1048576: true; the input reads as it did. -/
def topEveryInstantUptoRow : OpenClaim := { program := "ythilaakeimfedaagreatdoor", sum := "1141b065036e0da9e7551cf67bfd92af0105df2ff093400212ae65fca9f1b8a3", func := "shotline/shotlinetop.TopEveryInstant", spec := "topEveryInstant", inPlace := ["internal/abi.NoEscape"], unfollowed := true, recurses := true, named := ["internal/strconv.uint64pow10", "math/bits.deBruijn32tab", "math/bits.deBruijn64tab"], apart := false, laid := [("math/bits.deBruijn32tab", laid_math_bits_deBruijn32tab), ("math/bits.deBruijn64tab", laid_math_bits_deBruijn64tab), ("internal/strconv.uint64pow10", laid_internal_strconv_uint64pow10)], narrowed := true }
def TopEveryInstantUptoSaid : Prop := topEveryInstantUptoRow.holds Tryz.pinned (OpenSpec.upto topEveryInstantSpec)

end Rows
end Go.Proofs.YthilaakeimfedaaGreatDoor
