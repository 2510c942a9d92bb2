/-
  No cell of these rows narrows 'for every input' (looked for: loops, veiled, ifaces, maps, wideKeys, modest, calm, conditions, laid).
  DERIVED. THE GIVEN ROWS OF THIS SEAT. 16 by the template 'for every input the law returns true; each argument reads behind the call as it read before'; 0 by the template 'total and deterministic' (their statements: YtolnohjbpllmhaaTotals.lean).
  GIVEN WITH THE SEED: the statements are not yours to turn. If you find one false, say at which input.
  Laid BY PROGRAM, IN A SANDBOX (cutbox-rows.mjs): the forced cells as the released guide's own fill.sh prints them over the translation 00ea05b2230405bd… (all of the seat's roots in one cut). By AI agents, Wed Nov 11 2026. No macro, syntax, notation, axiom, sorry.
-/
import Derived.Test.YtolnohjbpllmhaaChecked
import GoSem.Claim
import GoSem.ClaimJoined
import GoSem.ClaimMapViews
import Derived.JoinedTies
import Derived.KernelRfl
namespace Go.Proofs.Ytolnohjbpllmhaa
/- THE CELL 'sum', in the pinned program and in every row, IS THE sha256 OF THE DUMP (.gsa) THAT YtolnohjbpllmhaaProg.lean LOADS. Nothing in Lean hashes anything: it is a label: what it is worth is what the hold of that sum in a sandbox is worth. -/
noncomputable def Try.pinned : Pinned := { name := "ytolnohjbpllmhaa", sum := "00ea05b2230405bd8654601ab5cf665eb11402ba0ea50ef0b00f65e9cae6196b", checked := Try.checked }
namespace Rows
def none {H : Type} : Left H := { results := [], args := [] }

/-- 'shotlinelaw05.ExposureDepths': WHATEVER THE INPUT: true; the input reads as it did. -/
def exposureDepthsSpec : ChangeSpec := { name := "exposureDepths", fn := fun _ => fun
  | [d1, d2, d3] => { results := [.lit (.bool true)], args := [d1, d2, d3] }
  | _ => none }
def exposureDepthsRow : OpenClaim := { program := "ytolnohjbpllmhaa", sum := "00ea05b2230405bd8654601ab5cf665eb11402ba0ea50ef0b00f65e9cae6196b", func := "shotline/shotlinelaw05.ExposureDepths", spec := "exposureDepths", unfollowed := true, recurses := true, apart := false }
def ExposureDepthsSaid : Prop := exposureDepthsRow.holds Try.pinned (OpenSpec.ofChange exposureDepthsSpec)

/-- ITS FALSE NEIGHBOUR: 'it returns false'. Refute it at one input. -/
def exposureDepthsWrong : ChangeSpec := { name := "exposureDepths", fn := fun _ => fun
  | [d1, d2, d3] => { results := [.lit (.bool false)], args := [d1, d2, d3] }
  | _ => none }
def ExposureDepthsWrongFalsely : Prop := exposureDepthsRow.holds Try.pinned (OpenSpec.ofChange exposureDepthsWrong)

/-- 'shotlinelaw05.ExposureNeeds': WHATEVER THE INPUT: true; the input reads as it did. -/
def exposureNeedsSpec : ChangeSpec := { name := "exposureNeeds", fn := fun _ => fun
  | [d1, d2, d3] => { results := [.lit (.bool true)], args := [d1, d2, d3] }
  | _ => none }
def exposureNeedsRow : OpenClaim := { program := "ytolnohjbpllmhaa", sum := "00ea05b2230405bd8654601ab5cf665eb11402ba0ea50ef0b00f65e9cae6196b", func := "shotline/shotlinelaw05.ExposureNeeds", spec := "exposureNeeds", unfollowed := true, recurses := true, apart := false }
def ExposureNeedsSaid : Prop := exposureNeedsRow.holds Try.pinned (OpenSpec.ofChange exposureNeedsSpec)

/-- ITS FALSE NEIGHBOUR: 'it returns false'. Refute it at one input. -/
def exposureNeedsWrong : ChangeSpec := { name := "exposureNeeds", fn := fun _ => fun
  | [d1, d2, d3] => { results := [.lit (.bool false)], args := [d1, d2, d3] }
  | _ => none }
def ExposureNeedsWrongFalsely : Prop := exposureNeedsRow.holds Try.pinned (OpenSpec.ofChange exposureNeedsWrong)

/-- 'shotlinelaw05.ExposureRates': WHATEVER THE INPUT: true; the input reads as it did. -/
def exposureRatesSpec : ChangeSpec := { name := "exposureRates", fn := fun _ => fun
  | [d1, d2] => { results := [.lit (.bool true)], args := [d1, d2] }
  | _ => none }
def exposureRatesRow : OpenClaim := { program := "ytolnohjbpllmhaa", sum := "00ea05b2230405bd8654601ab5cf665eb11402ba0ea50ef0b00f65e9cae6196b", func := "shotline/shotlinelaw05.ExposureRates", spec := "exposureRates", unfollowed := true, recurses := true, apart := false }
def ExposureRatesSaid : Prop := exposureRatesRow.holds Try.pinned (OpenSpec.ofChange exposureRatesSpec)

/-- ITS FALSE NEIGHBOUR: 'it returns false'. Refute it at one input. -/
def exposureRatesWrong : ChangeSpec := { name := "exposureRates", fn := fun _ => fun
  | [d1, d2] => { results := [.lit (.bool false)], args := [d1, d2] }
  | _ => none }
def ExposureRatesWrongFalsely : Prop := exposureRatesRow.holds Try.pinned (OpenSpec.ofChange exposureRatesWrong)

/-- 'shotlinelaw05.ExposureRests': WHATEVER THE INPUT: true; the input reads as it did. -/
def exposureRestsSpec : ChangeSpec := { name := "exposureRests", fn := fun _ => fun
  | [d1, d2] => { results := [.lit (.bool true)], args := [d1, d2] }
  | _ => none }
def exposureRestsRow : OpenClaim := { program := "ytolnohjbpllmhaa", sum := "00ea05b2230405bd8654601ab5cf665eb11402ba0ea50ef0b00f65e9cae6196b", func := "shotline/shotlinelaw05.ExposureRests", spec := "exposureRests", unfollowed := true, recurses := true, apart := false }
def ExposureRestsSaid : Prop := exposureRestsRow.holds Try.pinned (OpenSpec.ofChange exposureRestsSpec)

/-- ITS FALSE NEIGHBOUR: 'it returns false'. Refute it at one input. -/
def exposureRestsWrong : ChangeSpec := { name := "exposureRests", fn := fun _ => fun
  | [d1, d2] => { results := [.lit (.bool false)], args := [d1, d2] }
  | _ => none }
def ExposureRestsWrongFalsely : Prop := exposureRestsRow.holds Try.pinned (OpenSpec.ofChange exposureRestsWrong)

/-- 'shotlinelaw05.ExposureEscapes': WHATEVER THE INPUT: true; the input reads as it did. -/
def exposureEscapesSpec : ChangeSpec := { name := "exposureEscapes", fn := fun _ => fun
  | [d1, d2, d3] => { results := [.lit (.bool true)], args := [d1, d2, d3] }
  | _ => none }
def exposureEscapesRow : OpenClaim := { program := "ytolnohjbpllmhaa", sum := "00ea05b2230405bd8654601ab5cf665eb11402ba0ea50ef0b00f65e9cae6196b", func := "shotline/shotlinelaw05.ExposureEscapes", spec := "exposureEscapes", unfollowed := true, recurses := true, apart := false }
def ExposureEscapesSaid : Prop := exposureEscapesRow.holds Try.pinned (OpenSpec.ofChange exposureEscapesSpec)

/-- ITS FALSE NEIGHBOUR: 'it returns false'. Refute it at one input. -/
def exposureEscapesWrong : ChangeSpec := { name := "exposureEscapes", fn := fun _ => fun
  | [d1, d2, d3] => { results := [.lit (.bool false)], args := [d1, d2, d3] }
  | _ => none }
def ExposureEscapesWrongFalsely : Prop := exposureEscapesRow.holds Try.pinned (OpenSpec.ofChange exposureEscapesWrong)

/-- 'shotlinelaw05.ExposureSwitches': WHATEVER THE INPUT: true; the input reads as it did. -/
def exposureSwitchesSpec : ChangeSpec := { name := "exposureSwitches", fn := fun _ => fun
  | [d] => { results := [.lit (.bool true)], args := [d] }
  | _ => none }
def exposureSwitchesRow : OpenClaim := { program := "ytolnohjbpllmhaa", sum := "00ea05b2230405bd8654601ab5cf665eb11402ba0ea50ef0b00f65e9cae6196b", func := "shotline/shotlinelaw05.ExposureSwitches", spec := "exposureSwitches", unfollowed := true, recurses := true, apart := false }
def ExposureSwitchesSaid : Prop := exposureSwitchesRow.holds Try.pinned (OpenSpec.ofChange exposureSwitchesSpec)

/-- ITS FALSE NEIGHBOUR: 'it returns false'. Refute it at one input. -/
def exposureSwitchesWrong : ChangeSpec := { name := "exposureSwitches", fn := fun _ => fun
  | [d] => { results := [.lit (.bool false)], args := [d] }
  | _ => none }
def ExposureSwitchesWrongFalsely : Prop := exposureSwitchesRow.holds Try.pinned (OpenSpec.ofChange exposureSwitchesWrong)

/-- 'shotlinelaw05.ExposureClocks': WHATEVER THE INPUT: true; the input reads as it did. -/
def exposureClocksSpec : ChangeSpec := { name := "exposureClocks", fn := fun _ => fun
  | [d1, d2, d3] => { results := [.lit (.bool true)], args := [d1, d2, d3] }
  | _ => none }
def exposureClocksRow : OpenClaim := { program := "ytolnohjbpllmhaa", sum := "00ea05b2230405bd8654601ab5cf665eb11402ba0ea50ef0b00f65e9cae6196b", func := "shotline/shotlinelaw05.ExposureClocks", spec := "exposureClocks", unfollowed := true, recurses := true, apart := false }
def ExposureClocksSaid : Prop := exposureClocksRow.holds Try.pinned (OpenSpec.ofChange exposureClocksSpec)

/-- ITS FALSE NEIGHBOUR: 'it returns false'. Refute it at one input. -/
def exposureClocksWrong : ChangeSpec := { name := "exposureClocks", fn := fun _ => fun
  | [d1, d2, d3] => { results := [.lit (.bool false)], args := [d1, d2, d3] }
  | _ => none }
def ExposureClocksWrongFalsely : Prop := exposureClocksRow.holds Try.pinned (OpenSpec.ofChange exposureClocksWrong)

/-- 'shotlinelaw05.ExposureSplits': WHATEVER THE INPUT: true; the input reads as it did. -/
def exposureSplitsSpec : ChangeSpec := { name := "exposureSplits", fn := fun _ => fun
  | [d1, d2, d3] => { results := [.lit (.bool true)], args := [d1, d2, d3] }
  | _ => none }
def exposureSplitsRow : OpenClaim := { program := "ytolnohjbpllmhaa", sum := "00ea05b2230405bd8654601ab5cf665eb11402ba0ea50ef0b00f65e9cae6196b", func := "shotline/shotlinelaw05.ExposureSplits", spec := "exposureSplits", unfollowed := true, recurses := true, apart := false }
def ExposureSplitsSaid : Prop := exposureSplitsRow.holds Try.pinned (OpenSpec.ofChange exposureSplitsSpec)

/-- ITS FALSE NEIGHBOUR: 'it returns false'. Refute it at one input. -/
def exposureSplitsWrong : ChangeSpec := { name := "exposureSplits", fn := fun _ => fun
  | [d1, d2, d3] => { results := [.lit (.bool false)], args := [d1, d2, d3] }
  | _ => none }
def ExposureSplitsWrongFalsely : Prop := exposureSplitsRow.holds Try.pinned (OpenSpec.ofChange exposureSplitsWrong)

/-- 'shotlinelaw05.ExposureBreaths': WHATEVER THE INPUT: true; the input reads as it did. -/
def exposureBreathsSpec : ChangeSpec := { name := "exposureBreaths", fn := fun _ => fun
  | [d1, d2, d3] => { results := [.lit (.bool true)], args := [d1, d2, d3] }
  | _ => none }
def exposureBreathsRow : OpenClaim := { program := "ytolnohjbpllmhaa", sum := "00ea05b2230405bd8654601ab5cf665eb11402ba0ea50ef0b00f65e9cae6196b", func := "shotline/shotlinelaw05.ExposureBreaths", spec := "exposureBreaths", unfollowed := true, recurses := true, apart := false }
def ExposureBreathsSaid : Prop := exposureBreathsRow.holds Try.pinned (OpenSpec.ofChange exposureBreathsSpec)

/-- ITS FALSE NEIGHBOUR: 'it returns false'. Refute it at one input. -/
def exposureBreathsWrong : ChangeSpec := { name := "exposureBreaths", fn := fun _ => fun
  | [d1, d2, d3] => { results := [.lit (.bool false)], args := [d1, d2, d3] }
  | _ => none }
def ExposureBreathsWrongFalsely : Prop := exposureBreathsRow.holds Try.pinned (OpenSpec.ofChange exposureBreathsWrong)

/-- 'shotlinelaw05.ExposureTraces': WHATEVER THE INPUT: true; the input reads as it did. -/
def exposureTracesSpec : ChangeSpec := { name := "exposureTraces", fn := fun _ => fun
  | [d1, d2, d3] => { results := [.lit (.bool true)], args := [d1, d2, d3] }
  | _ => none }
def exposureTracesRow : OpenClaim := { program := "ytolnohjbpllmhaa", sum := "00ea05b2230405bd8654601ab5cf665eb11402ba0ea50ef0b00f65e9cae6196b", func := "shotline/shotlinelaw05.ExposureTraces", spec := "exposureTraces", unfollowed := true, recurses := true, apart := false }
def ExposureTracesSaid : Prop := exposureTracesRow.holds Try.pinned (OpenSpec.ofChange exposureTracesSpec)

/-- ITS FALSE NEIGHBOUR: 'it returns false'. Refute it at one input. -/
def exposureTracesWrong : ChangeSpec := { name := "exposureTraces", fn := fun _ => fun
  | [d1, d2, d3] => { results := [.lit (.bool false)], args := [d1, d2, d3] }
  | _ => none }
def ExposureTracesWrongFalsely : Prop := exposureTracesRow.holds Try.pinned (OpenSpec.ofChange exposureTracesWrong)

/-- 'shotlinelaw05.ExposureWithin': WHATEVER THE INPUT: true; the input reads as it did. -/
def exposureWithinSpec : ChangeSpec := { name := "exposureWithin", fn := fun _ => fun
  | [d1, d2] => { results := [.lit (.bool true)], args := [d1, d2] }
  | _ => none }
def exposureWithinRow : OpenClaim := { program := "ytolnohjbpllmhaa", sum := "00ea05b2230405bd8654601ab5cf665eb11402ba0ea50ef0b00f65e9cae6196b", func := "shotline/shotlinelaw05.ExposureWithin", spec := "exposureWithin", unfollowed := true, recurses := true, apart := false }
def ExposureWithinSaid : Prop := exposureWithinRow.holds Try.pinned (OpenSpec.ofChange exposureWithinSpec)

/-- ITS FALSE NEIGHBOUR: 'it returns false'. Refute it at one input. -/
def exposureWithinWrong : ChangeSpec := { name := "exposureWithin", fn := fun _ => fun
  | [d1, d2] => { results := [.lit (.bool false)], args := [d1, d2] }
  | _ => none }
def ExposureWithinWrongFalsely : Prop := exposureWithinRow.holds Try.pinned (OpenSpec.ofChange exposureWithinWrong)

/-- 'shotlinelaw05.ExposureBreaks': WHATEVER THE INPUT: true; the input reads as it did. -/
def exposureBreaksSpec : ChangeSpec := { name := "exposureBreaks", fn := fun _ => fun
  | [d1, d2] => { results := [.lit (.bool true)], args := [d1, d2] }
  | _ => none }
def exposureBreaksRow : OpenClaim := { program := "ytolnohjbpllmhaa", sum := "00ea05b2230405bd8654601ab5cf665eb11402ba0ea50ef0b00f65e9cae6196b", func := "shotline/shotlinelaw05.ExposureBreaks", spec := "exposureBreaks", unfollowed := true, recurses := true, apart := false }
def ExposureBreaksSaid : Prop := exposureBreaksRow.holds Try.pinned (OpenSpec.ofChange exposureBreaksSpec)

/-- ITS FALSE NEIGHBOUR: 'it returns false'. Refute it at one input. -/
def exposureBreaksWrong : ChangeSpec := { name := "exposureBreaks", fn := fun _ => fun
  | [d1, d2] => { results := [.lit (.bool false)], args := [d1, d2] }
  | _ => none }
def ExposureBreaksWrongFalsely : Prop := exposureBreaksRow.holds Try.pinned (OpenSpec.ofChange exposureBreaksWrong)

/-- 'shotlinelaw05.ExposureSurvives': WHATEVER THE INPUT: true; the input reads as it did. -/
def exposureSurvivesSpec : ChangeSpec := { name := "exposureSurvives", fn := fun _ => fun
  | [d1, d2, d3] => { results := [.lit (.bool true)], args := [d1, d2, d3] }
  | _ => none }
def exposureSurvivesRow : OpenClaim := { program := "ytolnohjbpllmhaa", sum := "00ea05b2230405bd8654601ab5cf665eb11402ba0ea50ef0b00f65e9cae6196b", func := "shotline/shotlinelaw05.ExposureSurvives", spec := "exposureSurvives", unfollowed := true, recurses := true, apart := false }
def ExposureSurvivesSaid : Prop := exposureSurvivesRow.holds Try.pinned (OpenSpec.ofChange exposureSurvivesSpec)

/-- ITS FALSE NEIGHBOUR: 'it returns false'. Refute it at one input. -/
def exposureSurvivesWrong : ChangeSpec := { name := "exposureSurvives", fn := fun _ => fun
  | [d1, d2, d3] => { results := [.lit (.bool false)], args := [d1, d2, d3] }
  | _ => none }
def ExposureSurvivesWrongFalsely : Prop := exposureSurvivesRow.holds Try.pinned (OpenSpec.ofChange exposureSurvivesWrong)

/-- 'shotlinelaw05.ExposureReserves': WHATEVER THE INPUT: true; the input reads as it did. -/
def exposureReservesSpec : ChangeSpec := { name := "exposureReserves", fn := fun _ => fun
  | [d1, d2, d3] => { results := [.lit (.bool true)], args := [d1, d2, d3] }
  | _ => none }
def exposureReservesRow : OpenClaim := { program := "ytolnohjbpllmhaa", sum := "00ea05b2230405bd8654601ab5cf665eb11402ba0ea50ef0b00f65e9cae6196b", func := "shotline/shotlinelaw05.ExposureReserves", spec := "exposureReserves", unfollowed := true, recurses := true, apart := false }
def ExposureReservesSaid : Prop := exposureReservesRow.holds Try.pinned (OpenSpec.ofChange exposureReservesSpec)

/-- ITS FALSE NEIGHBOUR: 'it returns false'. Refute it at one input. -/
def exposureReservesWrong : ChangeSpec := { name := "exposureReserves", fn := fun _ => fun
  | [d1, d2, d3] => { results := [.lit (.bool false)], args := [d1, d2, d3] }
  | _ => none }
def ExposureReservesWrongFalsely : Prop := exposureReservesRow.holds Try.pinned (OpenSpec.ofChange exposureReservesWrong)

/-- 'shotlinetop.TopReserveSuffices': WHATEVER THE INPUT: true; the input reads as it did. -/
def topReserveSufficesSpec : ChangeSpec := { name := "topReserveSuffices", fn := fun _ => fun
  | [d1, d2, d3] => { results := [.lit (.bool true)], args := [d1, d2, d3] }
  | _ => none }
def topReserveSufficesRow : OpenClaim := { program := "ytolnohjbpllmhaa", sum := "00ea05b2230405bd8654601ab5cf665eb11402ba0ea50ef0b00f65e9cae6196b", func := "shotline/shotlinetop.TopReserveSuffices", spec := "topReserveSuffices", unfollowed := true, recurses := true, apart := false }
def TopReserveSufficesSaid : Prop := topReserveSufficesRow.holds Try.pinned (OpenSpec.ofChange topReserveSufficesSpec)

/-- ITS FALSE NEIGHBOUR: 'it returns false'. Refute it at one input. -/
def topReserveSufficesWrong : ChangeSpec := { name := "topReserveSuffices", fn := fun _ => fun
  | [d1, d2, d3] => { results := [.lit (.bool false)], args := [d1, d2, d3] }
  | _ => none }
def TopReserveSufficesWrongFalsely : Prop := topReserveSufficesRow.holds Try.pinned (OpenSpec.ofChange topReserveSufficesWrong)

/-- 'shotlinetop.TopExposureAdds': WHATEVER THE INPUT: true; the input reads as it did. -/
def topExposureAddsSpec : ChangeSpec := { name := "topExposureAdds", fn := fun _ => fun
  | [d1, d2, d3] => { results := [.lit (.bool true)], args := [d1, d2, d3] }
  | _ => none }
def topExposureAddsRow : OpenClaim := { program := "ytolnohjbpllmhaa", sum := "00ea05b2230405bd8654601ab5cf665eb11402ba0ea50ef0b00f65e9cae6196b", func := "shotline/shotlinetop.TopExposureAdds", spec := "topExposureAdds", unfollowed := true, recurses := true, apart := false }
def TopExposureAddsSaid : Prop := topExposureAddsRow.holds Try.pinned (OpenSpec.ofChange topExposureAddsSpec)

/-- ITS FALSE NEIGHBOUR: 'it returns false'. Refute it at one input. -/
def topExposureAddsWrong : ChangeSpec := { name := "topExposureAdds", fn := fun _ => fun
  | [d1, d2, d3] => { results := [.lit (.bool false)], args := [d1, d2, d3] }
  | _ => none }
def TopExposureAddsWrongFalsely : Prop := topExposureAddsRow.holds Try.pinned (OpenSpec.ofChange topExposureAddsWrong)

/- THE SECOND FORM. 'bulk': how many values and letters a reading holds, each counted each time it is reached (what is shared counts as often as it is met; a slice's spare places count too). A statement '..UptoSaid' is the law's where the arguments, and the package variables that the reading takes, are together of bulk at most 1048576: NARROWER than '..Said'. Prove '..Said' where nothing that the law and all that it calls make is longer than what came in: it says more and counts as full. Else prove '..UptoSaid'. A law counts once. -/
mutual
def uptoBulk {H : Type} : DataW H → Nat
  | .lit (.string bytes) => bytes.length + 1
  | .lit _ => 1
  | .nil => 1
  | .ptr d => uptoBulk d + 1
  | .slice elems spare => uptoBulkAll elems + uptoBulkAll spare + 1
  | .agg parts => uptoBulkAll parts + 1
  | .iface _ d => uptoBulk d + 1
  | .map entries => uptoBulkEntries entries + 1
  | .held _ => 1
def uptoBulkAll {H : Type} : List (DataW H) → Nat
  | [] => 0
  | d :: r => uptoBulk d + uptoBulkAll r
def uptoBulkEntries {H : Type} : List (Lit × DataW H) → Nat
  | [] => 0
  | x :: r => uptoBulkEntry x + uptoBulkEntries r
def uptoBulkEntry {H : Type} : Lit × DataW H → Nat
  | (.string bytes, d) => bytes.length + uptoBulk d + 1
  | (_, d) => uptoBulk d + 1
 end
def uptoSmall : (H : Type) → List (DataW H) → Bool := fun _ ds => decide (uptoBulkAll ds ≤ 1048576)
def OpenSpec.upto (s : _root_.Go.ChangeSpec) : _root_.Go.OpenSpec := { _root_.Go.OpenSpec.ofChange s with cond := some uptoSmall }

/-- 'shotlinelaw05.ExposureDepths', WHERE WHAT IT READS IS OF BULK AT MOST 1048576: true; the input reads as it did. -/
def exposureDepthsUptoRow : OpenClaim := { program := "ytolnohjbpllmhaa", sum := "00ea05b2230405bd8654601ab5cf665eb11402ba0ea50ef0b00f65e9cae6196b", func := "shotline/shotlinelaw05.ExposureDepths", spec := "exposureDepths", unfollowed := true, recurses := true, apart := false, narrowed := true }
def ExposureDepthsUptoSaid : Prop := exposureDepthsUptoRow.holds Try.pinned (OpenSpec.upto exposureDepthsSpec)

/-- 'shotlinelaw05.ExposureNeeds', WHERE WHAT IT READS IS OF BULK AT MOST 1048576: true; the input reads as it did. -/
def exposureNeedsUptoRow : OpenClaim := { program := "ytolnohjbpllmhaa", sum := "00ea05b2230405bd8654601ab5cf665eb11402ba0ea50ef0b00f65e9cae6196b", func := "shotline/shotlinelaw05.ExposureNeeds", spec := "exposureNeeds", unfollowed := true, recurses := true, apart := false, narrowed := true }
def ExposureNeedsUptoSaid : Prop := exposureNeedsUptoRow.holds Try.pinned (OpenSpec.upto exposureNeedsSpec)

/-- 'shotlinelaw05.ExposureRates', WHERE WHAT IT READS IS OF BULK AT MOST 1048576: true; the input reads as it did. -/
def exposureRatesUptoRow : OpenClaim := { program := "ytolnohjbpllmhaa", sum := "00ea05b2230405bd8654601ab5cf665eb11402ba0ea50ef0b00f65e9cae6196b", func := "shotline/shotlinelaw05.ExposureRates", spec := "exposureRates", unfollowed := true, recurses := true, apart := false, narrowed := true }
def ExposureRatesUptoSaid : Prop := exposureRatesUptoRow.holds Try.pinned (OpenSpec.upto exposureRatesSpec)

/-- 'shotlinelaw05.ExposureRests', WHERE WHAT IT READS IS OF BULK AT MOST 1048576: true; the input reads as it did. -/
def exposureRestsUptoRow : OpenClaim := { program := "ytolnohjbpllmhaa", sum := "00ea05b2230405bd8654601ab5cf665eb11402ba0ea50ef0b00f65e9cae6196b", func := "shotline/shotlinelaw05.ExposureRests", spec := "exposureRests", unfollowed := true, recurses := true, apart := false, narrowed := true }
def ExposureRestsUptoSaid : Prop := exposureRestsUptoRow.holds Try.pinned (OpenSpec.upto exposureRestsSpec)

/-- 'shotlinelaw05.ExposureEscapes', WHERE WHAT IT READS IS OF BULK AT MOST 1048576: true; the input reads as it did. -/
def exposureEscapesUptoRow : OpenClaim := { program := "ytolnohjbpllmhaa", sum := "00ea05b2230405bd8654601ab5cf665eb11402ba0ea50ef0b00f65e9cae6196b", func := "shotline/shotlinelaw05.ExposureEscapes", spec := "exposureEscapes", unfollowed := true, recurses := true, apart := false, narrowed := true }
def ExposureEscapesUptoSaid : Prop := exposureEscapesUptoRow.holds Try.pinned (OpenSpec.upto exposureEscapesSpec)

/-- 'shotlinelaw05.ExposureSwitches', WHERE WHAT IT READS IS OF BULK AT MOST 1048576: true; the input reads as it did. -/
def exposureSwitchesUptoRow : OpenClaim := { program := "ytolnohjbpllmhaa", sum := "00ea05b2230405bd8654601ab5cf665eb11402ba0ea50ef0b00f65e9cae6196b", func := "shotline/shotlinelaw05.ExposureSwitches", spec := "exposureSwitches", unfollowed := true, recurses := true, apart := false, narrowed := true }
def ExposureSwitchesUptoSaid : Prop := exposureSwitchesUptoRow.holds Try.pinned (OpenSpec.upto exposureSwitchesSpec)

/-- 'shotlinelaw05.ExposureClocks', WHERE WHAT IT READS IS OF BULK AT MOST 1048576: true; the input reads as it did. -/
def exposureClocksUptoRow : OpenClaim := { program := "ytolnohjbpllmhaa", sum := "00ea05b2230405bd8654601ab5cf665eb11402ba0ea50ef0b00f65e9cae6196b", func := "shotline/shotlinelaw05.ExposureClocks", spec := "exposureClocks", unfollowed := true, recurses := true, apart := false, narrowed := true }
def ExposureClocksUptoSaid : Prop := exposureClocksUptoRow.holds Try.pinned (OpenSpec.upto exposureClocksSpec)

/-- 'shotlinelaw05.ExposureSplits', WHERE WHAT IT READS IS OF BULK AT MOST 1048576: true; the input reads as it did. -/
def exposureSplitsUptoRow : OpenClaim := { program := "ytolnohjbpllmhaa", sum := "00ea05b2230405bd8654601ab5cf665eb11402ba0ea50ef0b00f65e9cae6196b", func := "shotline/shotlinelaw05.ExposureSplits", spec := "exposureSplits", unfollowed := true, recurses := true, apart := false, narrowed := true }
def ExposureSplitsUptoSaid : Prop := exposureSplitsUptoRow.holds Try.pinned (OpenSpec.upto exposureSplitsSpec)

/-- 'shotlinelaw05.ExposureBreaths', WHERE WHAT IT READS IS OF BULK AT MOST 1048576: true; the input reads as it did. -/
def exposureBreathsUptoRow : OpenClaim := { program := "ytolnohjbpllmhaa", sum := "00ea05b2230405bd8654601ab5cf665eb11402ba0ea50ef0b00f65e9cae6196b", func := "shotline/shotlinelaw05.ExposureBreaths", spec := "exposureBreaths", unfollowed := true, recurses := true, apart := false, narrowed := true }
def ExposureBreathsUptoSaid : Prop := exposureBreathsUptoRow.holds Try.pinned (OpenSpec.upto exposureBreathsSpec)

/-- 'shotlinelaw05.ExposureTraces', WHERE WHAT IT READS IS OF BULK AT MOST 1048576: true; the input reads as it did. -/
def exposureTracesUptoRow : OpenClaim := { program := "ytolnohjbpllmhaa", sum := "00ea05b2230405bd8654601ab5cf665eb11402ba0ea50ef0b00f65e9cae6196b", func := "shotline/shotlinelaw05.ExposureTraces", spec := "exposureTraces", unfollowed := true, recurses := true, apart := false, narrowed := true }
def ExposureTracesUptoSaid : Prop := exposureTracesUptoRow.holds Try.pinned (OpenSpec.upto exposureTracesSpec)

/-- 'shotlinelaw05.ExposureWithin', WHERE WHAT IT READS IS OF BULK AT MOST 1048576: true; the input reads as it did. -/
def exposureWithinUptoRow : OpenClaim := { program := "ytolnohjbpllmhaa", sum := "00ea05b2230405bd8654601ab5cf665eb11402ba0ea50ef0b00f65e9cae6196b", func := "shotline/shotlinelaw05.ExposureWithin", spec := "exposureWithin", unfollowed := true, recurses := true, apart := false, narrowed := true }
def ExposureWithinUptoSaid : Prop := exposureWithinUptoRow.holds Try.pinned (OpenSpec.upto exposureWithinSpec)

/-- 'shotlinelaw05.ExposureBreaks', WHERE WHAT IT READS IS OF BULK AT MOST 1048576: true; the input reads as it did. -/
def exposureBreaksUptoRow : OpenClaim := { program := "ytolnohjbpllmhaa", sum := "00ea05b2230405bd8654601ab5cf665eb11402ba0ea50ef0b00f65e9cae6196b", func := "shotline/shotlinelaw05.ExposureBreaks", spec := "exposureBreaks", unfollowed := true, recurses := true, apart := false, narrowed := true }
def ExposureBreaksUptoSaid : Prop := exposureBreaksUptoRow.holds Try.pinned (OpenSpec.upto exposureBreaksSpec)

/-- 'shotlinelaw05.ExposureSurvives', WHERE WHAT IT READS IS OF BULK AT MOST 1048576: true; the input reads as it did. -/
def exposureSurvivesUptoRow : OpenClaim := { program := "ytolnohjbpllmhaa", sum := "00ea05b2230405bd8654601ab5cf665eb11402ba0ea50ef0b00f65e9cae6196b", func := "shotline/shotlinelaw05.ExposureSurvives", spec := "exposureSurvives", unfollowed := true, recurses := true, apart := false, narrowed := true }
def ExposureSurvivesUptoSaid : Prop := exposureSurvivesUptoRow.holds Try.pinned (OpenSpec.upto exposureSurvivesSpec)

/-- 'shotlinelaw05.ExposureReserves', WHERE WHAT IT READS IS OF BULK AT MOST 1048576: true; the input reads as it did. -/
def exposureReservesUptoRow : OpenClaim := { program := "ytolnohjbpllmhaa", sum := "00ea05b2230405bd8654601ab5cf665eb11402ba0ea50ef0b00f65e9cae6196b", func := "shotline/shotlinelaw05.ExposureReserves", spec := "exposureReserves", unfollowed := true, recurses := true, apart := false, narrowed := true }
def ExposureReservesUptoSaid : Prop := exposureReservesUptoRow.holds Try.pinned (OpenSpec.upto exposureReservesSpec)

/-- 'shotlinetop.TopReserveSuffices', WHERE WHAT IT READS IS OF BULK AT MOST 1048576: true; the input reads as it did. -/
def topReserveSufficesUptoRow : OpenClaim := { program := "ytolnohjbpllmhaa", sum := "00ea05b2230405bd8654601ab5cf665eb11402ba0ea50ef0b00f65e9cae6196b", func := "shotline/shotlinetop.TopReserveSuffices", spec := "topReserveSuffices", unfollowed := true, recurses := true, apart := false, narrowed := true }
def TopReserveSufficesUptoSaid : Prop := topReserveSufficesUptoRow.holds Try.pinned (OpenSpec.upto topReserveSufficesSpec)

/-- 'shotlinetop.TopExposureAdds', WHERE WHAT IT READS IS OF BULK AT MOST 1048576: true; the input reads as it did. -/
def topExposureAddsUptoRow : OpenClaim := { program := "ytolnohjbpllmhaa", sum := "00ea05b2230405bd8654601ab5cf665eb11402ba0ea50ef0b00f65e9cae6196b", func := "shotline/shotlinetop.TopExposureAdds", spec := "topExposureAdds", unfollowed := true, recurses := true, apart := false, narrowed := true }
def TopExposureAddsUptoSaid : Prop := topExposureAddsUptoRow.holds Try.pinned (OpenSpec.upto topExposureAddsSpec)

end Rows
end Go.Proofs.Ytolnohjbpllmhaa
