/-
  No cell of these rows narrows 'for every input' (looked for: loops, veiled, ifaces, maps, wideKeys, modest, calm, conditions, laid).
  DERIVED. THE GIVEN ROWS OF THIS SEAT. 16 by the template 'for every input the law returns true; each argument reads behind the call as it read before'; 0 by the template 'total and deterministic' (their statements: YtfhfadfnbnliiaaTotals.lean).
  GIVEN WITH THE SEED: the statements are not yours to turn. If you find one false, say at which input.
  Laid BY PROGRAM, IN A SANDBOX (cutbox-rows.mjs): the forced cells as the released guide's own fill.sh prints them over the translation 5b91accd4841aa4e… (all of the seat's roots in one cut). By AI agents, Wed Nov 11 2026. No macro, syntax, notation, axiom, sorry.
-/
import Derived.Test.YtfhfadfnbnliiaaChecked
import GoSem.Claim
import GoSem.ClaimJoined
import GoSem.ClaimMapViews
import Derived.JoinedTies
import Derived.KernelRfl
namespace Go.Proofs.Ytfhfadfnbnliiaa
/- THE CELL 'sum', in the pinned program and in every row, IS THE sha256 OF THE DUMP (.gsa) THAT YtfhfadfnbnliiaaProg.lean LOADS. Nothing in Lean hashes anything: it is a label: what it is worth is what the hold of that sum in a sandbox is worth. -/
noncomputable def Try.pinned : Pinned := { name := "ytfhfadfnbnliiaa", sum := "5b91accd4841aa4e27cce9e200f2c80373e374b95da66dc5b70d863974a7e32b", checked := Try.checked }
namespace Rows
def none {H : Type} : Left H := { results := [], args := [] }

/-- 'shotlinelaw03.TissueLoads': WHATEVER THE INPUT: true; the input reads as it did. -/
def tissueLoadsSpec : ChangeSpec := { name := "tissueLoads", fn := fun _ => fun
  | [d] => { results := [.lit (.bool true)], args := [d] }
  | _ => none }
def tissueLoadsRow : OpenClaim := { program := "ytfhfadfnbnliiaa", sum := "5b91accd4841aa4e27cce9e200f2c80373e374b95da66dc5b70d863974a7e32b", func := "shotline/shotlinelaw03.TissueLoads", spec := "tissueLoads", unfollowed := true, recurses := true, apart := false }
def TissueLoadsSaid : Prop := tissueLoadsRow.holds Try.pinned (OpenSpec.ofChange tissueLoadsSpec)

/-- ITS FALSE NEIGHBOUR: 'it returns false'. Refute it at one input. -/
def tissueLoadsWrong : ChangeSpec := { name := "tissueLoads", fn := fun _ => fun
  | [d] => { results := [.lit (.bool false)], args := [d] }
  | _ => none }
def TissueLoadsWrongFalsely : Prop := tissueLoadsRow.holds Try.pinned (OpenSpec.ofChange tissueLoadsWrong)

/-- 'shotlinelaw03.TissueDecays': WHATEVER THE INPUT: true; the input reads as it did. -/
def tissueDecaysSpec : ChangeSpec := { name := "tissueDecays", fn := fun _ => fun
  | [d1, d2, d3] => { results := [.lit (.bool true)], args := [d1, d2, d3] }
  | _ => none }
def tissueDecaysRow : OpenClaim := { program := "ytfhfadfnbnliiaa", sum := "5b91accd4841aa4e27cce9e200f2c80373e374b95da66dc5b70d863974a7e32b", func := "shotline/shotlinelaw03.TissueDecays", spec := "tissueDecays", unfollowed := true, recurses := true, apart := false }
def TissueDecaysSaid : Prop := tissueDecaysRow.holds Try.pinned (OpenSpec.ofChange tissueDecaysSpec)

/-- ITS FALSE NEIGHBOUR: 'it returns false'. Refute it at one input. -/
def tissueDecaysWrong : ChangeSpec := { name := "tissueDecays", fn := fun _ => fun
  | [d1, d2, d3] => { results := [.lit (.bool false)], args := [d1, d2, d3] }
  | _ => none }
def TissueDecaysWrongFalsely : Prop := tissueDecaysRow.holds Try.pinned (OpenSpec.ofChange tissueDecaysWrong)

/-- 'shotlinelaw03.TissueProducts': WHATEVER THE INPUT: true; the input reads as it did. -/
def tissueProductsSpec : ChangeSpec := { name := "tissueProducts", fn := fun _ => fun
  | [d1, d2, d3] => { results := [.lit (.bool true)], args := [d1, d2, d3] }
  | _ => none }
def tissueProductsRow : OpenClaim := { program := "ytfhfadfnbnliiaa", sum := "5b91accd4841aa4e27cce9e200f2c80373e374b95da66dc5b70d863974a7e32b", func := "shotline/shotlinelaw03.TissueProducts", spec := "tissueProducts", unfollowed := true, recurses := true, apart := false }
def TissueProductsSaid : Prop := tissueProductsRow.holds Try.pinned (OpenSpec.ofChange tissueProductsSpec)

/-- ITS FALSE NEIGHBOUR: 'it returns false'. Refute it at one input. -/
def tissueProductsWrong : ChangeSpec := { name := "tissueProducts", fn := fun _ => fun
  | [d1, d2, d3] => { results := [.lit (.bool false)], args := [d1, d2, d3] }
  | _ => none }
def TissueProductsWrongFalsely : Prop := tissueProductsRow.holds Try.pinned (OpenSpec.ofChange tissueProductsWrong)

/-- 'shotlinelaw03.TissueRests': WHATEVER THE INPUT: true; the input reads as it did. -/
def tissueRestsSpec : ChangeSpec := { name := "tissueRests", fn := fun _ => fun
  | [d1, d2, d3] => { results := [.lit (.bool true)], args := [d1, d2, d3] }
  | _ => none }
def tissueRestsRow : OpenClaim := { program := "ytfhfadfnbnliiaa", sum := "5b91accd4841aa4e27cce9e200f2c80373e374b95da66dc5b70d863974a7e32b", func := "shotline/shotlinelaw03.TissueRests", spec := "tissueRests", unfollowed := true, recurses := true, apart := false }
def TissueRestsSaid : Prop := tissueRestsRow.holds Try.pinned (OpenSpec.ofChange tissueRestsSpec)

/-- ITS FALSE NEIGHBOUR: 'it returns false'. Refute it at one input. -/
def tissueRestsWrong : ChangeSpec := { name := "tissueRests", fn := fun _ => fun
  | [d1, d2, d3] => { results := [.lit (.bool false)], args := [d1, d2, d3] }
  | _ => none }
def TissueRestsWrongFalsely : Prop := tissueRestsRow.holds Try.pinned (OpenSpec.ofChange tissueRestsWrong)

/-- 'shotlinelaw03.TissueMeets': WHATEVER THE INPUT: true; the input reads as it did. -/
def tissueMeetsSpec : ChangeSpec := { name := "tissueMeets", fn := fun _ => fun
  | [d1, d2, d3] => { results := [.lit (.bool true)], args := [d1, d2, d3] }
  | _ => none }
def tissueMeetsRow : OpenClaim := { program := "ytfhfadfnbnliiaa", sum := "5b91accd4841aa4e27cce9e200f2c80373e374b95da66dc5b70d863974a7e32b", func := "shotline/shotlinelaw03.TissueMeets", spec := "tissueMeets", unfollowed := true, recurses := true, apart := false }
def TissueMeetsSaid : Prop := tissueMeetsRow.holds Try.pinned (OpenSpec.ofChange tissueMeetsSpec)

/-- ITS FALSE NEIGHBOUR: 'it returns false'. Refute it at one input. -/
def tissueMeetsWrong : ChangeSpec := { name := "tissueMeets", fn := fun _ => fun
  | [d1, d2, d3] => { results := [.lit (.bool false)], args := [d1, d2, d3] }
  | _ => none }
def TissueMeetsWrongFalsely : Prop := tissueMeetsRow.holds Try.pinned (OpenSpec.ofChange tissueMeetsWrong)

/-- 'shotlinelaw03.TissueInside': WHATEVER THE INPUT: true; the input reads as it did. -/
def tissueInsideSpec : ChangeSpec := { name := "tissueInside", fn := fun _ => fun
  | [d1, d2] => { results := [.lit (.bool true)], args := [d1, d2] }
  | _ => none }
def tissueInsideRow : OpenClaim := { program := "ytfhfadfnbnliiaa", sum := "5b91accd4841aa4e27cce9e200f2c80373e374b95da66dc5b70d863974a7e32b", func := "shotline/shotlinelaw03.TissueInside", spec := "tissueInside", unfollowed := true, recurses := true, apart := false }
def TissueInsideSaid : Prop := tissueInsideRow.holds Try.pinned (OpenSpec.ofChange tissueInsideSpec)

/-- ITS FALSE NEIGHBOUR: 'it returns false'. Refute it at one input. -/
def tissueInsideWrong : ChangeSpec := { name := "tissueInside", fn := fun _ => fun
  | [d1, d2] => { results := [.lit (.bool false)], args := [d1, d2] }
  | _ => none }
def TissueInsideWrongFalsely : Prop := tissueInsideRow.holds Try.pinned (OpenSpec.ofChange tissueInsideWrong)

/-- 'shotlinelaw03.TissueFollows': WHATEVER THE INPUT: true; the input reads as it did. -/
def tissueFollowsSpec : ChangeSpec := { name := "tissueFollows", fn := fun _ => fun
  | [d1, d2] => { results := [.lit (.bool true)], args := [d1, d2] }
  | _ => none }
def tissueFollowsRow : OpenClaim := { program := "ytfhfadfnbnliiaa", sum := "5b91accd4841aa4e27cce9e200f2c80373e374b95da66dc5b70d863974a7e32b", func := "shotline/shotlinelaw03.TissueFollows", spec := "tissueFollows", unfollowed := true, recurses := true, apart := false }
def TissueFollowsSaid : Prop := tissueFollowsRow.holds Try.pinned (OpenSpec.ofChange tissueFollowsSpec)

/-- ITS FALSE NEIGHBOUR: 'it returns false'. Refute it at one input. -/
def tissueFollowsWrong : ChangeSpec := { name := "tissueFollows", fn := fun _ => fun
  | [d1, d2] => { results := [.lit (.bool false)], args := [d1, d2] }
  | _ => none }
def TissueFollowsWrongFalsely : Prop := tissueFollowsRow.holds Try.pinned (OpenSpec.ofChange tissueFollowsWrong)

/-- 'shotlinelaw03.TissuePlans': WHATEVER THE INPUT: true; the input reads as it did. -/
def tissuePlansSpec : ChangeSpec := { name := "tissuePlans", fn := fun _ => fun
  | [d] => { results := [.lit (.bool true)], args := [d] }
  | _ => none }
def tissuePlansRow : OpenClaim := { program := "ytfhfadfnbnliiaa", sum := "5b91accd4841aa4e27cce9e200f2c80373e374b95da66dc5b70d863974a7e32b", func := "shotline/shotlinelaw03.TissuePlans", spec := "tissuePlans", unfollowed := true, recurses := true, apart := false }
def TissuePlansSaid : Prop := tissuePlansRow.holds Try.pinned (OpenSpec.ofChange tissuePlansSpec)

/-- ITS FALSE NEIGHBOUR: 'it returns false'. Refute it at one input. -/
def tissuePlansWrong : ChangeSpec := { name := "tissuePlans", fn := fun _ => fun
  | [d] => { results := [.lit (.bool false)], args := [d] }
  | _ => none }
def TissuePlansWrongFalsely : Prop := tissuePlansRow.holds Try.pinned (OpenSpec.ofChange tissuePlansWrong)

/-- 'shotlinelaw03.TissueCeilings': WHATEVER THE INPUT: true; the input reads as it did. -/
def tissueCeilingsSpec : ChangeSpec := { name := "tissueCeilings", fn := fun _ => fun
  | [d1, d2] => { results := [.lit (.bool true)], args := [d1, d2] }
  | _ => none }
def tissueCeilingsRow : OpenClaim := { program := "ytfhfadfnbnliiaa", sum := "5b91accd4841aa4e27cce9e200f2c80373e374b95da66dc5b70d863974a7e32b", func := "shotline/shotlinelaw03.TissueCeilings", spec := "tissueCeilings", unfollowed := true, recurses := true, apart := false }
def TissueCeilingsSaid : Prop := tissueCeilingsRow.holds Try.pinned (OpenSpec.ofChange tissueCeilingsSpec)

/-- ITS FALSE NEIGHBOUR: 'it returns false'. Refute it at one input. -/
def tissueCeilingsWrong : ChangeSpec := { name := "tissueCeilings", fn := fun _ => fun
  | [d1, d2] => { results := [.lit (.bool false)], args := [d1, d2] }
  | _ => none }
def TissueCeilingsWrongFalsely : Prop := tissueCeilingsRow.holds Try.pinned (OpenSpec.ofChange tissueCeilingsWrong)

/-- 'shotlinelaw03.TissueLimits': WHATEVER THE INPUT: true; the input reads as it did. -/
def tissueLimitsSpec : ChangeSpec := { name := "tissueLimits", fn := fun _ => fun
  | [d1, d2, d3] => { results := [.lit (.bool true)], args := [d1, d2, d3] }
  | _ => none }
def tissueLimitsRow : OpenClaim := { program := "ytfhfadfnbnliiaa", sum := "5b91accd4841aa4e27cce9e200f2c80373e374b95da66dc5b70d863974a7e32b", func := "shotline/shotlinelaw03.TissueLimits", spec := "tissueLimits", unfollowed := true, recurses := true, apart := false }
def TissueLimitsSaid : Prop := tissueLimitsRow.holds Try.pinned (OpenSpec.ofChange tissueLimitsSpec)

/-- ITS FALSE NEIGHBOUR: 'it returns false'. Refute it at one input. -/
def tissueLimitsWrong : ChangeSpec := { name := "tissueLimits", fn := fun _ => fun
  | [d1, d2, d3] => { results := [.lit (.bool false)], args := [d1, d2, d3] }
  | _ => none }
def TissueLimitsWrongFalsely : Prop := tissueLimitsRow.holds Try.pinned (OpenSpec.ofChange tissueLimitsWrong)

/-- 'shotlinelaw03.TissueSaturates': WHATEVER THE INPUT: true; the input reads as it did. -/
def tissueSaturatesSpec : ChangeSpec := { name := "tissueSaturates", fn := fun _ => fun
  | [d1, d2, d3] => { results := [.lit (.bool true)], args := [d1, d2, d3] }
  | _ => none }
def tissueSaturatesRow : OpenClaim := { program := "ytfhfadfnbnliiaa", sum := "5b91accd4841aa4e27cce9e200f2c80373e374b95da66dc5b70d863974a7e32b", func := "shotline/shotlinelaw03.TissueSaturates", spec := "tissueSaturates", unfollowed := true, recurses := true, apart := false }
def TissueSaturatesSaid : Prop := tissueSaturatesRow.holds Try.pinned (OpenSpec.ofChange tissueSaturatesSpec)

/-- ITS FALSE NEIGHBOUR: 'it returns false'. Refute it at one input. -/
def tissueSaturatesWrong : ChangeSpec := { name := "tissueSaturates", fn := fun _ => fun
  | [d1, d2, d3] => { results := [.lit (.bool false)], args := [d1, d2, d3] }
  | _ => none }
def TissueSaturatesWrongFalsely : Prop := tissueSaturatesRow.holds Try.pinned (OpenSpec.ofChange tissueSaturatesWrong)

/-- 'shotlinelaw03.TissueDecides': WHATEVER THE INPUT: true; the input reads as it did. -/
def tissueDecidesSpec : ChangeSpec := { name := "tissueDecides", fn := fun _ => fun
  | [d1, d2, d3] => { results := [.lit (.bool true)], args := [d1, d2, d3] }
  | _ => none }
def tissueDecidesRow : OpenClaim := { program := "ytfhfadfnbnliiaa", sum := "5b91accd4841aa4e27cce9e200f2c80373e374b95da66dc5b70d863974a7e32b", func := "shotline/shotlinelaw03.TissueDecides", spec := "tissueDecides", unfollowed := true, recurses := true, apart := false }
def TissueDecidesSaid : Prop := tissueDecidesRow.holds Try.pinned (OpenSpec.ofChange tissueDecidesSpec)

/-- ITS FALSE NEIGHBOUR: 'it returns false'. Refute it at one input. -/
def tissueDecidesWrong : ChangeSpec := { name := "tissueDecides", fn := fun _ => fun
  | [d1, d2, d3] => { results := [.lit (.bool false)], args := [d1, d2, d3] }
  | _ => none }
def TissueDecidesWrongFalsely : Prop := tissueDecidesRow.holds Try.pinned (OpenSpec.ofChange tissueDecidesWrong)

/-- 'shotlinelaw03.TissueKeeps': WHATEVER THE INPUT: true; the input reads as it did. -/
def tissueKeepsSpec : ChangeSpec := { name := "tissueKeeps", fn := fun _ => fun
  | [d1, d2] => { results := [.lit (.bool true)], args := [d1, d2] }
  | _ => none }
def tissueKeepsRow : OpenClaim := { program := "ytfhfadfnbnliiaa", sum := "5b91accd4841aa4e27cce9e200f2c80373e374b95da66dc5b70d863974a7e32b", func := "shotline/shotlinelaw03.TissueKeeps", spec := "tissueKeeps", unfollowed := true, recurses := true, apart := false }
def TissueKeepsSaid : Prop := tissueKeepsRow.holds Try.pinned (OpenSpec.ofChange tissueKeepsSpec)

/-- ITS FALSE NEIGHBOUR: 'it returns false'. Refute it at one input. -/
def tissueKeepsWrong : ChangeSpec := { name := "tissueKeeps", fn := fun _ => fun
  | [d1, d2] => { results := [.lit (.bool false)], args := [d1, d2] }
  | _ => none }
def TissueKeepsWrongFalsely : Prop := tissueKeepsRow.holds Try.pinned (OpenSpec.ofChange tissueKeepsWrong)

/-- 'shotlinelaw03.TissueInstants': WHATEVER THE INPUT: true; the input reads as it did. -/
def tissueInstantsSpec : ChangeSpec := { name := "tissueInstants", fn := fun _ => fun
  | [d1, d2, d3] => { results := [.lit (.bool true)], args := [d1, d2, d3] }
  | _ => none }
def tissueInstantsRow : OpenClaim := { program := "ytfhfadfnbnliiaa", sum := "5b91accd4841aa4e27cce9e200f2c80373e374b95da66dc5b70d863974a7e32b", func := "shotline/shotlinelaw03.TissueInstants", spec := "tissueInstants", unfollowed := true, recurses := true, apart := false }
def TissueInstantsSaid : Prop := tissueInstantsRow.holds Try.pinned (OpenSpec.ofChange tissueInstantsSpec)

/-- ITS FALSE NEIGHBOUR: 'it returns false'. Refute it at one input. -/
def tissueInstantsWrong : ChangeSpec := { name := "tissueInstants", fn := fun _ => fun
  | [d1, d2, d3] => { results := [.lit (.bool false)], args := [d1, d2, d3] }
  | _ => none }
def TissueInstantsWrongFalsely : Prop := tissueInstantsRow.holds Try.pinned (OpenSpec.ofChange tissueInstantsWrong)

/-- 'shotlinetop.TopNearer': WHATEVER THE INPUT: true; the input reads as it did. -/
def topNearerSpec : ChangeSpec := { name := "topNearer", fn := fun _ => fun
  | [d1, d2, d3] => { results := [.lit (.bool true)], args := [d1, d2, d3] }
  | _ => none }
def topNearerRow : OpenClaim := { program := "ytfhfadfnbnliiaa", sum := "5b91accd4841aa4e27cce9e200f2c80373e374b95da66dc5b70d863974a7e32b", func := "shotline/shotlinetop.TopNearer", spec := "topNearer", unfollowed := true, recurses := true, apart := false }
def TopNearerSaid : Prop := topNearerRow.holds Try.pinned (OpenSpec.ofChange topNearerSpec)

/-- ITS FALSE NEIGHBOUR: 'it returns false'. Refute it at one input. -/
def topNearerWrong : ChangeSpec := { name := "topNearer", fn := fun _ => fun
  | [d1, d2, d3] => { results := [.lit (.bool false)], args := [d1, d2, d3] }
  | _ => none }
def TopNearerWrongFalsely : Prop := topNearerRow.holds Try.pinned (OpenSpec.ofChange topNearerWrong)

/-- 'shotlinetop.TopRefinedMeets': WHATEVER THE INPUT: true; the input reads as it did. -/
def topRefinedMeetsSpec : ChangeSpec := { name := "topRefinedMeets", fn := fun _ => fun
  | [d1, d2, d3] => { results := [.lit (.bool true)], args := [d1, d2, d3] }
  | _ => none }
def topRefinedMeetsRow : OpenClaim := { program := "ytfhfadfnbnliiaa", sum := "5b91accd4841aa4e27cce9e200f2c80373e374b95da66dc5b70d863974a7e32b", func := "shotline/shotlinetop.TopRefinedMeets", spec := "topRefinedMeets", unfollowed := true, recurses := true, apart := false }
def TopRefinedMeetsSaid : Prop := topRefinedMeetsRow.holds Try.pinned (OpenSpec.ofChange topRefinedMeetsSpec)

/-- ITS FALSE NEIGHBOUR: 'it returns false'. Refute it at one input. -/
def topRefinedMeetsWrong : ChangeSpec := { name := "topRefinedMeets", fn := fun _ => fun
  | [d1, d2, d3] => { results := [.lit (.bool false)], args := [d1, d2, d3] }
  | _ => none }
def TopRefinedMeetsWrongFalsely : Prop := topRefinedMeetsRow.holds Try.pinned (OpenSpec.ofChange topRefinedMeetsWrong)

/- THE SECOND FORM. 'bulk': how many values and letters a reading holds, each counted each time it is reached (what is shared counts as often as it is met; a slice's spare places count too). A statement '..UptoSaid' is the law's where the arguments, and the package variables that the reading takes, are together of bulk at most 1048576: NARROWER than '..Said'. Prove '..Said' where nothing that the law and all that it calls make is longer than what came in: it says more and counts as full. Else prove '..UptoSaid'. A law counts once. -/
mutual
def uptoBulk {H : Type} : DataW H → Nat
  | .lit (.string bytes) => bytes.length + 1
  | .lit _ => 1
  | .nil => 1
  | .ptr d => uptoBulk d + 1
  | .slice elems spare => uptoBulkAll elems + uptoBulkAll spare + 1
  | .agg parts => uptoBulkAll parts + 1
  | .iface _ d => uptoBulk d + 1
  | .map entries => uptoBulkEntries entries + 1
  | .held _ => 1
def uptoBulkAll {H : Type} : List (DataW H) → Nat
  | [] => 0
  | d :: r => uptoBulk d + uptoBulkAll r
def uptoBulkEntries {H : Type} : List (Lit × DataW H) → Nat
  | [] => 0
  | x :: r => uptoBulkEntry x + uptoBulkEntries r
def uptoBulkEntry {H : Type} : Lit × DataW H → Nat
  | (.string bytes, d) => bytes.length + uptoBulk d + 1
  | (_, d) => uptoBulk d + 1
 end
def uptoSmall : (H : Type) → List (DataW H) → Bool := fun _ ds => decide (uptoBulkAll ds ≤ 1048576)
def OpenSpec.upto (s : _root_.Go.ChangeSpec) : _root_.Go.OpenSpec := { _root_.Go.OpenSpec.ofChange s with cond := some uptoSmall }

/-- 'shotlinelaw03.TissueLoads', WHERE WHAT IT READS IS OF BULK AT MOST 1048576: true; the input reads as it did. -/
def tissueLoadsUptoRow : OpenClaim := { program := "ytfhfadfnbnliiaa", sum := "5b91accd4841aa4e27cce9e200f2c80373e374b95da66dc5b70d863974a7e32b", func := "shotline/shotlinelaw03.TissueLoads", spec := "tissueLoads", unfollowed := true, recurses := true, apart := false, narrowed := true }
def TissueLoadsUptoSaid : Prop := tissueLoadsUptoRow.holds Try.pinned (OpenSpec.upto tissueLoadsSpec)

/-- 'shotlinelaw03.TissueDecays', WHERE WHAT IT READS IS OF BULK AT MOST 1048576: true; the input reads as it did. -/
def tissueDecaysUptoRow : OpenClaim := { program := "ytfhfadfnbnliiaa", sum := "5b91accd4841aa4e27cce9e200f2c80373e374b95da66dc5b70d863974a7e32b", func := "shotline/shotlinelaw03.TissueDecays", spec := "tissueDecays", unfollowed := true, recurses := true, apart := false, narrowed := true }
def TissueDecaysUptoSaid : Prop := tissueDecaysUptoRow.holds Try.pinned (OpenSpec.upto tissueDecaysSpec)

/-- 'shotlinelaw03.TissueProducts', WHERE WHAT IT READS IS OF BULK AT MOST 1048576: true; the input reads as it did. -/
def tissueProductsUptoRow : OpenClaim := { program := "ytfhfadfnbnliiaa", sum := "5b91accd4841aa4e27cce9e200f2c80373e374b95da66dc5b70d863974a7e32b", func := "shotline/shotlinelaw03.TissueProducts", spec := "tissueProducts", unfollowed := true, recurses := true, apart := false, narrowed := true }
def TissueProductsUptoSaid : Prop := tissueProductsUptoRow.holds Try.pinned (OpenSpec.upto tissueProductsSpec)

/-- 'shotlinelaw03.TissueRests', WHERE WHAT IT READS IS OF BULK AT MOST 1048576: true; the input reads as it did. -/
def tissueRestsUptoRow : OpenClaim := { program := "ytfhfadfnbnliiaa", sum := "5b91accd4841aa4e27cce9e200f2c80373e374b95da66dc5b70d863974a7e32b", func := "shotline/shotlinelaw03.TissueRests", spec := "tissueRests", unfollowed := true, recurses := true, apart := false, narrowed := true }
def TissueRestsUptoSaid : Prop := tissueRestsUptoRow.holds Try.pinned (OpenSpec.upto tissueRestsSpec)

/-- 'shotlinelaw03.TissueMeets', WHERE WHAT IT READS IS OF BULK AT MOST 1048576: true; the input reads as it did. -/
def tissueMeetsUptoRow : OpenClaim := { program := "ytfhfadfnbnliiaa", sum := "5b91accd4841aa4e27cce9e200f2c80373e374b95da66dc5b70d863974a7e32b", func := "shotline/shotlinelaw03.TissueMeets", spec := "tissueMeets", unfollowed := true, recurses := true, apart := false, narrowed := true }
def TissueMeetsUptoSaid : Prop := tissueMeetsUptoRow.holds Try.pinned (OpenSpec.upto tissueMeetsSpec)

/-- 'shotlinelaw03.TissueInside', WHERE WHAT IT READS IS OF BULK AT MOST 1048576: true; the input reads as it did. -/
def tissueInsideUptoRow : OpenClaim := { program := "ytfhfadfnbnliiaa", sum := "5b91accd4841aa4e27cce9e200f2c80373e374b95da66dc5b70d863974a7e32b", func := "shotline/shotlinelaw03.TissueInside", spec := "tissueInside", unfollowed := true, recurses := true, apart := false, narrowed := true }
def TissueInsideUptoSaid : Prop := tissueInsideUptoRow.holds Try.pinned (OpenSpec.upto tissueInsideSpec)

/-- 'shotlinelaw03.TissueFollows', WHERE WHAT IT READS IS OF BULK AT MOST 1048576: true; the input reads as it did. -/
def tissueFollowsUptoRow : OpenClaim := { program := "ytfhfadfnbnliiaa", sum := "5b91accd4841aa4e27cce9e200f2c80373e374b95da66dc5b70d863974a7e32b", func := "shotline/shotlinelaw03.TissueFollows", spec := "tissueFollows", unfollowed := true, recurses := true, apart := false, narrowed := true }
def TissueFollowsUptoSaid : Prop := tissueFollowsUptoRow.holds Try.pinned (OpenSpec.upto tissueFollowsSpec)

/-- 'shotlinelaw03.TissuePlans', WHERE WHAT IT READS IS OF BULK AT MOST 1048576: true; the input reads as it did. -/
def tissuePlansUptoRow : OpenClaim := { program := "ytfhfadfnbnliiaa", sum := "5b91accd4841aa4e27cce9e200f2c80373e374b95da66dc5b70d863974a7e32b", func := "shotline/shotlinelaw03.TissuePlans", spec := "tissuePlans", unfollowed := true, recurses := true, apart := false, narrowed := true }
def TissuePlansUptoSaid : Prop := tissuePlansUptoRow.holds Try.pinned (OpenSpec.upto tissuePlansSpec)

/-- 'shotlinelaw03.TissueCeilings', WHERE WHAT IT READS IS OF BULK AT MOST 1048576: true; the input reads as it did. -/
def tissueCeilingsUptoRow : OpenClaim := { program := "ytfhfadfnbnliiaa", sum := "5b91accd4841aa4e27cce9e200f2c80373e374b95da66dc5b70d863974a7e32b", func := "shotline/shotlinelaw03.TissueCeilings", spec := "tissueCeilings", unfollowed := true, recurses := true, apart := false, narrowed := true }
def TissueCeilingsUptoSaid : Prop := tissueCeilingsUptoRow.holds Try.pinned (OpenSpec.upto tissueCeilingsSpec)

/-- 'shotlinelaw03.TissueLimits', WHERE WHAT IT READS IS OF BULK AT MOST 1048576: true; the input reads as it did. -/
def tissueLimitsUptoRow : OpenClaim := { program := "ytfhfadfnbnliiaa", sum := "5b91accd4841aa4e27cce9e200f2c80373e374b95da66dc5b70d863974a7e32b", func := "shotline/shotlinelaw03.TissueLimits", spec := "tissueLimits", unfollowed := true, recurses := true, apart := false, narrowed := true }
def TissueLimitsUptoSaid : Prop := tissueLimitsUptoRow.holds Try.pinned (OpenSpec.upto tissueLimitsSpec)

/-- 'shotlinelaw03.TissueSaturates', WHERE WHAT IT READS IS OF BULK AT MOST 1048576: true; the input reads as it did. -/
def tissueSaturatesUptoRow : OpenClaim := { program := "ytfhfadfnbnliiaa", sum := "5b91accd4841aa4e27cce9e200f2c80373e374b95da66dc5b70d863974a7e32b", func := "shotline/shotlinelaw03.TissueSaturates", spec := "tissueSaturates", unfollowed := true, recurses := true, apart := false, narrowed := true }
def TissueSaturatesUptoSaid : Prop := tissueSaturatesUptoRow.holds Try.pinned (OpenSpec.upto tissueSaturatesSpec)

/-- 'shotlinelaw03.TissueDecides', WHERE WHAT IT READS IS OF BULK AT MOST 1048576: true; the input reads as it did. -/
def tissueDecidesUptoRow : OpenClaim := { program := "ytfhfadfnbnliiaa", sum := "5b91accd4841aa4e27cce9e200f2c80373e374b95da66dc5b70d863974a7e32b", func := "shotline/shotlinelaw03.TissueDecides", spec := "tissueDecides", unfollowed := true, recurses := true, apart := false, narrowed := true }
def TissueDecidesUptoSaid : Prop := tissueDecidesUptoRow.holds Try.pinned (OpenSpec.upto tissueDecidesSpec)

/-- 'shotlinelaw03.TissueKeeps', WHERE WHAT IT READS IS OF BULK AT MOST 1048576: true; the input reads as it did. -/
def tissueKeepsUptoRow : OpenClaim := { program := "ytfhfadfnbnliiaa", sum := "5b91accd4841aa4e27cce9e200f2c80373e374b95da66dc5b70d863974a7e32b", func := "shotline/shotlinelaw03.TissueKeeps", spec := "tissueKeeps", unfollowed := true, recurses := true, apart := false, narrowed := true }
def TissueKeepsUptoSaid : Prop := tissueKeepsUptoRow.holds Try.pinned (OpenSpec.upto tissueKeepsSpec)

/-- 'shotlinelaw03.TissueInstants', WHERE WHAT IT READS IS OF BULK AT MOST 1048576: true; the input reads as it did. -/
def tissueInstantsUptoRow : OpenClaim := { program := "ytfhfadfnbnliiaa", sum := "5b91accd4841aa4e27cce9e200f2c80373e374b95da66dc5b70d863974a7e32b", func := "shotline/shotlinelaw03.TissueInstants", spec := "tissueInstants", unfollowed := true, recurses := true, apart := false, narrowed := true }
def TissueInstantsUptoSaid : Prop := tissueInstantsUptoRow.holds Try.pinned (OpenSpec.upto tissueInstantsSpec)

/-- 'shotlinetop.TopNearer', WHERE WHAT IT READS IS OF BULK AT MOST 1048576: true; the input reads as it did. -/
def topNearerUptoRow : OpenClaim := { program := "ytfhfadfnbnliiaa", sum := "5b91accd4841aa4e27cce9e200f2c80373e374b95da66dc5b70d863974a7e32b", func := "shotline/shotlinetop.TopNearer", spec := "topNearer", unfollowed := true, recurses := true, apart := false, narrowed := true }
def TopNearerUptoSaid : Prop := topNearerUptoRow.holds Try.pinned (OpenSpec.upto topNearerSpec)

/-- 'shotlinetop.TopRefinedMeets', WHERE WHAT IT READS IS OF BULK AT MOST 1048576: true; the input reads as it did. -/
def topRefinedMeetsUptoRow : OpenClaim := { program := "ytfhfadfnbnliiaa", sum := "5b91accd4841aa4e27cce9e200f2c80373e374b95da66dc5b70d863974a7e32b", func := "shotline/shotlinetop.TopRefinedMeets", spec := "topRefinedMeets", unfollowed := true, recurses := true, apart := false, narrowed := true }
def TopRefinedMeetsUptoSaid : Prop := topRefinedMeetsUptoRow.holds Try.pinned (OpenSpec.upto topRefinedMeetsSpec)

end Rows
end Go.Proofs.Ytfhfadfnbnliiaa
