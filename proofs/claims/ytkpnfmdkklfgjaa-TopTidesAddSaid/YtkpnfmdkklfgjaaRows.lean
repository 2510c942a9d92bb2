/-
  No cell of these rows narrows 'for every input' (looked for: loops, veiled, ifaces, maps, wideKeys, modest, calm, conditions, laid).
  DERIVED. THE GIVEN ROWS OF THIS SEAT. 3 by the template 'for every input the law returns true; each argument reads behind the call as it read before'; 0 by the template 'total and deterministic' (their statements: YtkpnfmdkklfgjaaTotals.lean).
  GIVEN WITH THE SEED: the statements are not yours to turn. If you find one false, say at which input.
  Laid BY PROGRAM, IN A SANDBOX (cutbox-rows.mjs): the forced cells as the released guide's own fill.sh prints them over the translation dc2f46f84e5c8662… (all of the seat's roots in one cut). By AI agents, Wed Nov 11 2026. No macro, syntax, notation, axiom, sorry.
-/
import Derived.Test.YtkpnfmdkklfgjaaChecked
import GoSem.Claim
import GoSem.ClaimJoined
import GoSem.ClaimMapViews
import Derived.JoinedTies
import Derived.KernelRfl
namespace Go.Proofs.Ytkpnfmdkklfgjaa
/- THE CELL 'sum', in the pinned program and in every row, IS THE sha256 OF THE DUMP (.gsa) THAT YtkpnfmdkklfgjaaProg.lean LOADS. Nothing in Lean hashes anything: it is a label: what it is worth is what the hold of that sum in a sandbox is worth. -/
noncomputable def Try.pinned : Pinned := { name := "ytkpnfmdkklfgjaa", sum := "dc2f46f84e5c86621a9ec4b3d7fdb5fe7ec8eab4e252d45f5c17f5938c90e545", checked := Try.checked }
namespace Rows
def none {H : Type} : Left H := { results := [], args := [] }

/-- 'shotlinetop.TopTidesAdd': WHATEVER THE INPUT: true; the input reads as it did. -/
def topTidesAddSpec : ChangeSpec := { name := "topTidesAdd", fn := fun _ => fun
  | [d1, d2, d3] => { results := [.lit (.bool true)], args := [d1, d2, d3] }
  | _ => none }
def topTidesAddRow : OpenClaim := { program := "ytkpnfmdkklfgjaa", sum := "dc2f46f84e5c86621a9ec4b3d7fdb5fe7ec8eab4e252d45f5c17f5938c90e545", func := "shotline/shotlinetop.TopTidesAdd", spec := "topTidesAdd", unfollowed := true, recurses := true, apart := false }
def TopTidesAddSaid : Prop := topTidesAddRow.holds Try.pinned (OpenSpec.ofChange topTidesAddSpec)

/-- ITS FALSE NEIGHBOUR: 'it returns false'. Refute it at one input. -/
def topTidesAddWrong : ChangeSpec := { name := "topTidesAdd", fn := fun _ => fun
  | [d1, d2, d3] => { results := [.lit (.bool false)], args := [d1, d2, d3] }
  | _ => none }
def TopTidesAddWrongFalsely : Prop := topTidesAddRow.holds Try.pinned (OpenSpec.ofChange topTidesAddWrong)

/-- 'shotlinetop.TopDepthsAgree': WHATEVER THE INPUT: true; the input reads as it did. -/
def topDepthsAgreeSpec : ChangeSpec := { name := "topDepthsAgree", fn := fun _ => fun
  | [d] => { results := [.lit (.bool true)], args := [d] }
  | _ => none }
def topDepthsAgreeRow : OpenClaim := { program := "ytkpnfmdkklfgjaa", sum := "dc2f46f84e5c86621a9ec4b3d7fdb5fe7ec8eab4e252d45f5c17f5938c90e545", func := "shotline/shotlinetop.TopDepthsAgree", spec := "topDepthsAgree", unfollowed := true, recurses := true, apart := false }
def TopDepthsAgreeSaid : Prop := topDepthsAgreeRow.holds Try.pinned (OpenSpec.ofChange topDepthsAgreeSpec)

/-- ITS FALSE NEIGHBOUR: 'it returns false'. Refute it at one input. -/
def topDepthsAgreeWrong : ChangeSpec := { name := "topDepthsAgree", fn := fun _ => fun
  | [d] => { results := [.lit (.bool false)], args := [d] }
  | _ => none }
def TopDepthsAgreeWrongFalsely : Prop := topDepthsAgreeRow.holds Try.pinned (OpenSpec.ofChange topDepthsAgreeWrong)

/-- 'shotlinetop.TopPlansAsProfiles': WHATEVER THE INPUT: true; the input reads as it did. -/
def topPlansAsProfilesSpec : ChangeSpec := { name := "topPlansAsProfiles", fn := fun _ => fun
  | [d1, d2] => { results := [.lit (.bool true)], args := [d1, d2] }
  | _ => none }
def topPlansAsProfilesRow : OpenClaim := { program := "ytkpnfmdkklfgjaa", sum := "dc2f46f84e5c86621a9ec4b3d7fdb5fe7ec8eab4e252d45f5c17f5938c90e545", func := "shotline/shotlinetop.TopPlansAsProfiles", spec := "topPlansAsProfiles", unfollowed := true, recurses := true, apart := false }
def TopPlansAsProfilesSaid : Prop := topPlansAsProfilesRow.holds Try.pinned (OpenSpec.ofChange topPlansAsProfilesSpec)

/-- ITS FALSE NEIGHBOUR: 'it returns false'. Refute it at one input. -/
def topPlansAsProfilesWrong : ChangeSpec := { name := "topPlansAsProfiles", fn := fun _ => fun
  | [d1, d2] => { results := [.lit (.bool false)], args := [d1, d2] }
  | _ => none }
def TopPlansAsProfilesWrongFalsely : Prop := topPlansAsProfilesRow.holds Try.pinned (OpenSpec.ofChange topPlansAsProfilesWrong)

/- THE SECOND FORM. 'bulk': how many values and letters a reading holds, each counted each time it is reached (what is shared counts as often as it is met; a slice's spare places count too). A statement '..UptoSaid' is the law's where the arguments, and the package variables that the reading takes, are together of bulk at most 1048576: NARROWER than '..Said'. Prove '..Said' where nothing that the law and all that it calls make is longer than what came in: it says more and counts as full. Else prove '..UptoSaid'. A law counts once. -/
mutual
def uptoBulk {H : Type} : DataW H → Nat
  | .lit (.string bytes) => bytes.length + 1
  | .lit _ => 1
  | .nil => 1
  | .ptr d => uptoBulk d + 1
  | .slice elems spare => uptoBulkAll elems + uptoBulkAll spare + 1
  | .agg parts => uptoBulkAll parts + 1
  | .iface _ d => uptoBulk d + 1
  | .map entries => uptoBulkEntries entries + 1
  | .held _ => 1
def uptoBulkAll {H : Type} : List (DataW H) → Nat
  | [] => 0
  | d :: r => uptoBulk d + uptoBulkAll r
def uptoBulkEntries {H : Type} : List (Lit × DataW H) → Nat
  | [] => 0
  | x :: r => uptoBulkEntry x + uptoBulkEntries r
def uptoBulkEntry {H : Type} : Lit × DataW H → Nat
  | (.string bytes, d) => bytes.length + uptoBulk d + 1
  | (_, d) => uptoBulk d + 1
 end
def uptoSmall : (H : Type) → List (DataW H) → Bool := fun _ ds => decide (uptoBulkAll ds ≤ 1048576)
def OpenSpec.upto (s : _root_.Go.ChangeSpec) : _root_.Go.OpenSpec := { _root_.Go.OpenSpec.ofChange s with cond := some uptoSmall }

/-- 'shotlinetop.TopTidesAdd', WHERE WHAT IT READS IS OF BULK AT MOST 1048576: true; the input reads as it did. -/
def topTidesAddUptoRow : OpenClaim := { program := "ytkpnfmdkklfgjaa", sum := "dc2f46f84e5c86621a9ec4b3d7fdb5fe7ec8eab4e252d45f5c17f5938c90e545", func := "shotline/shotlinetop.TopTidesAdd", spec := "topTidesAdd", unfollowed := true, recurses := true, apart := false, narrowed := true }
def TopTidesAddUptoSaid : Prop := topTidesAddUptoRow.holds Try.pinned (OpenSpec.upto topTidesAddSpec)

/-- 'shotlinetop.TopDepthsAgree', WHERE WHAT IT READS IS OF BULK AT MOST 1048576: true; the input reads as it did. -/
def topDepthsAgreeUptoRow : OpenClaim := { program := "ytkpnfmdkklfgjaa", sum := "dc2f46f84e5c86621a9ec4b3d7fdb5fe7ec8eab4e252d45f5c17f5938c90e545", func := "shotline/shotlinetop.TopDepthsAgree", spec := "topDepthsAgree", unfollowed := true, recurses := true, apart := false, narrowed := true }
def TopDepthsAgreeUptoSaid : Prop := topDepthsAgreeUptoRow.holds Try.pinned (OpenSpec.upto topDepthsAgreeSpec)

/-- 'shotlinetop.TopPlansAsProfiles', WHERE WHAT IT READS IS OF BULK AT MOST 1048576: true; the input reads as it did. -/
def topPlansAsProfilesUptoRow : OpenClaim := { program := "ytkpnfmdkklfgjaa", sum := "dc2f46f84e5c86621a9ec4b3d7fdb5fe7ec8eab4e252d45f5c17f5938c90e545", func := "shotline/shotlinetop.TopPlansAsProfiles", spec := "topPlansAsProfiles", unfollowed := true, recurses := true, apart := false, narrowed := true }
def TopPlansAsProfilesUptoSaid : Prop := topPlansAsProfilesUptoRow.holds Try.pinned (OpenSpec.upto topPlansAsProfilesSpec)

end Rows
end Go.Proofs.Ytkpnfmdkklfgjaa
