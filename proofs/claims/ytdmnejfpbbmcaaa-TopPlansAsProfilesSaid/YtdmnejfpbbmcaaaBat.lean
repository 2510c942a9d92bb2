/-
  A byte of a text, as a number. Conditions: none; no program in sight.
-/
import Derived.Test.YtdmnejfpbbmcaaaSh
namespace Go.Proofs.Ytdmnejfpbbmcaaa
def bAt (s : ByteArray) (i : Nat) : Int := ((s.data[i]?.getD 0).toNat : Int)
theorem bAt_in (s : ByteArray) (i : Nat) : 0 ≤ bAt s i ∧ bAt s i ≤ 255 := by
  unfold bAt
  have := (s.data[i]?.getD 0).toNat_lt
  omega
end Go.Proofs.Ytdmnejfpbbmcaaa
