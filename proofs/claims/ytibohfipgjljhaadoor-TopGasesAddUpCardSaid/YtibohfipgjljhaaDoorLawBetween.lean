/-
  Walks: each function named returns what its model says. Conditions: those in front of each theorem.
-/
import Derived.Test.YtibohfipgjljhaaDoorKL
import Derived.Test.YtibohfipgjljhaaDoorGf
namespace Go.Proofs.YtibohfipgjljhaaDoor
open Go.RowKit

theorem eq51 : EqT Tryd.prog 3 51 6 := eqT_arr3s tb Tryd.underlying51 eq50 rfl
theorem eg51 : Tryd.prog.eqGuardType Tryd.prog.depth 51 = false := by kernel_rfl

end Go.Proofs.YtibohfipgjljhaaDoor
namespace Go.Proofs.YtibohfipgjljhaaDoor
open Go.RowKit

theorem ct_withinM (n lo hi : Int) (h : lo ≤ n ∧ n ≤ hi) : Ct Tryd.prog 33 [.int .i64 n, .int .i64 lo, .int .i64 hi] [] (isV (.bool true)) := (decide_eq_true h) ▸ ct_shotlinebase_Within n lo hi
end Go.Proofs.YtibohfipgjljhaaDoor
