/-
  How structs of whole numbers compare. Conditions: none. Written by a program (wip/tools/tab.py).
-/
import Derived.Test.YtdmnejfpbbmcaaaTab
import Derived.Test.YtdmnejfpbbmcaaaShEq
namespace Go.Proofs.Ytdmnejfpbbmcaaa
open Go.RowKit
theorem eq38 : EqT Try.prog 2 38 2 := EqT.of tb (l := [(false, 0, 3), (false, 1, 3)]) (by kernel_rfl) (by kernel_rfl) (by kernel_rfl) (.int rfl rfl (.int rfl rfl (.nil _)))
theorem eg38 : Try.prog.eqGuardType Try.prog.depth 38 = false := by kernel_rfl
theorem eq80 : EqT Try.prog 2 80 2 := EqT.of tb (l := [(false, 0, 3), (false, 1, 3)]) (by kernel_rfl) (by kernel_rfl) (by kernel_rfl) (.int rfl rfl (.int rfl rfl (.nil _)))
theorem eg80 : Try.prog.eqGuardType Try.prog.depth 80 = false := by kernel_rfl
end Go.Proofs.Ytdmnejfpbbmcaaa
