/-
  How structs of whole numbers compare. Conditions: none. Written by a program (wip/tools/tab.py).
-/
import Derived.Test.YtfhfadfnbnliiaaTab
import Derived.Test.YtfhfadfnbnliiaaShEq
namespace Go.Proofs.Ytfhfadfnbnliiaa
open Go.RowKit
theorem eq24 : EqT Try.prog 2 24 2 := EqT.of tb (l := [(false, 0, 3), (false, 1, 3)]) (by kernel_rfl) (by kernel_rfl) (by kernel_rfl) (.int rfl rfl (.int rfl rfl (.nil _)))
theorem eg24 : Try.prog.eqGuardType Try.prog.depth 24 = false := by kernel_rfl
theorem eq25 : EqT Try.prog 2 25 2 := EqT.of tb (l := [(false, 0, 3), (false, 1, 3)]) (by kernel_rfl) (by kernel_rfl) (by kernel_rfl) (.int rfl rfl (.int rfl rfl (.nil _)))
theorem eg25 : Try.prog.eqGuardType Try.prog.depth 25 = false := by kernel_rfl
theorem eq26 : EqT Try.prog 3 26 5 := EqT.of tb (l := [(false, 0, 3), (false, 1, 3), (false, 2, 3), (false, 3, 25)]) (by kernel_rfl) (by kernel_rfl) (by kernel_rfl) (.int rfl rfl (.int rfl rfl (.int rfl rfl (.str (EqT.up eq25 0) rfl (.nil _)))))
theorem eg26 : Try.prog.eqGuardType Try.prog.depth 26 = false := by kernel_rfl
theorem eq27 : EqT Try.prog 3 27 5 := EqT.of tb (l := [(false, 0, 3), (false, 1, 3), (false, 2, 3), (false, 3, 25)]) (by kernel_rfl) (by kernel_rfl) (by kernel_rfl) (.int rfl rfl (.int rfl rfl (.int rfl rfl (.str (EqT.up eq25 0) rfl (.nil _)))))
theorem eg27 : Try.prog.eqGuardType Try.prog.depth 27 = false := by kernel_rfl
theorem eq43 : EqT Try.prog 2 43 2 := EqT.of tb (l := [(false, 0, 3), (false, 1, 3)]) (by kernel_rfl) (by kernel_rfl) (by kernel_rfl) (.int rfl rfl (.int rfl rfl (.nil _)))
theorem eg43 : Try.prog.eqGuardType Try.prog.depth 43 = false := by kernel_rfl
theorem eq44 : EqT Try.prog 2 44 2 := EqT.of tb (l := [(false, 0, 3), (false, 1, 3)]) (by kernel_rfl) (by kernel_rfl) (by kernel_rfl) (.int rfl rfl (.int rfl rfl (.nil _)))
theorem eg44 : Try.prog.eqGuardType Try.prog.depth 44 = false := by kernel_rfl
theorem eq61 : EqT Try.prog 3 61 4 := EqT.of tb (l := [(false, 0, 44), (false, 2, 44)]) (by kernel_rfl) (by kernel_rfl) (by kernel_rfl) (.str (EqT.up eq44 0) rfl (.str (EqT.up eq44 0) rfl (.nil _)))
theorem eg61 : Try.prog.eqGuardType Try.prog.depth 61 = false := by kernel_rfl
theorem eq62 : EqT Try.prog 3 62 4 := EqT.of tb (l := [(false, 0, 44), (false, 2, 44)]) (by kernel_rfl) (by kernel_rfl) (by kernel_rfl) (.str (EqT.up eq44 0) rfl (.str (EqT.up eq44 0) rfl (.nil _)))
theorem eg62 : Try.prog.eqGuardType Try.prog.depth 62 = false := by kernel_rfl
theorem eq88 : EqT Try.prog 2 88 4 := EqT.of tb (l := [(false, 0, 3), (false, 1, 3), (false, 2, 3), (false, 3, 3)]) (by kernel_rfl) (by kernel_rfl) (by kernel_rfl) (.int rfl rfl (.int rfl rfl (.int rfl rfl (.int rfl rfl (.nil _)))))
theorem eg88 : Try.prog.eqGuardType Try.prog.depth 88 = false := by kernel_rfl
theorem eq89 : EqT Try.prog 2 89 4 := EqT.of tb (l := [(false, 0, 3), (false, 1, 3), (false, 2, 3), (false, 3, 3)]) (by kernel_rfl) (by kernel_rfl) (by kernel_rfl) (.int rfl rfl (.int rfl rfl (.int rfl rfl (.int rfl rfl (.nil _)))))
theorem eg89 : Try.prog.eqGuardType Try.prog.depth 89 = false := by kernel_rfl
theorem eq131 : EqT Try.prog 3 131 3 := EqT.of tb (l := [(false, 0, 3), (false, 1, 44)]) (by kernel_rfl) (by kernel_rfl) (by kernel_rfl) (.int rfl rfl (.str (EqT.up eq44 0) rfl (.nil _)))
theorem eg131 : Try.prog.eqGuardType Try.prog.depth 131 = false := by kernel_rfl
theorem eq132 : EqT Try.prog 3 132 3 := EqT.of tb (l := [(false, 0, 3), (false, 1, 44)]) (by kernel_rfl) (by kernel_rfl) (by kernel_rfl) (.int rfl rfl (.str (EqT.up eq44 0) rfl (.nil _)))
theorem eg132 : Try.prog.eqGuardType Try.prog.depth 132 = false := by kernel_rfl
theorem eq142 : EqT Try.prog 3 142 5 := EqT.of tb (l := [(false, 0, 3), (false, 1, 3), (false, 2, 3), (false, 3, 25)]) (by kernel_rfl) (by kernel_rfl) (by kernel_rfl) (.int rfl rfl (.int rfl rfl (.int rfl rfl (.str (EqT.up eq25 0) rfl (.nil _)))))
theorem eg142 : Try.prog.eqGuardType Try.prog.depth 142 = false := by kernel_rfl
theorem eq143 : EqT Try.prog 3 143 5 := EqT.of tb (l := [(false, 0, 3), (false, 1, 3), (false, 2, 3), (false, 3, 25)]) (by kernel_rfl) (by kernel_rfl) (by kernel_rfl) (.int rfl rfl (.int rfl rfl (.int rfl rfl (.str (EqT.up eq25 0) rfl (.nil _)))))
theorem eg143 : Try.prog.eqGuardType Try.prog.depth 143 = false := by kernel_rfl
theorem eq147 : EqT Try.prog 2 147 3 := EqT.of tb (l := [(false, 0, 3), (false, 1, 3), (false, 2, 3)]) (by kernel_rfl) (by kernel_rfl) (by kernel_rfl) (.int rfl rfl (.int rfl rfl (.int rfl rfl (.nil _))))
theorem eg147 : Try.prog.eqGuardType Try.prog.depth 147 = false := by kernel_rfl
theorem eq148 : EqT Try.prog 2 148 3 := EqT.of tb (l := [(false, 0, 3), (false, 1, 3), (false, 2, 3)]) (by kernel_rfl) (by kernel_rfl) (by kernel_rfl) (.int rfl rfl (.int rfl rfl (.int rfl rfl (.nil _))))
theorem eg148 : Try.prog.eqGuardType Try.prog.depth 148 = false := by kernel_rfl
theorem eq164 : EqT Try.prog 3 164 3 := EqT.of tb (l := [(false, 0, 3), (false, 1, 44)]) (by kernel_rfl) (by kernel_rfl) (by kernel_rfl) (.int rfl rfl (.str (EqT.up eq44 0) rfl (.nil _)))
theorem eg164 : Try.prog.eqGuardType Try.prog.depth 164 = false := by kernel_rfl
theorem eq165 : EqT Try.prog 3 165 3 := EqT.of tb (l := [(false, 0, 3), (false, 1, 44)]) (by kernel_rfl) (by kernel_rfl) (by kernel_rfl) (.int rfl rfl (.str (EqT.up eq44 0) rfl (.nil _)))
theorem eg165 : Try.prog.eqGuardType Try.prog.depth 165 = false := by kernel_rfl
end Go.Proofs.Ytfhfadfnbnliiaa
