/-
  How structs of whole numbers compare. Conditions: none. Written by a program (wip/tools/tab.py).
-/
import Derived.Test.YtecfnhgbgngpiaaTab
import Derived.Test.YtecfnhgbgngpiaaShEq
namespace Go.Proofs.Ytecfnhgbgngpiaa
open Go.RowKit
theorem eq24 : EqT Try.prog 2 24 2 := EqT.of tb (l := [(false, 0, 3), (false, 1, 3)]) (by kernel_rfl) (by kernel_rfl) (by kernel_rfl) (.int rfl rfl (.int rfl rfl (.nil _)))
theorem eg24 : Try.prog.eqGuardType Try.prog.depth 24 = false := by kernel_rfl
theorem eq25 : EqT Try.prog 2 25 2 := EqT.of tb (l := [(false, 0, 3), (false, 1, 3)]) (by kernel_rfl) (by kernel_rfl) (by kernel_rfl) (.int rfl rfl (.int rfl rfl (.nil _)))
theorem eg25 : Try.prog.eqGuardType Try.prog.depth 25 = false := by kernel_rfl
theorem eq26 : EqT Try.prog 3 26 5 := EqT.of tb (l := [(false, 0, 3), (false, 1, 3), (false, 2, 3), (false, 3, 25)]) (by kernel_rfl) (by kernel_rfl) (by kernel_rfl) (.int rfl rfl (.int rfl rfl (.int rfl rfl (.str (EqT.up eq25 0) rfl (.nil _)))))
theorem eg26 : Try.prog.eqGuardType Try.prog.depth 26 = false := by kernel_rfl
theorem eq27 : EqT Try.prog 3 27 5 := EqT.of tb (l := [(false, 0, 3), (false, 1, 3), (false, 2, 3), (false, 3, 25)]) (by kernel_rfl) (by kernel_rfl) (by kernel_rfl) (.int rfl rfl (.int rfl rfl (.int rfl rfl (.str (EqT.up eq25 0) rfl (.nil _)))))
theorem eg27 : Try.prog.eqGuardType Try.prog.depth 27 = false := by kernel_rfl
theorem eq47 : EqT Try.prog 2 47 2 := EqT.of tb (l := [(false, 0, 3), (false, 1, 3)]) (by kernel_rfl) (by kernel_rfl) (by kernel_rfl) (.int rfl rfl (.int rfl rfl (.nil _)))
theorem eg47 : Try.prog.eqGuardType Try.prog.depth 47 = false := by kernel_rfl
theorem eq48 : EqT Try.prog 2 48 2 := EqT.of tb (l := [(false, 0, 3), (false, 1, 3)]) (by kernel_rfl) (by kernel_rfl) (by kernel_rfl) (.int rfl rfl (.int rfl rfl (.nil _)))
theorem eg48 : Try.prog.eqGuardType Try.prog.depth 48 = false := by kernel_rfl
theorem eq55 : EqT Try.prog 3 55 4 := EqT.of tb (l := [(false, 0, 48), (false, 2, 48)]) (by kernel_rfl) (by kernel_rfl) (by kernel_rfl) (.str (EqT.up eq48 0) rfl (.str (EqT.up eq48 0) rfl (.nil _)))
theorem eg55 : Try.prog.eqGuardType Try.prog.depth 55 = false := by kernel_rfl
theorem eq56 : EqT Try.prog 3 56 4 := EqT.of tb (l := [(false, 0, 48), (false, 2, 48)]) (by kernel_rfl) (by kernel_rfl) (by kernel_rfl) (.str (EqT.up eq48 0) rfl (.str (EqT.up eq48 0) rfl (.nil _)))
theorem eg56 : Try.prog.eqGuardType Try.prog.depth 56 = false := by kernel_rfl
theorem eq69 : EqT Try.prog 3 69 3 := EqT.of tb (l := [(false, 0, 3), (false, 1, 48)]) (by kernel_rfl) (by kernel_rfl) (by kernel_rfl) (.int rfl rfl (.str (EqT.up eq48 0) rfl (.nil _)))
theorem eg69 : Try.prog.eqGuardType Try.prog.depth 69 = false := by kernel_rfl
theorem eq70 : EqT Try.prog 3 70 3 := EqT.of tb (l := [(false, 0, 3), (false, 1, 48)]) (by kernel_rfl) (by kernel_rfl) (by kernel_rfl) (.int rfl rfl (.str (EqT.up eq48 0) rfl (.nil _)))
theorem eg70 : Try.prog.eqGuardType Try.prog.depth 70 = false := by kernel_rfl
theorem eq74 : EqT Try.prog 2 74 4 := EqT.of tb (l := [(false, 0, 3), (false, 1, 3), (false, 2, 3), (false, 3, 3)]) (by kernel_rfl) (by kernel_rfl) (by kernel_rfl) (.int rfl rfl (.int rfl rfl (.int rfl rfl (.int rfl rfl (.nil _)))))
theorem eg74 : Try.prog.eqGuardType Try.prog.depth 74 = false := by kernel_rfl
theorem eq75 : EqT Try.prog 2 75 4 := EqT.of tb (l := [(false, 0, 3), (false, 1, 3), (false, 2, 3), (false, 3, 3)]) (by kernel_rfl) (by kernel_rfl) (by kernel_rfl) (.int rfl rfl (.int rfl rfl (.int rfl rfl (.int rfl rfl (.nil _)))))
theorem eg75 : Try.prog.eqGuardType Try.prog.depth 75 = false := by kernel_rfl
theorem eq84 : EqT Try.prog 3 84 3 := EqT.of tb (l := [(false, 0, 3), (false, 1, 48)]) (by kernel_rfl) (by kernel_rfl) (by kernel_rfl) (.int rfl rfl (.str (EqT.up eq48 0) rfl (.nil _)))
theorem eg84 : Try.prog.eqGuardType Try.prog.depth 84 = false := by kernel_rfl
theorem eq85 : EqT Try.prog 3 85 3 := EqT.of tb (l := [(false, 0, 3), (false, 1, 48)]) (by kernel_rfl) (by kernel_rfl) (by kernel_rfl) (.int rfl rfl (.str (EqT.up eq48 0) rfl (.nil _)))
theorem eg85 : Try.prog.eqGuardType Try.prog.depth 85 = false := by kernel_rfl
theorem eq101 : EqT Try.prog 3 101 5 := EqT.of tb (l := [(false, 0, 3), (false, 1, 3), (false, 2, 3), (false, 3, 25)]) (by kernel_rfl) (by kernel_rfl) (by kernel_rfl) (.int rfl rfl (.int rfl rfl (.int rfl rfl (.str (EqT.up eq25 0) rfl (.nil _)))))
theorem eg101 : Try.prog.eqGuardType Try.prog.depth 101 = false := by kernel_rfl
theorem eq102 : EqT Try.prog 3 102 5 := EqT.of tb (l := [(false, 0, 3), (false, 1, 3), (false, 2, 3), (false, 3, 25)]) (by kernel_rfl) (by kernel_rfl) (by kernel_rfl) (.int rfl rfl (.int rfl rfl (.int rfl rfl (.str (EqT.up eq25 0) rfl (.nil _)))))
theorem eg102 : Try.prog.eqGuardType Try.prog.depth 102 = false := by kernel_rfl
end Go.Proofs.Ytecfnhgbgngpiaa
