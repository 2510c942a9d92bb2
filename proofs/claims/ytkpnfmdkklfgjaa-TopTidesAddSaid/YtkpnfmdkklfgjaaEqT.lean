/-
  How structs of whole numbers compare. Conditions: none. Written by a program (wip/tools/tab.py).
-/
import Derived.Test.YtkpnfmdkklfgjaaTab
import Derived.Test.YtkpnfmdkklfgjaaShEq
namespace Go.Proofs.Ytkpnfmdkklfgjaa
open Go.RowKit
theorem eq30 : EqT Try.prog 2 30 2 := EqT.of tb (l := [(false, 0, 3), (false, 1, 3)]) (by kernel_rfl) (by kernel_rfl) (by kernel_rfl) (.int rfl rfl (.int rfl rfl (.nil _)))
theorem eg30 : Try.prog.eqGuardType Try.prog.depth 30 = false := by kernel_rfl
theorem eq31 : EqT Try.prog 2 31 2 := EqT.of tb (l := [(false, 0, 3), (false, 1, 3)]) (by kernel_rfl) (by kernel_rfl) (by kernel_rfl) (.int rfl rfl (.int rfl rfl (.nil _)))
theorem eg31 : Try.prog.eqGuardType Try.prog.depth 31 = false := by kernel_rfl
theorem eq35 : EqT Try.prog 2 35 3 := EqT.of tb (l := [(false, 0, 3), (false, 1, 3), (false, 2, 3)]) (by kernel_rfl) (by kernel_rfl) (by kernel_rfl) (.int rfl rfl (.int rfl rfl (.int rfl rfl (.nil _))))
theorem eg35 : Try.prog.eqGuardType Try.prog.depth 35 = false := by kernel_rfl
theorem eq36 : EqT Try.prog 2 36 3 := EqT.of tb (l := [(false, 0, 3), (false, 1, 3), (false, 2, 3)]) (by kernel_rfl) (by kernel_rfl) (by kernel_rfl) (.int rfl rfl (.int rfl rfl (.int rfl rfl (.nil _))))
theorem eg36 : Try.prog.eqGuardType Try.prog.depth 36 = false := by kernel_rfl
theorem eq39 : EqT Try.prog 2 39 2 := EqT.of tb (l := [(false, 0, 3), (false, 1, 3)]) (by kernel_rfl) (by kernel_rfl) (by kernel_rfl) (.int rfl rfl (.int rfl rfl (.nil _)))
theorem eg39 : Try.prog.eqGuardType Try.prog.depth 39 = false := by kernel_rfl
theorem eq40 : EqT Try.prog 2 40 2 := EqT.of tb (l := [(false, 0, 3), (false, 1, 3)]) (by kernel_rfl) (by kernel_rfl) (by kernel_rfl) (.int rfl rfl (.int rfl rfl (.nil _)))
theorem eg40 : Try.prog.eqGuardType Try.prog.depth 40 = false := by kernel_rfl
theorem eq41 : EqT Try.prog 3 41 5 := EqT.of tb (l := [(false, 0, 3), (false, 1, 3), (false, 2, 40), (false, 4, 3)]) (by kernel_rfl) (by kernel_rfl) (by kernel_rfl) (.int rfl rfl (.int rfl rfl (.str (EqT.up eq40 0) rfl (.int rfl rfl (.nil _)))))
theorem eg41 : Try.prog.eqGuardType Try.prog.depth 41 = false := by kernel_rfl
theorem eq42 : EqT Try.prog 3 42 5 := EqT.of tb (l := [(false, 0, 3), (false, 1, 3), (false, 2, 40), (false, 4, 3)]) (by kernel_rfl) (by kernel_rfl) (by kernel_rfl) (.int rfl rfl (.int rfl rfl (.str (EqT.up eq40 0) rfl (.int rfl rfl (.nil _)))))
theorem eg42 : Try.prog.eqGuardType Try.prog.depth 42 = false := by kernel_rfl
theorem eq44 : EqT Try.prog 2 44 2 := EqT.of tb (l := [(false, 0, 3), (false, 1, 3)]) (by kernel_rfl) (by kernel_rfl) (by kernel_rfl) (.int rfl rfl (.int rfl rfl (.nil _)))
theorem eg44 : Try.prog.eqGuardType Try.prog.depth 44 = false := by kernel_rfl
theorem eq45 : EqT Try.prog 2 45 2 := EqT.of tb (l := [(false, 0, 3), (false, 1, 3)]) (by kernel_rfl) (by kernel_rfl) (by kernel_rfl) (.int rfl rfl (.int rfl rfl (.nil _)))
theorem eg45 : Try.prog.eqGuardType Try.prog.depth 45 = false := by kernel_rfl
theorem eq71 : EqT Try.prog 2 71 2 := EqT.of tb (l := [(false, 0, 3), (false, 1, 3)]) (by kernel_rfl) (by kernel_rfl) (by kernel_rfl) (.int rfl rfl (.int rfl rfl (.nil _)))
theorem eg71 : Try.prog.eqGuardType Try.prog.depth 71 = false := by kernel_rfl
theorem eq72 : EqT Try.prog 2 72 2 := EqT.of tb (l := [(false, 0, 3), (false, 1, 3)]) (by kernel_rfl) (by kernel_rfl) (by kernel_rfl) (.int rfl rfl (.int rfl rfl (.nil _)))
theorem eg72 : Try.prog.eqGuardType Try.prog.depth 72 = false := by kernel_rfl
theorem eq80 : EqT Try.prog 2 80 2 := EqT.of tb (l := [(false, 0, 3), (false, 1, 3)]) (by kernel_rfl) (by kernel_rfl) (by kernel_rfl) (.int rfl rfl (.int rfl rfl (.nil _)))
theorem eg80 : Try.prog.eqGuardType Try.prog.depth 80 = false := by kernel_rfl
theorem eq81 : EqT Try.prog 2 81 2 := EqT.of tb (l := [(false, 0, 3), (false, 1, 3)]) (by kernel_rfl) (by kernel_rfl) (by kernel_rfl) (.int rfl rfl (.int rfl rfl (.nil _)))
theorem eg81 : Try.prog.eqGuardType Try.prog.depth 81 = false := by kernel_rfl
theorem eq85 : EqT Try.prog 3 85 3 := EqT.of tb (l := [(false, 0, 45), (false, 2, 3)]) (by kernel_rfl) (by kernel_rfl) (by kernel_rfl) (.str (EqT.up eq45 0) rfl (.int rfl rfl (.nil _)))
theorem eg85 : Try.prog.eqGuardType Try.prog.depth 85 = false := by kernel_rfl
theorem eq86 : EqT Try.prog 3 86 3 := EqT.of tb (l := [(false, 0, 45), (false, 2, 3)]) (by kernel_rfl) (by kernel_rfl) (by kernel_rfl) (.str (EqT.up eq45 0) rfl (.int rfl rfl (.nil _)))
theorem eg86 : Try.prog.eqGuardType Try.prog.depth 86 = false := by kernel_rfl
theorem eq89 : EqT Try.prog 4 89 6 := EqT.of tb (l := [(false, 0, 42), (false, 5, 3)]) (by kernel_rfl) (by kernel_rfl) (by kernel_rfl) (.str (EqT.up eq42 0) rfl (.int rfl rfl (.nil _)))
theorem eg89 : Try.prog.eqGuardType Try.prog.depth 89 = false := by kernel_rfl
theorem eq90 : EqT Try.prog 4 90 6 := EqT.of tb (l := [(false, 0, 42), (false, 5, 3)]) (by kernel_rfl) (by kernel_rfl) (by kernel_rfl) (.str (EqT.up eq42 0) rfl (.int rfl rfl (.nil _)))
theorem eg90 : Try.prog.eqGuardType Try.prog.depth 90 = false := by kernel_rfl
theorem eq109 : EqT Try.prog 2 109 3 := EqT.of tb (l := [(false, 0, 3), (false, 1, 3), (false, 2, 3)]) (by kernel_rfl) (by kernel_rfl) (by kernel_rfl) (.int rfl rfl (.int rfl rfl (.int rfl rfl (.nil _))))
theorem eg109 : Try.prog.eqGuardType Try.prog.depth 109 = false := by kernel_rfl
theorem eq110 : EqT Try.prog 2 110 3 := EqT.of tb (l := [(false, 0, 3), (false, 1, 3), (false, 2, 3)]) (by kernel_rfl) (by kernel_rfl) (by kernel_rfl) (.int rfl rfl (.int rfl rfl (.int rfl rfl (.nil _))))
theorem eg110 : Try.prog.eqGuardType Try.prog.depth 110 = false := by kernel_rfl
theorem eq116 : EqT Try.prog 2 116 2 := EqT.of tb (l := [(false, 0, 3), (false, 1, 3)]) (by kernel_rfl) (by kernel_rfl) (by kernel_rfl) (.int rfl rfl (.int rfl rfl (.nil _)))
theorem eg116 : Try.prog.eqGuardType Try.prog.depth 116 = false := by kernel_rfl
theorem eq117 : EqT Try.prog 2 117 2 := EqT.of tb (l := [(false, 0, 3), (false, 1, 3)]) (by kernel_rfl) (by kernel_rfl) (by kernel_rfl) (.int rfl rfl (.int rfl rfl (.nil _)))
theorem eg117 : Try.prog.eqGuardType Try.prog.depth 117 = false := by kernel_rfl
theorem eq151 : EqT Try.prog 3 151 4 := EqT.of tb (l := [(false, 0, 31), (false, 2, 31)]) (by kernel_rfl) (by kernel_rfl) (by kernel_rfl) (.str (EqT.up eq31 0) rfl (.str (EqT.up eq31 0) rfl (.nil _)))
theorem eg151 : Try.prog.eqGuardType Try.prog.depth 151 = false := by kernel_rfl
theorem eq152 : EqT Try.prog 3 152 4 := EqT.of tb (l := [(false, 0, 31), (false, 2, 31)]) (by kernel_rfl) (by kernel_rfl) (by kernel_rfl) (.str (EqT.up eq31 0) rfl (.str (EqT.up eq31 0) rfl (.nil _)))
theorem eg152 : Try.prog.eqGuardType Try.prog.depth 152 = false := by kernel_rfl
end Go.Proofs.Ytkpnfmdkklfgjaa
