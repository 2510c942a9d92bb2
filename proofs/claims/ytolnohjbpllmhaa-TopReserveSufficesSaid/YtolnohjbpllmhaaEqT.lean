/-
  How structs of whole numbers compare. Conditions: none. Written by a program (wip/tools/tab.py).
-/
import Derived.Test.YtolnohjbpllmhaaTab
import Derived.Test.YtolnohjbpllmhaaShEq
namespace Go.Proofs.Ytolnohjbpllmhaa
open Go.RowKit
theorem eq22 : EqT Try.prog 2 22 2 := EqT.of tb (l := [(false, 0, 3), (false, 1, 3)]) (by kernel_rfl) (by kernel_rfl) (by kernel_rfl) (.int rfl rfl (.int rfl rfl (.nil _)))
theorem eg22 : Try.prog.eqGuardType Try.prog.depth 22 = false := by kernel_rfl
theorem eq23 : EqT Try.prog 2 23 2 := EqT.of tb (l := [(false, 0, 3), (false, 1, 3)]) (by kernel_rfl) (by kernel_rfl) (by kernel_rfl) (.int rfl rfl (.int rfl rfl (.nil _)))
theorem eg23 : Try.prog.eqGuardType Try.prog.depth 23 = false := by kernel_rfl
theorem eq25 : EqT Try.prog 2 25 2 := EqT.of tb (l := [(false, 0, 3), (false, 1, 3)]) (by kernel_rfl) (by kernel_rfl) (by kernel_rfl) (.int rfl rfl (.int rfl rfl (.nil _)))
theorem eg25 : Try.prog.eqGuardType Try.prog.depth 25 = false := by kernel_rfl
theorem eq26 : EqT Try.prog 2 26 2 := EqT.of tb (l := [(false, 0, 3), (false, 1, 3)]) (by kernel_rfl) (by kernel_rfl) (by kernel_rfl) (.int rfl rfl (.int rfl rfl (.nil _)))
theorem eg26 : Try.prog.eqGuardType Try.prog.depth 26 = false := by kernel_rfl
theorem eq31 : EqT Try.prog 2 31 2 := EqT.of tb (l := [(false, 0, 3), (false, 1, 3)]) (by kernel_rfl) (by kernel_rfl) (by kernel_rfl) (.int rfl rfl (.int rfl rfl (.nil _)))
theorem eg31 : Try.prog.eqGuardType Try.prog.depth 31 = false := by kernel_rfl
theorem eq32 : EqT Try.prog 2 32 2 := EqT.of tb (l := [(false, 0, 3), (false, 1, 3)]) (by kernel_rfl) (by kernel_rfl) (by kernel_rfl) (.int rfl rfl (.int rfl rfl (.nil _)))
theorem eg32 : Try.prog.eqGuardType Try.prog.depth 32 = false := by kernel_rfl
theorem eq92 : EqT Try.prog 2 92 2 := EqT.of tb (l := [(false, 0, 3), (false, 1, 3)]) (by kernel_rfl) (by kernel_rfl) (by kernel_rfl) (.int rfl rfl (.int rfl rfl (.nil _)))
theorem eg92 : Try.prog.eqGuardType Try.prog.depth 92 = false := by kernel_rfl
theorem eq93 : EqT Try.prog 2 93 2 := EqT.of tb (l := [(false, 0, 3), (false, 1, 3)]) (by kernel_rfl) (by kernel_rfl) (by kernel_rfl) (.int rfl rfl (.int rfl rfl (.nil _)))
theorem eg93 : Try.prog.eqGuardType Try.prog.depth 93 = false := by kernel_rfl
theorem eq94 : EqT Try.prog 2 94 3 := EqT.of tb (l := [(false, 0, 3), (false, 1, 3), (false, 2, 3)]) (by kernel_rfl) (by kernel_rfl) (by kernel_rfl) (.int rfl rfl (.int rfl rfl (.int rfl rfl (.nil _))))
theorem eg94 : Try.prog.eqGuardType Try.prog.depth 94 = false := by kernel_rfl
theorem eq95 : EqT Try.prog 2 95 3 := EqT.of tb (l := [(false, 0, 3), (false, 1, 3), (false, 2, 3)]) (by kernel_rfl) (by kernel_rfl) (by kernel_rfl) (.int rfl rfl (.int rfl rfl (.int rfl rfl (.nil _))))
theorem eg95 : Try.prog.eqGuardType Try.prog.depth 95 = false := by kernel_rfl
theorem eq108 : EqT Try.prog 2 108 2 := EqT.of tb (l := [(false, 0, 3), (false, 1, 3)]) (by kernel_rfl) (by kernel_rfl) (by kernel_rfl) (.int rfl rfl (.int rfl rfl (.nil _)))
theorem eg108 : Try.prog.eqGuardType Try.prog.depth 108 = false := by kernel_rfl
theorem eq109 : EqT Try.prog 2 109 2 := EqT.of tb (l := [(false, 0, 3), (false, 1, 3)]) (by kernel_rfl) (by kernel_rfl) (by kernel_rfl) (.int rfl rfl (.int rfl rfl (.nil _)))
theorem eg109 : Try.prog.eqGuardType Try.prog.depth 109 = false := by kernel_rfl
theorem eq134 : EqT Try.prog 2 134 3 := EqT.of tb (l := [(false, 0, 3), (false, 1, 3), (false, 2, 3)]) (by kernel_rfl) (by kernel_rfl) (by kernel_rfl) (.int rfl rfl (.int rfl rfl (.int rfl rfl (.nil _))))
theorem eg134 : Try.prog.eqGuardType Try.prog.depth 134 = false := by kernel_rfl
theorem eq135 : EqT Try.prog 2 135 3 := EqT.of tb (l := [(false, 0, 3), (false, 1, 3), (false, 2, 3)]) (by kernel_rfl) (by kernel_rfl) (by kernel_rfl) (.int rfl rfl (.int rfl rfl (.int rfl rfl (.nil _))))
theorem eg135 : Try.prog.eqGuardType Try.prog.depth 135 = false := by kernel_rfl
theorem eq142 : EqT Try.prog 2 142 2 := EqT.of tb (l := [(false, 0, 3), (false, 1, 3)]) (by kernel_rfl) (by kernel_rfl) (by kernel_rfl) (.int rfl rfl (.int rfl rfl (.nil _)))
theorem eg142 : Try.prog.eqGuardType Try.prog.depth 142 = false := by kernel_rfl
theorem eq143 : EqT Try.prog 2 143 2 := EqT.of tb (l := [(false, 0, 3), (false, 1, 3)]) (by kernel_rfl) (by kernel_rfl) (by kernel_rfl) (.int rfl rfl (.int rfl rfl (.nil _)))
theorem eg143 : Try.prog.eqGuardType Try.prog.depth 143 = false := by kernel_rfl
theorem eq148 : EqT Try.prog 3 148 9 := EqT.of tb (l := [(false, 0, 95), (false, 3, 3), (false, 4, 3), (false, 5, 3), (false, 6, 3), (false, 7, 23)]) (by kernel_rfl) (by kernel_rfl) (by kernel_rfl) (.str (EqT.up eq95 0) rfl (.int rfl rfl (.int rfl rfl (.int rfl rfl (.int rfl rfl (.str (EqT.up eq23 0) rfl (.nil _)))))))
theorem eg148 : Try.prog.eqGuardType Try.prog.depth 148 = false := by kernel_rfl
theorem eq149 : EqT Try.prog 3 149 9 := EqT.of tb (l := [(false, 0, 95), (false, 3, 3), (false, 4, 3), (false, 5, 3), (false, 6, 3), (false, 7, 23)]) (by kernel_rfl) (by kernel_rfl) (by kernel_rfl) (.str (EqT.up eq95 0) rfl (.int rfl rfl (.int rfl rfl (.int rfl rfl (.int rfl rfl (.str (EqT.up eq23 0) rfl (.nil _)))))))
theorem eg149 : Try.prog.eqGuardType Try.prog.depth 149 = false := by kernel_rfl
theorem eq164 : EqT Try.prog 2 164 2 := EqT.of tb (l := [(false, 0, 3), (false, 1, 3)]) (by kernel_rfl) (by kernel_rfl) (by kernel_rfl) (.int rfl rfl (.int rfl rfl (.nil _)))
theorem eg164 : Try.prog.eqGuardType Try.prog.depth 164 = false := by kernel_rfl
theorem eq165 : EqT Try.prog 2 165 2 := EqT.of tb (l := [(false, 0, 3), (false, 1, 3)]) (by kernel_rfl) (by kernel_rfl) (by kernel_rfl) (.int rfl rfl (.int rfl rfl (.nil _)))
theorem eg165 : Try.prog.eqGuardType Try.prog.depth 165 = false := by kernel_rfl
theorem eq167 : EqT Try.prog 2 167 2 := EqT.of tb (l := [(false, 0, 3), (false, 1, 3)]) (by kernel_rfl) (by kernel_rfl) (by kernel_rfl) (.int rfl rfl (.int rfl rfl (.nil _)))
theorem eg167 : Try.prog.eqGuardType Try.prog.depth 167 = false := by kernel_rfl
theorem eq168 : EqT Try.prog 2 168 2 := EqT.of tb (l := [(false, 0, 3), (false, 1, 3)]) (by kernel_rfl) (by kernel_rfl) (by kernel_rfl) (.int rfl rfl (.int rfl rfl (.nil _)))
theorem eg168 : Try.prog.eqGuardType Try.prog.depth 168 = false := by kernel_rfl
end Go.Proofs.Ytolnohjbpllmhaa
