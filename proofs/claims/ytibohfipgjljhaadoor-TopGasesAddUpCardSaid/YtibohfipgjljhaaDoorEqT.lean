/-
  How structs of whole numbers compare. Conditions: none. Written by a program (wip/tools/tab.py).
-/
import Derived.Test.YtibohfipgjljhaaDoorTab
import Derived.Test.YtibohfipgjljhaaDoorShEq
namespace Go.Proofs.YtibohfipgjljhaaDoor
open Go.RowKit
theorem eq22 : EqT Tryd.prog 2 22 2 := EqT.of tb (l := [(false, 0, 3), (false, 1, 3)]) (by kernel_rfl) (by kernel_rfl) (by kernel_rfl) (.int rfl rfl (.int rfl rfl (.nil _)))
theorem eg22 : Tryd.prog.eqGuardType Tryd.prog.depth 22 = false := by kernel_rfl
theorem eq23 : EqT Tryd.prog 2 23 2 := EqT.of tb (l := [(false, 0, 3), (false, 1, 3)]) (by kernel_rfl) (by kernel_rfl) (by kernel_rfl) (.int rfl rfl (.int rfl rfl (.nil _)))
theorem eg23 : Tryd.prog.eqGuardType Tryd.prog.depth 23 = false := by kernel_rfl
theorem eq24 : EqT Tryd.prog 2 24 2 := EqT.of tb (l := [(false, 0, 3), (false, 1, 3)]) (by kernel_rfl) (by kernel_rfl) (by kernel_rfl) (.int rfl rfl (.int rfl rfl (.nil _)))
theorem eg24 : Tryd.prog.eqGuardType Tryd.prog.depth 24 = false := by kernel_rfl
theorem eq25 : EqT Tryd.prog 2 25 2 := EqT.of tb (l := [(false, 0, 3), (false, 1, 3)]) (by kernel_rfl) (by kernel_rfl) (by kernel_rfl) (.int rfl rfl (.int rfl rfl (.nil _)))
theorem eg25 : Tryd.prog.eqGuardType Tryd.prog.depth 25 = false := by kernel_rfl
theorem eq27 : EqT Tryd.prog 2 27 2 := EqT.of tb (l := [(false, 0, 3), (false, 1, 3)]) (by kernel_rfl) (by kernel_rfl) (by kernel_rfl) (.int rfl rfl (.int rfl rfl (.nil _)))
theorem eg27 : Tryd.prog.eqGuardType Tryd.prog.depth 27 = false := by kernel_rfl
theorem eq28 : EqT Tryd.prog 2 28 2 := EqT.of tb (l := [(false, 0, 3), (false, 1, 3)]) (by kernel_rfl) (by kernel_rfl) (by kernel_rfl) (.int rfl rfl (.int rfl rfl (.nil _)))
theorem eg28 : Tryd.prog.eqGuardType Tryd.prog.depth 28 = false := by kernel_rfl
theorem eq38 : EqT Tryd.prog 3 38 5 := EqT.of tb (l := [(false, 0, 3), (false, 1, 3), (false, 2, 25), (false, 4, 3)]) (by kernel_rfl) (by kernel_rfl) (by kernel_rfl) (.int rfl rfl (.int rfl rfl (.str (EqT.up eq25 0) rfl (.int rfl rfl (.nil _)))))
theorem eg38 : Tryd.prog.eqGuardType Tryd.prog.depth 38 = false := by kernel_rfl
theorem eq39 : EqT Tryd.prog 3 39 5 := EqT.of tb (l := [(false, 0, 3), (false, 1, 3), (false, 2, 25), (false, 4, 3)]) (by kernel_rfl) (by kernel_rfl) (by kernel_rfl) (.int rfl rfl (.int rfl rfl (.str (EqT.up eq25 0) rfl (.int rfl rfl (.nil _)))))
theorem eg39 : Tryd.prog.eqGuardType Tryd.prog.depth 39 = false := by kernel_rfl
theorem eq49 : EqT Tryd.prog 2 49 2 := EqT.of tb (l := [(false, 0, 3), (false, 1, 3)]) (by kernel_rfl) (by kernel_rfl) (by kernel_rfl) (.int rfl rfl (.int rfl rfl (.nil _)))
theorem eg49 : Tryd.prog.eqGuardType Tryd.prog.depth 49 = false := by kernel_rfl
theorem eq50 : EqT Tryd.prog 2 50 2 := EqT.of tb (l := [(false, 0, 3), (false, 1, 3)]) (by kernel_rfl) (by kernel_rfl) (by kernel_rfl) (.int rfl rfl (.int rfl rfl (.nil _)))
theorem eg50 : Tryd.prog.eqGuardType Tryd.prog.depth 50 = false := by kernel_rfl
theorem eq56 : EqT Tryd.prog 3 56 3 := EqT.of tb (l := [(false, 0, 23), (false, 2, 3)]) (by kernel_rfl) (by kernel_rfl) (by kernel_rfl) (.str (EqT.up eq23 0) rfl (.int rfl rfl (.nil _)))
theorem eg56 : Tryd.prog.eqGuardType Tryd.prog.depth 56 = false := by kernel_rfl
theorem eq57 : EqT Tryd.prog 3 57 3 := EqT.of tb (l := [(false, 0, 23), (false, 2, 3)]) (by kernel_rfl) (by kernel_rfl) (by kernel_rfl) (.str (EqT.up eq23 0) rfl (.int rfl rfl (.nil _)))
theorem eg57 : Tryd.prog.eqGuardType Tryd.prog.depth 57 = false := by kernel_rfl
theorem eq68 : EqT Tryd.prog 3 68 5 := EqT.of tb (l := [(false, 0, 23), (false, 2, 3), (false, 3, 25)]) (by kernel_rfl) (by kernel_rfl) (by kernel_rfl) (.str (EqT.up eq23 0) rfl (.int rfl rfl (.str (EqT.up eq25 0) rfl (.nil _))))
theorem eg68 : Tryd.prog.eqGuardType Tryd.prog.depth 68 = false := by kernel_rfl
theorem eq69 : EqT Tryd.prog 3 69 5 := EqT.of tb (l := [(false, 0, 23), (false, 2, 3), (false, 3, 25)]) (by kernel_rfl) (by kernel_rfl) (by kernel_rfl) (.str (EqT.up eq23 0) rfl (.int rfl rfl (.str (EqT.up eq25 0) rfl (.nil _))))
theorem eg69 : Tryd.prog.eqGuardType Tryd.prog.depth 69 = false := by kernel_rfl
theorem eq112 : EqT Tryd.prog 4 112 6 := EqT.of tb (l := [(false, 0, 39), (false, 5, 3)]) (by kernel_rfl) (by kernel_rfl) (by kernel_rfl) (.str (EqT.up eq39 0) rfl (.int rfl rfl (.nil _)))
theorem eg112 : Tryd.prog.eqGuardType Tryd.prog.depth 112 = false := by kernel_rfl
theorem eq113 : EqT Tryd.prog 4 113 6 := EqT.of tb (l := [(false, 0, 39), (false, 5, 3)]) (by kernel_rfl) (by kernel_rfl) (by kernel_rfl) (.str (EqT.up eq39 0) rfl (.int rfl rfl (.nil _)))
theorem eg113 : Tryd.prog.eqGuardType Tryd.prog.depth 113 = false := by kernel_rfl
end Go.Proofs.YtibohfipgjljhaaDoor
