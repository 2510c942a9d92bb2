/-
  What all rows of this seat share: the program keeps no knob of its own, its types are laid out; the structs of whole numbers. Conditions: none.
-/
import Derived.Test.YtfhfadfnbnliiaaArg
import Derived.Test.YtfhfadfnbnliiaaRows
namespace Go.Proofs.Ytfhfadfnbnliiaa
open Go.ChangeShapes Go.WideShapes Go.ChangeAt Go.RowKit

theorem own0 : ownKnob Try.prog.godebug = none := by kernel_rfl
theorem laid0 : laidOutB Try.prog = true := by kernel_rfl
theorem fc25 : fsC Try.prog 25 = some [(0, 1, 3), (1, 1, 3)] := by kernel_rfl
theorem fc27 : fsC Try.prog 27 = some [(0, 1, 3), (1, 1, 3), (2, 1, 3), (3, 2, 25)] := by kernel_rfl
theorem fc29 : fsC Try.prog 29 = some [(0, 1, 22), (1, 1, 23), (2, 5, 27), (7, 1, 3)] := by kernel_rfl
theorem fc44 : fsC Try.prog 44 = some [(0, 1, 3), (1, 1, 3)] := by kernel_rfl
theorem fc62 : fsC Try.prog 62 = some [(0, 2, 44), (2, 2, 44)] := by kernel_rfl
theorem fc76 : fsC Try.prog 76 = some [(0, 1, 9), (1, 1, 3), (2, 1, 73), (3, 1, 74)] := by kernel_rfl
theorem fc89 : fsC Try.prog 89 = some [(0, 1, 3), (1, 1, 3), (2, 1, 3), (3, 1, 3)] := by kernel_rfl
theorem fc101 : fsC Try.prog 101 = some [(0, 1, 22), (1, 1, 23), (2, 5, 27), (7, 1, 3)] := by kernel_rfl
theorem fc148 : fsC Try.prog 148 = some [(0, 1, 3), (1, 1, 3), (2, 1, 3)] := by kernel_rfl
theorem it44 : IT Try.prog 44 2 := it_struct fc44 (by kernel_rfl) (.cons (it_int Try.underlying3) (.cons (it_int Try.underlying3) (ITF.nil _)))
theorem it62 : IT Try.prog 62 4 := it_struct fc62 (by kernel_rfl) (.cons it44 (.cons it44 (ITF.nil _)))
theorem it89 : IT Try.prog 89 4 := it_struct fc89 (by kernel_rfl) (.cons (it_int Try.underlying3) (.cons (it_int Try.underlying3) (.cons (it_int Try.underlying3) (.cons (it_int Try.underlying3) (ITF.nil _)))))
theorem it25 : IT Try.prog 25 2 := it_struct fc25 (by kernel_rfl) (.cons (it_int Try.underlying3) (.cons (it_int Try.underlying3) (ITF.nil _)))
theorem it27 : IT Try.prog 27 5 := it_struct fc27 (by kernel_rfl) (.cons (it_int Try.underlying3) (.cons (it_int Try.underlying3) (.cons (it_int Try.underlying3) (.cons it25 (ITF.nil _)))))
theorem it148 : IT Try.prog 148 3 := it_struct fc148 (by kernel_rfl) (.cons (it_int Try.underlying3) (.cons (it_int Try.underlying3) (.cons (it_int Try.underlying3) (ITF.nil _))))
end Go.Proofs.Ytfhfadfnbnliiaa
