/-
  What all rows of this seat share: the program keeps no knob of its own, its types are laid out; the structs of whole numbers. Conditions: none.
-/
import Derived.Test.YtecfnhgbgngpiaaArg
import Derived.Test.YtecfnhgbgngpiaaRows
namespace Go.Proofs.Ytecfnhgbgngpiaa
open Go.ChangeShapes Go.WideShapes Go.ChangeAt Go.RowKit

theorem own0 : ownKnob Try.prog.godebug = none := by kernel_rfl
theorem laid0 : laidOutB Try.prog = true := by kernel_rfl
theorem fc25 : fsC Try.prog 25 = some [(0, 1, 3), (1, 1, 3)] := by kernel_rfl
theorem fc27 : fsC Try.prog 27 = some [(0, 1, 3), (1, 1, 3), (2, 1, 3), (3, 2, 25)] := by kernel_rfl
theorem fc29 : fsC Try.prog 29 = some [(0, 1, 22), (1, 1, 23), (2, 5, 27), (7, 1, 3)] := by kernel_rfl
theorem fc48 : fsC Try.prog 48 = some [(0, 1, 3), (1, 1, 3)] := by kernel_rfl
theorem fc56 : fsC Try.prog 56 = some [(0, 2, 48), (2, 2, 48)] := by kernel_rfl
theorem fc75 : fsC Try.prog 75 = some [(0, 1, 3), (1, 1, 3), (2, 1, 3), (3, 1, 3)] := by kernel_rfl
theorem it48 : IT Try.prog 48 2 := it_struct fc48 (by kernel_rfl) (.cons (it_int Try.underlying3) (.cons (it_int Try.underlying3) (ITF.nil _)))
theorem it56 : IT Try.prog 56 4 := it_struct fc56 (by kernel_rfl) (.cons it48 (.cons it48 (ITF.nil _)))
theorem it75 : IT Try.prog 75 4 := it_struct fc75 (by kernel_rfl) (.cons (it_int Try.underlying3) (.cons (it_int Try.underlying3) (.cons (it_int Try.underlying3) (.cons (it_int Try.underlying3) (ITF.nil _)))))
theorem it25 : IT Try.prog 25 2 := it_struct fc25 (by kernel_rfl) (.cons (it_int Try.underlying3) (.cons (it_int Try.underlying3) (ITF.nil _)))
theorem it27 : IT Try.prog 27 5 := it_struct fc27 (by kernel_rfl) (.cons (it_int Try.underlying3) (.cons (it_int Try.underlying3) (.cons (it_int Try.underlying3) (.cons it25 (ITF.nil _)))))
set_option maxRecDepth 100000 in
/-- What the head of the program says: one look at it serves all rows. -/
theorem head0 : (Try.pinned.checked.prog.mayEnter && (Rows.tissueFollowsRow.lifted == Try.pinned.checked.prog.liftsFinal) && (Try.pinned.checked.prog.make == some Rows.tissueFollowsRow.make)) = true := by kernel_rfl
theorem enter0 : Try.pinned.checked.prog.mayEnter = true := by
  have h := head0
  simp only [Bool.and_eq_true] at h
  exact h.1.1
theorem lifted0 : (Rows.tissueFollowsRow.lifted == Try.pinned.checked.prog.liftsFinal) = true := by
  have h := head0
  simp only [Bool.and_eq_true] at h
  exact h.1.2
theorem make0 : (Try.pinned.checked.prog.make == some Rows.tissueFollowsRow.make) = true := by
  have h := head0
  simp only [Bool.and_eq_true] at h
  exact h.2
end Go.Proofs.Ytecfnhgbgngpiaa
