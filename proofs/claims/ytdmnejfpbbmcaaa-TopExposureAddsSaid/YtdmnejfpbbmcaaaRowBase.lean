/-
  What all rows of this seat share: the program keeps no knob of its own, its types are laid out; the structs of whole numbers. Conditions: none.
-/
import Derived.Test.YtdmnejfpbbmcaaaArgP
import Derived.Test.YtdmnejfpbbmcaaaRows
namespace Go.Proofs.Ytdmnejfpbbmcaaa
open Go.ChangeShapes Go.WideShapes Go.ChangeAt Go.RowKit

theorem own0 : ownKnob Try.prog.godebug = none := by kernel_rfl
theorem laid0 : laidOutB Try.prog = true := by kernel_rfl
theorem fc25 : fsC Try.prog 25 = some [(0, 1, 9), (1, 1, 3), (2, 1, 22), (3, 1, 23)] := by kernel_rfl
theorem fc51 : fsC Try.prog 51 = some [(0, 1, 3), (1, 1, 3)] := by kernel_rfl
theorem fc53 : fsC Try.prog 53 = some [(0, 1, 49), (1, 2, 51), (3, 1, 3), (4, 1, 3), (5, 1, 3), (6, 1, 3), (7, 1, 3), (8, 1, 3)] := by kernel_rfl
theorem fc80 : fsC Try.prog 80 = some [(0, 1, 3), (1, 1, 3)] := by kernel_rfl
theorem fc82 : fsC Try.prog 82 = some [(0, 1, 3), (1, 1, 3), (2, 1, 3)] := by kernel_rfl
theorem fc127 : fsC Try.prog 127 = some [(0, 1, 3), (1, 1, 3)] := by kernel_rfl
theorem it80 : IT Try.prog 80 2 := it_struct fc80 (by kernel_rfl) (.cons (it_int Try.underlying3) (.cons (it_int Try.underlying3) (ITF.nil _)))
theorem it82 : IT Try.prog 82 3 := it_struct fc82 (by kernel_rfl) (.cons (it_int Try.underlying3) (.cons (it_int Try.underlying3) (.cons (it_int Try.underlying3) (ITF.nil _))))
theorem it127 : IT Try.prog 127 2 := it_struct fc127 (by kernel_rfl) (.cons (it_int Try.underlying3) (.cons (it_int Try.underlying3) (ITF.nil _)))
theorem it51 : IT Try.prog 51 2 := it_struct fc51 (by kernel_rfl) (.cons (it_int Try.underlying3) (.cons (it_int Try.underlying3) (ITF.nil _)))
set_option maxRecDepth 100000 in
theorem head0 : (Try.pinned.checked.prog.mayEnter && (Rows.topPlansAsProfilesRow.lifted == Try.pinned.checked.prog.liftsFinal) && (Try.pinned.checked.prog.make == some Rows.topPlansAsProfilesRow.make)) = true := by kernel_rfl
theorem enter0 : Try.pinned.checked.prog.mayEnter = true := by
  have h := head0
  simp only [Bool.and_eq_true] at h
  exact h.1.1
theorem lifted0 : (Rows.topPlansAsProfilesRow.lifted == Try.pinned.checked.prog.liftsFinal) = true := by
  have h := head0
  simp only [Bool.and_eq_true] at h
  exact h.1.2
theorem make0 : (Try.pinned.checked.prog.make == some Rows.topPlansAsProfilesRow.make) = true := by
  have h := head0
  simp only [Bool.and_eq_true] at h
  exact h.2
end Go.Proofs.Ytdmnejfpbbmcaaa
