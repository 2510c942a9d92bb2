/-
  What all rows of this seat share: the program keeps no knob of its own, its types are laid out; the structs of whole numbers. Conditions: none.
-/
import Derived.Test.YtolnohjbpllmhaaArgP
import Derived.Test.YtolnohjbpllmhaaRows
namespace Go.Proofs.Ytolnohjbpllmhaa
open Go.ChangeShapes Go.WideShapes Go.ChangeAt Go.RowKit

theorem own0 : ownKnob Try.prog.godebug = none := by kernel_rfl
theorem laid0 : laidOutB Try.prog = true := by kernel_rfl
theorem fc23 : fsC Try.prog 23 = some [(0, 1, 3), (1, 1, 3)] := by kernel_rfl
theorem fc26 : fsC Try.prog 26 = some [(0, 1, 3), (1, 1, 3)] := by kernel_rfl
theorem fc28 : fsC Try.prog 28 = some [(0, 1, 24), (1, 2, 26), (3, 1, 3), (4, 1, 3), (5, 1, 3), (6, 1, 3), (7, 1, 3), (8, 1, 3)] := by kernel_rfl
theorem fc32 : fsC Try.prog 32 = some [(0, 1, 3), (1, 1, 3)] := by kernel_rfl
theorem fc44 : fsC Try.prog 44 = some [(0, 1, 9), (1, 1, 3), (2, 1, 41), (3, 1, 42)] := by kernel_rfl
theorem fc95 : fsC Try.prog 95 = some [(0, 1, 3), (1, 1, 3), (2, 1, 3)] := by kernel_rfl
theorem fc143 : fsC Try.prog 143 = some [(0, 1, 3), (1, 1, 3)] := by kernel_rfl
theorem it32 : IT Try.prog 32 2 := it_struct fc32 (by kernel_rfl) (.cons (it_int Try.underlying3) (.cons (it_int Try.underlying3) (ITF.nil _)))
theorem it23 : IT Try.prog 23 2 := it_struct fc23 (by kernel_rfl) (.cons (it_int Try.underlying3) (.cons (it_int Try.underlying3) (ITF.nil _)))
theorem it95 : IT Try.prog 95 3 := it_struct fc95 (by kernel_rfl) (.cons (it_int Try.underlying3) (.cons (it_int Try.underlying3) (.cons (it_int Try.underlying3) (ITF.nil _))))
theorem it143 : IT Try.prog 143 2 := it_struct fc143 (by kernel_rfl) (.cons (it_int Try.underlying3) (.cons (it_int Try.underlying3) (ITF.nil _)))
theorem it26 : IT Try.prog 26 2 := it_struct fc26 (by kernel_rfl) (.cons (it_int Try.underlying3) (.cons (it_int Try.underlying3) (ITF.nil _)))
set_option maxRecDepth 100000 in
/-- What the head of the program says: one look at it serves all rows. -/
theorem head0 : (Try.pinned.checked.prog.mayEnter && (Rows.exposureDepthsRow.lifted == Try.pinned.checked.prog.liftsFinal) && (Try.pinned.checked.prog.make == some Rows.exposureDepthsRow.make)) = true := by kernel_rfl
theorem enter0 : Try.pinned.checked.prog.mayEnter = true := by
  have h := head0
  simp only [Bool.and_eq_true] at h
  exact h.1.1
theorem lifted0 : (Rows.exposureDepthsRow.lifted == Try.pinned.checked.prog.liftsFinal) = true := by
  have h := head0
  simp only [Bool.and_eq_true] at h
  exact h.1.2
theorem make0 : (Try.pinned.checked.prog.make == some Rows.exposureDepthsRow.make) = true := by
  have h := head0
  simp only [Bool.and_eq_true] at h
  exact h.2
end Go.Proofs.Ytolnohjbpllmhaa
