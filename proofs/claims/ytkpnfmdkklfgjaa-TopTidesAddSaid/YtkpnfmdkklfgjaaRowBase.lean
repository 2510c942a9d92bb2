/-
  What all rows of this seat share: the program keeps no knob of its own, its types are laid out; the structs of whole numbers. Conditions: none.
-/
import Derived.Test.YtkpnfmdkklfgjaaArgP
import Derived.Test.YtkpnfmdkklfgjaaRows
namespace Go.Proofs.Ytkpnfmdkklfgjaa
open Go.ChangeShapes Go.WideShapes Go.ChangeAt Go.RowKit

theorem own0 : ownKnob Try.prog.godebug = none := by kernel_rfl
theorem laid0 : laidOutB Try.prog = true := by kernel_rfl
theorem fc24 : fsC Try.prog 24 = some [(0, 1, 3), (1, 1, 22)] := by kernel_rfl
theorem fc31 : fsC Try.prog 31 = some [(0, 1, 3), (1, 1, 3)] := by kernel_rfl
theorem fc36 : fsC Try.prog 36 = some [(0, 1, 3), (1, 1, 3), (2, 1, 3)] := by kernel_rfl
theorem fc40 : fsC Try.prog 40 = some [(0, 1, 3), (1, 1, 3)] := by kernel_rfl
theorem fc42 : fsC Try.prog 42 = some [(0, 1, 3), (1, 1, 3), (2, 2, 40), (4, 1, 3)] := by kernel_rfl
theorem fc45 : fsC Try.prog 45 = some [(0, 1, 3), (1, 1, 3)] := by kernel_rfl
theorem fc58 : fsC Try.prog 58 = some [(0, 1, 9), (1, 1, 3), (2, 1, 53), (3, 1, 56)] := by kernel_rfl
theorem fc110 : fsC Try.prog 110 = some [(0, 1, 3), (1, 1, 3), (2, 1, 3)] := by kernel_rfl
theorem it31 : IT Try.prog 31 2 := it_struct fc31 (by kernel_rfl) (.cons (it_int Try.underlying3) (.cons (it_int Try.underlying3) (ITF.nil _)))
theorem it45 : IT Try.prog 45 2 := it_struct fc45 (by kernel_rfl) (.cons (it_int Try.underlying3) (.cons (it_int Try.underlying3) (ITF.nil _)))
theorem it110 : IT Try.prog 110 3 := it_struct fc110 (by kernel_rfl) (.cons (it_int Try.underlying3) (.cons (it_int Try.underlying3) (.cons (it_int Try.underlying3) (ITF.nil _))))
theorem it40 : IT Try.prog 40 2 := it_struct fc40 (by kernel_rfl) (.cons (it_int Try.underlying3) (.cons (it_int Try.underlying3) (ITF.nil _)))
theorem it42 : IT Try.prog 42 5 := it_struct fc42 (by kernel_rfl) (.cons (it_int Try.underlying3) (.cons (it_int Try.underlying3) (.cons it40 (.cons (it_int Try.underlying3) (ITF.nil _)))))
theorem it36 : IT Try.prog 36 3 := it_struct fc36 (by kernel_rfl) (.cons (it_int Try.underlying3) (.cons (it_int Try.underlying3) (.cons (it_int Try.underlying3) (ITF.nil _))))
set_option maxRecDepth 100000 in
/-- What the head of the program says: one look at it serves all rows. -/
theorem head0 : (Try.pinned.checked.prog.mayEnter && (Rows.topTidesAddRow.lifted == Try.pinned.checked.prog.liftsFinal) && (Try.pinned.checked.prog.make == some Rows.topTidesAddRow.make)) = true := by kernel_rfl
theorem enter0 : Try.pinned.checked.prog.mayEnter = true := by
  have h := head0
  simp only [Bool.and_eq_true] at h
  exact h.1.1
theorem lifted0 : (Rows.topTidesAddRow.lifted == Try.pinned.checked.prog.liftsFinal) = true := by
  have h := head0
  simp only [Bool.and_eq_true] at h
  exact h.1.2
theorem make0 : (Try.pinned.checked.prog.make == some Rows.topTidesAddRow.make) = true := by
  have h := head0
  simp only [Bool.and_eq_true] at h
  exact h.2
end Go.Proofs.Ytkpnfmdkklfgjaa
