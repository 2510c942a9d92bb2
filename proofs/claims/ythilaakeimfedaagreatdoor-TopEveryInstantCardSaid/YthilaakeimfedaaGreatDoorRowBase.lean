/-
  What all rows of this seat share: the program keeps no knob of its own, its types are laid out; the structs of whole numbers. Conditions: none.
-/
import Derived.Test.YthilaakeimfedaaGreatDoorCards
import Derived.Test.YthilaakeimfedaaGreatDoorTie
import Derived.Test.YthilaakeimfedaaGreatDoorShItV
import Derived.Stop.Joined
import Derived.LaidMore
import Derived.SevenTiedAt
import Derived.Handed
import Derived.Test.YthilaakeimfedaaGreatDoorArgB
import Derived.Test.YthilaakeimfedaaGreatDoorRows
namespace Go.Proofs.YthilaakeimfedaaGreatDoor
open Go.ChangeShapes Go.WideShapes Go.ChangeAt Go.RowKit

theorem own0 : ownKnob Tryz.prog.godebug = none := by kernel_rfl
theorem laid0 : laidOutB Tryz.prog = true := by kernel_rfl
theorem fc26 : fsC Tryz.prog 26 = some [(0, 1, 3), (1, 1, 3), (2, 1, 3), (3, 1, 3), (4, 1, 3), (5, 1, 3), (6, 1, 3)] := by kernel_rfl
theorem fc28 : fsC Tryz.prog 28 = some [(0, 1, 22), (1, 1, 23), (2, 1, 3), (3, 1, 3), (4, 1, 24), (5, 7, 26)] := by kernel_rfl
theorem fc51 : fsC Tryz.prog 51 = some [(0, 1, 3), (1, 1, 3), (2, 1, 3)] := by kernel_rfl
theorem fc53 : fsC Tryz.prog 53 = some [(0, 1, 3), (1, 1, 3)] := by kernel_rfl
theorem fc66 : fsC Tryz.prog 66 = some [(0, 1, 3), (1, 1, 3), (2, 1, 3), (3, 1, 3)] := by kernel_rfl
theorem fc118 : fsC Tryz.prog 118 = some [(0, 1, 9), (1, 1, 3), (2, 1, 116), (3, 1, 71)] := by kernel_rfl
theorem fc137 : fsC Tryz.prog 137 = some [(0, 1, 3), (1, 1, 3)] := by kernel_rfl
theorem fc139 : fsC Tryz.prog 139 = some [(0, 2, 137), (2, 2, 137)] := by kernel_rfl
theorem fc144 : fsC Tryz.prog 144 = some [(0, 2, 53), (2, 1, 3)] := by kernel_rfl
theorem it137 : IT Tryz.prog 137 2 := it_struct fc137 (by kernel_rfl) (.cons (it_int Tryz.underlying3) (.cons (it_int Tryz.underlying3) (ITF.nil _)))
theorem it139 : IT Tryz.prog 139 4 := it_struct fc139 (by kernel_rfl) (.cons it137 (.cons it137 (ITF.nil _)))
theorem it66 : IT Tryz.prog 66 4 := it_struct fc66 (by kernel_rfl) (.cons (it_int Tryz.underlying3) (.cons (it_int Tryz.underlying3) (.cons (it_int Tryz.underlying3) (.cons (it_int Tryz.underlying3) (ITF.nil _)))))
theorem it53 : IT Tryz.prog 53 2 := it_struct fc53 (by kernel_rfl) (.cons (it_int Tryz.underlying3) (.cons (it_int Tryz.underlying3) (ITF.nil _)))
theorem it51 : IT Tryz.prog 51 3 := it_struct fc51 (by kernel_rfl) (.cons (it_int Tryz.underlying3) (.cons (it_int Tryz.underlying3) (.cons (it_int Tryz.underlying3) (ITF.nil _))))
theorem it144 : IT Tryz.prog 144 3 := it_struct fc144 (by kernel_rfl) (.cons it53 (.cons (it_int Tryz.underlying3) (ITF.nil _)))
theorem it26 : IT Tryz.prog 26 7 := it_struct fc26 (by kernel_rfl) (.cons (it_int Tryz.underlying3) (.cons (it_int Tryz.underlying3) (.cons (it_int Tryz.underlying3) (.cons (it_int Tryz.underlying3) (.cons (it_int Tryz.underlying3) (.cons (it_int Tryz.underlying3) (.cons (it_int Tryz.underlying3) (ITF.nil _))))))))
set_option maxRecDepth 100000 in
theorem head0 : (Tryz.pinned.checked.prog.mayEnter && (Rows.ascentStaysRow.lifted == Tryz.pinned.checked.prog.liftsFinal) && (Tryz.pinned.checked.prog.make == some Rows.ascentStaysRow.make)) = true := by kernel_rfl
theorem enter0 : Tryz.pinned.checked.prog.mayEnter = true := by
  have h := head0
  simp only [Bool.and_eq_true] at h
  exact h.1.1
theorem lifted0 : (Rows.ascentStaysRow.lifted == Tryz.pinned.checked.prog.liftsFinal) = true := by
  have h := head0
  simp only [Bool.and_eq_true] at h
  exact h.1.2
theorem make0 : (Tryz.pinned.checked.prog.make == some Rows.ascentStaysRow.make) = true := by
  have h := head0
  simp only [Bool.and_eq_true] at h
  exact h.2
set_option maxRecDepth 100000 in
theorem of_laid {W : World} (h : laidMetH Tryz.prog Rows.ascentStaysRow.laid W) : Lib.TabIs Tryz.prog W (Rows.ascentStaysRow.laid.getD 2 (default, .nil)).1 .u64 Lib.pow10Tab := by
  rw [MakeChecks.laidMetH_plain _ _ _ (by kernel_rfl)] at h
  obtain ⟨ps, hl, _⟩ := h
  obtain ⟨g, t, cs, fuel, p, hg, ht, hv, hd⟩ := laid_mem hl (i := 2) (n := (Rows.ascentStaysRow.laid.getD 2 (default, .nil)).1) (d := Lib.tabData .u64 Lib.pow10Tab) rfl
  obtain rfl := Option.some.inj ((show Tryz.prog.globalNamed (Rows.ascentStaysRow.laid.getD 2 (default, .nil)).1 = some 3 by kernel_rfl).symm.trans hg)
  obtain rfl := Option.some.inj ((show (Tryz.prog.globals[3]?).map (·.type) = some 329 by kernel_rfl).symm.trans ht)
  exact tab_of hv Tryz.underlying329 Tryz.underlying302 (by kernel_rfl) (by kernel_rfl) hd
set_option maxRecDepth 100000 in
theorem door_met (os : Os) (args : Array Value) : laidMetH Tryz.prog Rows.ascentStaysRow.laid ((World.doorLaid Tryz.prog 400 os).forCall (fun _ _ => 0) ⟨#[], args, []⟩).memory :=
  laidMetH_of_parts3 (fuel := 8) (laidMet_of_run' 8 (by kernel_rfl) (by kernel_rfl)) (by kernel_rfl) (by kernel_rfl)
set_option maxRecDepth 100000 in
theorem main0 : Tryz.pinned.checked.prog.mainIs = some (Rows.ascentStaysCard.stood.harness.1, Rows.ascentStaysCard.stood.harness.2.toList) := by kernel_rfl
set_option maxRecDepth 100000 in
theorem looks0 : true = Tryz.pinned.checked.prog.looks [] := by kernel_rfl
end Go.Proofs.YthilaakeimfedaaGreatDoor
