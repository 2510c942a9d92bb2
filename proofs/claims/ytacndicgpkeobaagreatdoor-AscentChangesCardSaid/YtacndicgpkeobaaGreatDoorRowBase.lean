/-
  What all rows of this seat share: the program keeps no knob of its own, its types are laid out; the structs of whole numbers. Conditions: none.
-/
import Derived.Test.YtacndicgpkeobaaGreatDoorCards
import Derived.Test.YtacndicgpkeobaaGreatDoorTie
import Derived.Test.YtacndicgpkeobaaGreatDoorShBld
import Derived.Stop.Joined
import Derived.LaidMore
import Derived.SevenTiedAt
import Derived.Handed
import Derived.Test.YtacndicgpkeobaaGreatDoorArgB
import Derived.Test.YtacndicgpkeobaaGreatDoorRows
namespace Go.Proofs.YtacndicgpkeobaaGreatDoor
open Go.ChangeShapes Go.WideShapes Go.ChangeAt Go.RowKit

theorem own0 : ownKnob Tryz.prog.godebug = none := by kernel_rfl
theorem laid0 : laidOutB Tryz.prog = true := by kernel_rfl
theorem fc26 : fsC Tryz.prog 26 = some [(0, 1, 3), (1, 1, 3), (2, 1, 3), (3, 1, 3), (4, 1, 3), (5, 1, 3), (6, 1, 3)] := by kernel_rfl
theorem fc28 : fsC Tryz.prog 28 = some [(0, 1, 22), (1, 1, 23), (2, 1, 3), (3, 1, 3), (4, 1, 24), (5, 7, 26)] := by kernel_rfl
theorem fc30 : fsC Tryz.prog 30 = some [(0, 1, 3), (1, 1, 3)] := by kernel_rfl
theorem fc110 : fsC Tryz.prog 110 = some [(0, 1, 3), (1, 1, 3)] := by kernel_rfl
theorem fc112 : fsC Tryz.prog 112 = some [(0, 2, 110), (2, 1, 3)] := by kernel_rfl
theorem fc120 : fsC Tryz.prog 120 = some [(0, 1, 3), (1, 1, 3), (2, 1, 3), (3, 1, 3)] := by kernel_rfl
theorem fc122 : fsC Tryz.prog 122 = some [(0, 1, 3), (1, 1, 3)] := by kernel_rfl
theorem fc134 : fsC Tryz.prog 134 = some [(0, 2, 122), (2, 2, 122)] := by kernel_rfl
theorem it122 : IT Tryz.prog 122 2 := it_struct fc122 (by kernel_rfl) (.cons (it_int Tryz.underlying3) (.cons (it_int Tryz.underlying3) (ITF.nil _)))
theorem it134 : IT Tryz.prog 134 4 := it_struct fc134 (by kernel_rfl) (.cons it122 (.cons it122 (ITF.nil _)))
theorem it120 : IT Tryz.prog 120 4 := it_struct fc120 (by kernel_rfl) (.cons (it_int Tryz.underlying3) (.cons (it_int Tryz.underlying3) (.cons (it_int Tryz.underlying3) (.cons (it_int Tryz.underlying3) (ITF.nil _)))))
theorem it110 : IT Tryz.prog 110 2 := it_struct fc110 (by kernel_rfl) (.cons (it_int Tryz.underlying3) (.cons (it_int Tryz.underlying3) (ITF.nil _)))
theorem it112 : IT Tryz.prog 112 3 := it_struct fc112 (by kernel_rfl) (.cons it110 (.cons (it_int Tryz.underlying3) (ITF.nil _)))
theorem it26 : IT Tryz.prog 26 7 := it_struct fc26 (by kernel_rfl) (.cons (it_int Tryz.underlying3) (.cons (it_int Tryz.underlying3) (.cons (it_int Tryz.underlying3) (.cons (it_int Tryz.underlying3) (.cons (it_int Tryz.underlying3) (.cons (it_int Tryz.underlying3) (.cons (it_int Tryz.underlying3) (ITF.nil _))))))))
theorem it30 : IT Tryz.prog 30 2 := it_struct fc30 (by kernel_rfl) (.cons (it_int Tryz.underlying3) (.cons (it_int Tryz.underlying3) (ITF.nil _)))
set_option maxRecDepth 100000 in
theorem head0 : (Tryz.pinned.checked.prog.mayEnter && (Rows.ascentChangesRow.lifted == Tryz.pinned.checked.prog.liftsFinal) && (Tryz.pinned.checked.prog.make == some Rows.ascentChangesRow.make)) = true := by kernel_rfl
theorem enter0 : Tryz.pinned.checked.prog.mayEnter = true := by
  have h := head0
  simp only [Bool.and_eq_true] at h
  exact h.1.1
theorem lifted0 : (Rows.ascentChangesRow.lifted == Tryz.pinned.checked.prog.liftsFinal) = true := by
  have h := head0
  simp only [Bool.and_eq_true] at h
  exact h.1.2
theorem make0 : (Tryz.pinned.checked.prog.make == some Rows.ascentChangesRow.make) = true := by
  have h := head0
  simp only [Bool.and_eq_true] at h
  exact h.2
set_option maxRecDepth 100000 in
theorem of_laid {W : World} (h : laidMetH Tryz.prog Rows.ascentChangesRow.laid W) : Lib.TabIs Tryz.prog W (Rows.ascentChangesRow.laid.getD 2 (default, .nil)).1 .u64 Lib.pow10Tab := by
  rw [MakeChecks.laidMetH_plain _ _ _ (by kernel_rfl)] at h
  obtain ⟨ps, hl, _⟩ := h
  obtain ⟨g, t, cs, fuel, p, hg, ht, hv, hd⟩ := laid_mem hl (i := 2) (n := (Rows.ascentChangesRow.laid.getD 2 (default, .nil)).1) (d := Lib.tabData .u64 Lib.pow10Tab) rfl
  obtain rfl := Option.some.inj ((show Tryz.prog.globalNamed (Rows.ascentChangesRow.laid.getD 2 (default, .nil)).1 = some 0 by kernel_rfl).symm.trans hg)
  obtain rfl := Option.some.inj ((show (Tryz.prog.globals[0]?).map (·.type) = some 325 by kernel_rfl).symm.trans ht)
  exact tab_of hv Tryz.underlying325 Tryz.underlying302 (by kernel_rfl) (by kernel_rfl) hd
set_option maxRecDepth 100000 in
theorem door_met (os : Os) (args : Array Value) : laidMetH Tryz.prog Rows.ascentChangesRow.laid ((World.doorLaid Tryz.prog 400 os).forCall (fun _ _ => 0) ⟨#[], args, []⟩).memory :=
  laidMetH_of_parts3 (fuel := 8) (laidMet_of_run' 8 (by kernel_rfl) (by kernel_rfl)) (by kernel_rfl) (by kernel_rfl)
set_option maxRecDepth 100000 in
theorem main0 : Tryz.pinned.checked.prog.mainIs = some (Rows.ascentChangesCard.stood.harness.1, Rows.ascentChangesCard.stood.harness.2.toList) := by kernel_rfl
set_option maxRecDepth 100000 in
theorem looks0 : true = Tryz.pinned.checked.prog.looks [] := by kernel_rfl
end Go.Proofs.YtacndicgpkeobaaGreatDoor
