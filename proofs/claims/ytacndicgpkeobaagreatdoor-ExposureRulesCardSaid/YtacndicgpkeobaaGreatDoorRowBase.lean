/-
  What all rows of this seat share: the program keeps no knob of its own, its types are laid out; the structs of whole numbers. Conditions: none.
-/
import Derived.Test.YtacndicgpkeobaaGreatDoorCards
import Derived.Test.YtacndicgpkeobaaGreatDoorTie
import Derived.Test.YtacndicgpkeobaaGreatDoorShBld
import Derived.Stop.Joined
import Derived.LaidMore
import Derived.SevenTiedAt
import Derived.Handed
import Derived.Test.YtacndicgpkeobaaGreatDoorArgP
import Derived.Test.YtacndicgpkeobaaGreatDoorRows
namespace Go.Proofs.YtacndicgpkeobaaGreatDoor
open Go.ChangeShapes Go.WideShapes Go.ChangeAt Go.RowKit

theorem own0 : ownKnob Tryz.prog.godebug = none := by kernel_rfl
theorem laid0 : laidOutB Tryz.prog = true := by kernel_rfl
theorem fc63 : fsC Tryz.prog 63 = some [(0, 1, 3), (1, 1, 3)] := by kernel_rfl
theorem fc65 : fsC Tryz.prog 65 = some [(0, 1, 61), (1, 2, 63), (3, 1, 3), (4, 1, 3), (5, 1, 3), (6, 1, 3), (7, 1, 3), (8, 1, 3)] := by kernel_rfl
theorem fc175 : fsC Tryz.prog 175 = some [(0, 1, 3), (1, 1, 3)] := by kernel_rfl
theorem it175 : IT Tryz.prog 175 2 := it_struct fc175 (by kernel_rfl) (.cons (it_int Tryz.underlying3) (.cons (it_int Tryz.underlying3) (ITF.nil _)))
theorem it63 : IT Tryz.prog 63 2 := it_struct fc63 (by kernel_rfl) (.cons (it_int Tryz.underlying3) (.cons (it_int Tryz.underlying3) (ITF.nil _)))
set_option maxRecDepth 100000 in
theorem head0 : (Tryz.pinned.checked.prog.mayEnter && (Rows.exposureRulesRow.lifted == Tryz.pinned.checked.prog.liftsFinal) && (Tryz.pinned.checked.prog.make == some Rows.exposureRulesRow.make)) = true := by kernel_rfl
theorem enter0 : Tryz.pinned.checked.prog.mayEnter = true := by
  have h := head0
  simp only [Bool.and_eq_true] at h
  exact h.1.1
theorem lifted0 : (Rows.exposureRulesRow.lifted == Tryz.pinned.checked.prog.liftsFinal) = true := by
  have h := head0
  simp only [Bool.and_eq_true] at h
  exact h.1.2
theorem make0 : (Tryz.pinned.checked.prog.make == some Rows.exposureRulesRow.make) = true := by
  have h := head0
  simp only [Bool.and_eq_true] at h
  exact h.2
set_option maxRecDepth 100000 in
theorem of_laidT {W : World} (h : laidMetH Tryz.prog Rows.exposureRulesRow.laid W) : Lib.TabIs Tryz.prog W (Rows.exposureRulesRow.laid.getD 2 (default, .nil)).1 .u64 Lib.pow10Tab := by
  rw [MakeChecks.laidMetH_plain _ _ _ (by kernel_rfl)] at h
  obtain ⟨ps, hl, _⟩ := h
  obtain ⟨g, t, cs, fuel, p, hg, ht, hv, hd⟩ := laid_mem hl (i := 2) (n := (Rows.exposureRulesRow.laid.getD 2 (default, .nil)).1) (d := Lib.tabData .u64 Lib.pow10Tab) rfl
  obtain rfl := Option.some.inj ((show Tryz.prog.globalNamed (Rows.exposureRulesRow.laid.getD 2 (default, .nil)).1 = some 0 by kernel_rfl).symm.trans hg)
  obtain rfl := Option.some.inj ((show (Tryz.prog.globals[0]?).map (·.type) = some 325 by kernel_rfl).symm.trans ht)
  exact tab_of hv Tryz.underlying325 Tryz.underlying302 (by kernel_rfl) (by kernel_rfl) hd
set_option maxRecDepth 100000 in
theorem of_laidE5 {W : World} (h : laidMetH Tryz.prog Rows.exposureRulesRow.laid W) : errAt 2 W := by
  rw [MakeChecks.laidMetH_plain _ _ _ (by kernel_rfl)] at h
  obtain ⟨ps, hl, _⟩ := h
  obtain ⟨g, t, cs, fuel, p, hg, ht, hv, hd⟩ := laid_mem hl (i := 5) (n := (Rows.exposureRulesRow.laid.getD 5 (default, .nil)).1) (d := (Rows.exposureRulesRow.laid.getD 5 (default, .nil)).2) rfl
  obtain rfl := Option.some.inj ((show Tryz.prog.globalNamed (Rows.exposureRulesRow.laid.getD 5 (default, .nil)).1 = some 2 by kernel_rfl).symm.trans hg)
  obtain rfl := Option.some.inj ((show (Tryz.prog.globals[2]?).map (·.type) = some 140 by kernel_rfl).symm.trans ht)
  exact err_of hg hv Tryz.underlying140 hd
set_option maxRecDepth 100000 in
theorem of_laidE4 {W : World} (h : laidMetH Tryz.prog Rows.exposureRulesRow.laid W) : errAt 3 W := by
  rw [MakeChecks.laidMetH_plain _ _ _ (by kernel_rfl)] at h
  obtain ⟨ps, hl, _⟩ := h
  obtain ⟨g, t, cs, fuel, p, hg, ht, hv, hd⟩ := laid_mem hl (i := 4) (n := (Rows.exposureRulesRow.laid.getD 4 (default, .nil)).1) (d := (Rows.exposureRulesRow.laid.getD 4 (default, .nil)).2) rfl
  obtain rfl := Option.some.inj ((show Tryz.prog.globalNamed (Rows.exposureRulesRow.laid.getD 4 (default, .nil)).1 = some 3 by kernel_rfl).symm.trans hg)
  obtain rfl := Option.some.inj ((show (Tryz.prog.globals[3]?).map (·.type) = some 140 by kernel_rfl).symm.trans ht)
  exact err_of hg hv Tryz.underlying140 hd
set_option maxRecDepth 100000 in
theorem laidN0 : (Rows.exposureRulesRow.laid.getD 2 (default, .nil)).1 = (Rows.ascentChangesRow.laid.getD 2 (default, .nil)).1 := by kernel_rfl
theorem of_laid {W : World} (h : laidMetH Tryz.prog Rows.exposureRulesRow.laid W) : Lib.TabIs Tryz.prog W (Rows.ascentChangesRow.laid.getD 2 (default, .nil)).1 .u64 Lib.pow10Tab ∧ errAt 2 W ∧ errAt 3 W := by
  have h0 := of_laidT h
  rw [laidN0] at h0
  exact ⟨h0, of_laidE5 h, of_laidE4 h⟩
set_option maxRecDepth 100000 in
theorem main0 : Tryz.pinned.checked.prog.mainIs = some (Rows.exposureRulesCard.stood.harness.1, Rows.exposureRulesCard.stood.harness.2.toList) := by kernel_rfl
set_option maxRecDepth 100000 in
theorem looks0 : true = Tryz.pinned.checked.prog.looks [] := by kernel_rfl
end Go.Proofs.YtacndicgpkeobaaGreatDoor
