/-
  What all rows of this seat share: the program keeps no knob of its own, its types are laid out; the structs of whole numbers. Conditions: none.
-/
import Derived.Test.YtibohfipgjljhaaDoorCards
import Derived.Test.YtibohfipgjljhaaDoorTie
import Derived.Test.YtibohfipgjljhaaDoorLaidK
import Derived.Test.YtibohfipgjljhaaDoorLaidT
import Derived.Test.YtibohfipgjljhaaDoorArgA
import Derived.Test.YtibohfipgjljhaaDoorArgG
import Derived.Stop.Joined
import Derived.LaidMore
import Derived.SevenTiedAt
import Derived.Handed
import Derived.Test.YtibohfipgjljhaaDoorArgP
import Derived.Test.YtibohfipgjljhaaDoorRows
namespace Go.Proofs.YtibohfipgjljhaaDoor
open Go.ChangeShapes Go.WideShapes Go.ChangeAt Go.RowKit

theorem own0 : ownKnob Tryd.prog.godebug = none := by kernel_rfl
theorem laid0 : laidOutB Tryd.prog = true := by kernel_rfl
theorem fc23 : fsC Tryd.prog 23 = some [(0, 1, 3), (1, 1, 3)] := by kernel_rfl
theorem fc25 : fsC Tryd.prog 25 = some [(0, 1, 3), (1, 1, 3)] := by kernel_rfl
theorem fc28 : fsC Tryd.prog 28 = some [(0, 1, 3), (1, 1, 3)] := by kernel_rfl
theorem fc39 : fsC Tryd.prog 39 = some [(0, 1, 3), (1, 1, 3), (2, 2, 25), (4, 1, 3)] := by kernel_rfl
theorem fc57 : fsC Tryd.prog 57 = some [(0, 2, 23), (2, 1, 3)] := by kernel_rfl
theorem fc69 : fsC Tryd.prog 69 = some [(0, 2, 23), (2, 1, 3), (3, 2, 25)] := by kernel_rfl
theorem it28 : IT Tryd.prog 28 2 := it_struct fc28 (by kernel_rfl) (.cons (it_int Tryd.underlying3) (.cons (it_int Tryd.underlying3) (ITF.nil _)))
theorem it23 : IT Tryd.prog 23 2 := it_struct fc23 (by kernel_rfl) (.cons (it_int Tryd.underlying3) (.cons (it_int Tryd.underlying3) (ITF.nil _)))
theorem it25 : IT Tryd.prog 25 2 := it_struct fc25 (by kernel_rfl) (.cons (it_int Tryd.underlying3) (.cons (it_int Tryd.underlying3) (ITF.nil _)))
theorem it39 : IT Tryd.prog 39 5 := it_struct fc39 (by kernel_rfl) (.cons (it_int Tryd.underlying3) (.cons (it_int Tryd.underlying3) (.cons it25 (.cons (it_int Tryd.underlying3) (ITF.nil _)))))
theorem it57 : IT Tryd.prog 57 3 := it_struct fc57 (by kernel_rfl) (.cons it23 (.cons (it_int Tryd.underlying3) (ITF.nil _)))
theorem it69 : IT Tryd.prog 69 5 := it_struct fc69 (by kernel_rfl) (.cons it23 (.cons (it_int Tryd.underlying3) (.cons it25 (ITF.nil _))))
set_option maxRecDepth 100000 in
/-- What the head of the program says: one look at it serves all rows. -/
theorem head0 : (Tryd.pinned.checked.prog.mayEnter && (Rows.gasDepthsRow.lifted == Tryd.pinned.checked.prog.liftsFinal) && (Tryd.pinned.checked.prog.make == some Rows.gasDepthsRow.make)) = true := by kernel_rfl
theorem enter0 : Tryd.pinned.checked.prog.mayEnter = true := by
  have h := head0
  simp only [Bool.and_eq_true] at h
  exact h.1.1
theorem lifted0 : (Rows.gasDepthsRow.lifted == Tryd.pinned.checked.prog.liftsFinal) = true := by
  have h := head0
  simp only [Bool.and_eq_true] at h
  exact h.1.2
theorem make0 : (Tryd.pinned.checked.prog.make == some Rows.gasDepthsRow.make) = true := by
  have h := head0
  simp only [Bool.and_eq_true] at h
  exact h.2
theorem gK : Tryd.prog.globalNamed ((Rows.gasDepthsRow.laid.getD 5 (default, .nil)).1) = some 0 := by kernel_rfl
theorem tK : (Tryd.prog.globals[0]?).map (·.type) = some 136 := by kernel_rfl
set_option maxRecDepth 100000 in
theorem of_laid {W : World} (h : laidMetH Tryd.prog Rows.gasDepthsRow.laid W) : KnW Tryd.prog 0 136 knL knZ W := by
  rw [MakeChecks.laidMetH_plain _ _ _ (by kernel_rfl)] at h
  obtain ⟨ps, hl, _⟩ := h
  obtain ⟨g, t, cs, fuel, p, hg, ht, hv, hd⟩ := laid_mem hl (i := 5) (n := (Rows.gasDepthsRow.laid.getD 5 (default, .nil)).1) (d := .map knD) rfl
  obtain rfl := Option.some.inj (gK.symm.trans hg)
  obtain rfl := Option.some.inj (tK.symm.trans ht)
  exact kn_of hg hv Tryd.underlying136 Tryd.underlying9 Tryd.underlying23 rfl rfl Tryd.underlying3 Tryd.underlying3 (by kernel_rfl) (by kernel_rfl) (by kernel_rfl) (fun w => by kernel_rfl) hd
set_option maxRecDepth 100000 in
theorem of_laidQ {W : World} (h : laidMetH Tryd.prog Rows.gasDepthsRow.laid W) : KnW Tryd.prog 0 136 knL knZ W ∧ Lib.TabIs Tryd.prog W (Rows.gasDepthsRow.laid.getD 2 (default, .nil)).1 .u64 Lib.pow10Tab ∧ errAt 2 W ∧ errAt 3 W := by
  refine ⟨of_laid h, ?_, ?_, ?_⟩
  · rw [MakeChecks.laidMetH_plain _ _ _ (by kernel_rfl)] at h
    obtain ⟨ps, hl, _⟩ := h
    obtain ⟨g, t, cs, fuel, p, hg, ht, hv, hd⟩ := laid_mem hl (i := 2) (n := (Rows.gasDepthsRow.laid.getD 2 (default, .nil)).1) (d := Lib.tabData .u64 Lib.pow10Tab) rfl
    obtain rfl := Option.some.inj ((show Tryd.prog.globalNamed (Rows.gasDepthsRow.laid.getD 2 (default, .nil)).1 = some 4 by kernel_rfl).symm.trans hg)
    obtain rfl := Option.some.inj ((show (Tryd.prog.globals[4]?).map (·.type) = some 173 by kernel_rfl).symm.trans ht)
    exact tab_of hv Tryd.underlying173 Tryd.underlying159 (by kernel_rfl) (by kernel_rfl) hd
  · rw [MakeChecks.laidMetH_plain _ _ _ (by kernel_rfl)] at h
    obtain ⟨ps, hl, _⟩ := h
    obtain ⟨g, t, cs, fuel, p, hg, ht, hv, hd⟩ := laid_mem hl (i := 4) (n := (Rows.gasDepthsRow.laid.getD 4 (default, .nil)).1) (d := (Rows.gasDepthsRow.laid.getD 4 (default, .nil)).2) rfl
    obtain rfl := Option.some.inj ((show Tryd.prog.globalNamed (Rows.gasDepthsRow.laid.getD 4 (default, .nil)).1 = some 2 by kernel_rfl).symm.trans hg)
    obtain rfl := Option.some.inj ((show (Tryd.prog.globals[2]?).map (·.type) = some 144 by kernel_rfl).symm.trans ht)
    exact err_of hg hv Tryd.underlying144 hd
  · rw [MakeChecks.laidMetH_plain _ _ _ (by kernel_rfl)] at h
    obtain ⟨ps, hl, _⟩ := h
    obtain ⟨g, t, cs, fuel, p, hg, ht, hv, hd⟩ := laid_mem hl (i := 3) (n := (Rows.gasDepthsRow.laid.getD 3 (default, .nil)).1) (d := (Rows.gasDepthsRow.laid.getD 3 (default, .nil)).2) rfl
    obtain rfl := Option.some.inj ((show Tryd.prog.globalNamed (Rows.gasDepthsRow.laid.getD 3 (default, .nil)).1 = some 3 by kernel_rfl).symm.trans hg)
    obtain rfl := Option.some.inj ((show (Tryd.prog.globals[3]?).map (·.type) = some 144 by kernel_rfl).symm.trans ht)
    exact err_of hg hv Tryd.underlying144 hd
set_option maxRecDepth 100000 in
theorem door_met (os : Os) (args : Array Value) : laidMetH Tryd.prog Rows.gasDepthsRow.laid ((World.doorLaid Tryd.prog 400 os).forCall (fun _ _ => 0) ⟨#[], args, []⟩).memory :=
  laidMetH_of_parts3 (fuel := 8) (laidMet_of_run' 8 (by kernel_rfl) (by kernel_rfl)) (by kernel_rfl) (by kernel_rfl)
end Go.Proofs.YtibohfipgjljhaaDoor
