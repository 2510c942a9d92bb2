/-
  What listed package variables give a walk: a table of numbers, an error. Conditions: those in front of each theorem; no program in sight.
-/
import Derived.Test.YtibohfipgjljhaaDoorShQ
import Derived.Test.YtibohfipgjljhaaDoorArgP
import Derived.LaidLaws
namespace Go.Proofs.YtibohfipgjljhaaDoor
open Go.ChangeShapes Go.WideShapes Go.RowKit
section
variable {P : Program} {W : World} {n : String} {g t e : TypeId} {cs : Array Value} {fuel : Nat} {p : List MemPlace}
theorem err_of {ms : Array (String × TypeId)} {name : String} {d : DataW Unit} (hg : P.globalNamed n = some g) (hv : W.var? P n = some cs) (hi : P.underlying t = some (.interface ms)) (h : DataW.trod (fun _ => ()) P W 0 (fun _ => true) false fuel t cs.toList = some (.iface name d, p)) : errAt g W := by
  obtain ⟨_, u, v, hcs, _⟩ := iface_of_trod hi h
  have := World.var?_cell hg hv 0
  rw [show cs = #[Value.iface u v] from Array.ext' hcs] at this
  exact ⟨.iface u v, by simpa using this, .inr ⟨u, v, rfl⟩⟩
theorem tab_of {m : Nat} {k : IntKind} {zs : List Int} (hv : W.var? P n = some cs) (ht : P.underlying t = some (.array m e)) (he : P.underlying e = some (.int k)) (hce : P.cellsOf e = 1) (hct : P.cellsOf t = m)
    (h : DataW.trod (fun _ => ()) P W 0 (fun _ => true) false fuel t cs.toList = some (Lib.tabData k zs, p)) : Lib.TabIs P W n k zs := by
  unfold Lib.TabIs
  rw [hv, ← Lib.cells_of_tab ht he hce hct h]
theorem str_val {b0 : Nat} {r : Reach} {v u : Value} (ht : P.underlying t = some .string) (hv : Value.okWide P W r b0 t v) (h : v.cells.toList = [u]) : v = u := by
  obtain ⟨s, rfl⟩ := okWide_string ht hv
  simpa [Value.cells] using h
end
end Go.Proofs.YtibohfipgjljhaaDoor
