/-
  The calculus: regions that draw their order, make memory at any time between other operations, and write to it in the midst of what they read. Conditions: none; no program in sight.
-/
import Derived.Test.YtdmnejfpbbmcaaaShFloat
namespace Go.Proofs.Ytdmnejfpbbmcaaa
open Go.RowKit

section
variable {P : Program} {ops : Array Oper} {md : Region.Mode} {N : Fr} {B : Nat} {w0 : World} {B0 : Nat}
theorem SatC.le {E E' : Env} {rn ro : List Res} {a : Act} {w : World} (h : SatC N B w0 B0 E rn ro a w) (he : leE E E') : SatC N B w0 B0 E' rn ro a w := ⟨h.s.le he, h.b, h.o, h.n⟩
/-! ### The steps of the first part -/
variable {fin : Env → List Res → Prop} {E : Env} {rn ro : List Res} {t : List (Nat × Bool)} {k d : Nat} {o : Oper}
end
end Go.Proofs.Ytdmnejfpbbmcaaa
