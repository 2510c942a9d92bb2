/-
  How the data of the statements of chapter 3 lies in memory. Conditions: none; no program in sight.
-/
import Derived.Test.YtfhfadfnbnliiaaEx
import Derived.Test.YtfhfadfnbnliiaaMod6
namespace Go.Proofs.Ytfhfadfnbnliiaa
def cDv (v u : Value) (x : Lg) (fi : Int) : List Value := [v, u, .int .i64 x.f, .int .i64 x.t, .int .i64 x.s, .int .i64 x.g.o, .int .i64 x.g.h, .int .i64 fi]
theorem own_cells {ls : List Ld} {ns : List Int} {k : Nat} {z : Ld} (h : ls[k]? = some z) : ((ownM ls ns).take k).map cLd ++ [cLd (ownL z (ns[k]?.getD 0))] = ((ownM ls ns).take (k + 1)).map cLd := by
  rw [List.take_add_one, ownM_get h, List.map_append]
  rfl
theorem own_all {ls : List Ld} {ns : List Int} {k : Nat} (h : ls.length ≤ k) : (ownM ls ns).take k = ownM ls ns := List.take_of_length_le (by rw [ownM_len]; exact h)
end Go.Proofs.Ytfhfadfnbnliiaa
