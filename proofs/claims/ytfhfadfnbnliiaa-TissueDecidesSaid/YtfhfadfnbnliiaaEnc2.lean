/-
  How the data of the statements of chapter 3 lies in memory. Conditions: none; no program in sight.
-/
import Derived.Test.YtfhfadfnbnliiaaEx
import Derived.Test.YtfhfadfnbnliiaaMod8
namespace Go.Proofs.Ytfhfadfnbnliiaa
def cDv (v u : Value) (x : Lg) (fi : Int) : List Value := [v, u, .int .i64 x.f, .int .i64 x.t, .int .i64 x.s, .int .i64 x.g.o, .int .i64 x.g.h, .int .i64 fi]
def cDl (x : Dl) : List Value := [.int .i64 x.s, .int .i64 x.d, .int .i64 x.g]
def cPl (nm : ByteArray) (sf : Int) (v u : Value) : List Value := [.string nm, .int .i64 sf, v, u]
theorem oneGs (l : List Gs) : ∀ c ∈ (l.map cGs).flatten, c.oneCell' = true := one_map cGs (fun a c hc => by
  simp only [cGs, List.mem_cons, List.not_mem_nil, or_false] at hc
  rcases hc with rfl | rfl <;> rfl) l
theorem oneDl (l : List Dl) : ∀ c ∈ (l.map cDl).flatten, c.oneCell' = true := one_map cDl (fun a c hc => by
  simp only [cDl, List.mem_cons, List.not_mem_nil, or_false] at hc
  rcases hc with rfl | rfl | rfl <;> rfl) l
theorem gas_cell {gs : List Gs} {i : Int} (h0 : 0 ≤ i) (h1 : i ≤ gs.length - 1) : (gs.map cGs)[i.toNat]? = some (cGs (gasAt gs i)) := by
  have : i.toNat < gs.length := by omega
  unfold gasAt
  rw [List.getElem?_map, List.getElem?_eq_getElem this]
  rfl
theorem leg_cells (L : List Lg) (x : Lg) : L.map cLg ++ [cLg x] = (L ++ [x]).map cLg := by rw [List.map_append]; rfl
theorem own_cells {ls : List Ld} {ns : List Int} {k : Nat} {z : Ld} (h : ls[k]? = some z) : ((ownM ls ns).take k).map cLd ++ [cLd (ownL z (ns[k]?.getD 0))] = ((ownM ls ns).take (k + 1)).map cLd := by
  rw [List.take_add_one, ownM_get h, List.map_append]
  rfl
theorem own_all {ls : List Ld} {ns : List Int} {k : Nat} (h : ls.length ≤ k) : (ownM ls ns).take k = ownM ls ns := List.take_of_length_le (by rw [ownM_len]; exact h)
end Go.Proofs.Ytfhfadfnbnliiaa
