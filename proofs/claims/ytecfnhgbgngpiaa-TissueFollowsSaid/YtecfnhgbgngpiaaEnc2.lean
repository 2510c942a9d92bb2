/-
  How the data of the statements of chapter 3 lies in memory. Conditions: none; no program in sight.
-/
import Derived.Test.YtecfnhgbgngpiaaEx
import Derived.Test.YtecfnhgbgngpiaaMod8
namespace Go.Proofs.Ytecfnhgbgngpiaa
def cDv (v u : Value) (x : Lg) (fi : Int) : List Value := [v, u, .int .i64 x.f, .int .i64 x.t, .int .i64 x.s, .int .i64 x.g.o, .int .i64 x.g.h, .int .i64 fi]
def cDl (x : Dl) : List Value := [.int .i64 x.s, .int .i64 x.d, .int .i64 x.g]
def cPl (nm : ByteArray) (sf : Int) (v u : Value) : List Value := [.string nm, .int .i64 sf, v, u]
theorem oneGs (l : List Gs) : ∀ c ∈ (l.map cGs).flatten, c.oneCell' = true := one_map cGs (fun a c hc => by
  simp only [cGs, List.mem_cons, List.not_mem_nil, or_false] at hc
  rcases hc with rfl | rfl <;> rfl) l
theorem oneDl (l : List Dl) : ∀ c ∈ (l.map cDl).flatten, c.oneCell' = true := one_map cDl (fun a c hc => by
  simp only [cDl, List.mem_cons, List.not_mem_nil, or_false] at hc
  rcases hc with rfl | rfl | rfl <;> rfl) l
theorem gas_cell {gs : List Gs} {i : Int} (h0 : 0 ≤ i) (h1 : i ≤ gs.length - 1) : (gs.map cGs)[i.toNat]? = some (cGs (gasAt gs i)) := by
  have : i.toNat < gs.length := by omega
  unfold gasAt
  rw [List.getElem?_map, List.getElem?_eq_getElem this]
  rfl
theorem leg_cells (L : List Lg) (x : Lg) : L.map cLg ++ [cLg x] = (L ++ [x]).map cLg := by rw [List.map_append]; rfl
theorem own_cells {ls : List Ld} {ns : List Int} {k : Nat} {z : Ld} (h : ls[k]? = some z) : ((ownM ls ns).take k).map cLd ++ [cLd (ownL z (ns[k]?.getD 0))] = ((ownM ls ns).take (k + 1)).map cLd := by
  rw [List.take_add_one, ownM_get h, List.map_append]
  rfl
theorem own_all {ls : List Ld} {ns : List Int} {k : Nat} (h : ls.length ≤ k) : (ownM ls ns).take k = ownM ls ns := List.take_of_length_le (by rw [ownM_len]; exact h)
theorem pk_cells {a b : List Ld} {k : Nat} {x y : Ld} (h1 : a[k]? = some x) (h2 : b[k]? = some y) : ((pkL a b).take k).map cI ++ [cI (peakL x y)] = ((pkL a b).take (k + 1)).map cI := by
  have h : (pkL a b)[k]? = some (peakL x y) := by unfold pkL; rw [List.getElem?_zipWith, h1, h2]
  rw [List.take_add_one, h, List.map_append]
  rfl
theorem mix_cells {f : Nat} {ts : List Cp} {ls : List Ld} {x : Lg} {n k i : Nat} {z : Int} {a b : Ld} (hlen : ls.length = ts.length) (hi : i < ts.length) (hz : (peaksK f ts ls x n k)[i]? = some z) (ha : (prevM f ts ls x n k)[i]? = some a) (hb : (stM f ts ls x n k)[i]? = some b) :
    ((mixL (peaksK f ts ls x n (k + 1)) (peaksK f ts ls x n k) i).map cI).set i [.int .i64 (max z (peakL a b))] = (mixL (peaksK f ts ls x n (k + 1)) (peaksK f ts ls x n k) (i + 1)).map cI := by
  rw [← put_mix hlen hi hz ha hb, List.map_set]
  rfl
end Go.Proofs.Ytecfnhgbgngpiaa
