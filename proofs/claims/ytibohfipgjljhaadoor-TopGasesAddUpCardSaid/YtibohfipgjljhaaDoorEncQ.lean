/-
  How sums by gases and needs lie in memory. Conditions: none; no program in sight.
-/
import Derived.Test.YtibohfipgjljhaaDoorShUse
import Derived.Test.YtibohfipgjljhaaDoorShPut
import Derived.Test.YtibohfipgjljhaaDoorXp3
namespace Go.Proofs.YtibohfipgjljhaaDoor
def cI (n : Int) : List Value := [.int .i64 n]
def cRg (r : Rg) : List Value := [.int .i64 r.lo, .int .i64 r.hi]
def cGs (g : Gs) : List Value := [.int .i64 g.o, .int .i64 g.h]
def cDl (x : Dl) : List Value := [.int .i64 x.s, .int .i64 x.d, .int .i64 x.g]
def cPl (nm : ByteArray) (sf : Int) (v u : Value) : List Value := [.string nm, .int .i64 sf, v, u]
def cOw (x : Ow) : List Value := [.int .i64 x.f, .int .i64 x.r]
def cRu (t : Value) (r : Ru) : List Value := [t, .int .i64 r.lo, .int .i64 r.hi, .int .i64 r.na, .int .i64 r.de, .int .i64 r.br, .int .i64 r.em, .int .i64 r.pa, .int .i64 r.ac]
def cLe (x : Le) : List Value := [.int .i64 x.x.s, .int .i64 x.x.d, .int .i64 x.x.g, .int .i64 x.b, .int .i64 x.f, .int .i64 x.t, .int .i64 x.sf, .int .i64 x.g.o, .int .i64 x.g.h]
theorem len_map {α : Type} (f : α → List Value) (l : List α) : (l.map f).length = l.length := List.length_map _
theorem en {a b : Int} (h : a = b) : some (Value.int .i64 a) = some (Value.int .i64 b) := by rw [h]
theorem wr {a b : Int} (h : a = b) (h2 : -9223372036854775808 ≤ b ∧ b ≤ 9223372036854775807) : IntKind.i64.wrap a = b := by subst h; exact IntWalk.i64_in _ (by omega)
theorem shr1 (m : Int) : m.fdiv (2 ^ (min (1 : Int).toNat IntKind.i64.bits)) = m / 2 := Int.fdiv_eq_ediv_of_nonneg _ (by decide : (0:Int) ≤ _)
theorem one_map {α : Type} (f : α → List Value) (hf : ∀ a, ∀ c ∈ f a, c.oneCell' = true) (l : List α) : ∀ c ∈ (l.map f).flatten, c.oneCell' = true := fun c hc => by
  obtain ⟨x, hx, hc⟩ := List.mem_flatten.1 hc
  obtain ⟨a, _, rfl⟩ := List.mem_map.1 hx
  exact hf a c hc
theorem oneGs (l : List Gs) : ∀ c ∈ (l.map cGs).flatten, c.oneCell' = true := one_map cGs (fun a c hc => by
  simp only [cGs, List.mem_cons, List.not_mem_nil, or_false] at hc
  rcases hc with rfl | rfl <;> rfl) l
theorem oneDl (l : List Dl) : ∀ c ∈ (l.map cDl).flatten, c.oneCell' = true := one_map cDl (fun a c hc => by
  simp only [cDl, List.mem_cons, List.not_mem_nil, or_false] at hc
  rcases hc with rfl | rfl | rfl <;> rfl) l
theorem oneOw (l : List Ow) : ∀ c ∈ (l.map cOw).flatten, c.oneCell' = true := one_map cOw (fun a c hc => by
  simp only [cOw, List.mem_cons, List.not_mem_nil, or_false] at hc
  rcases hc with rfl | rfl <;> rfl) l
theorem oneI (l : List Int) : ∀ c ∈ (l.map cI).flatten, c.oneCell' = true := one_map cI (fun a c hc => by
  simp only [cI, List.mem_cons, List.not_mem_nil, or_false] at hc
  subst hc; rfl) l
theorem leg_cells (sf : Int) (gs : List Gs) (ls : List Dl) (k : Nat) : (legsK sf gs ls k).map cLe ++ [cLe (legAt sf gs ls k)] = (legsK sf gs ls (k + 1)).map cLe := by rw [legsK_succ, List.map_append]; rfl
theorem dl_cell {ls : List Dl} {k : Nat} (h : k < ls.length) : (ls.map cDl)[k]? = some (cDl (dlAt ls k)) := by
  obtain ⟨x, hx⟩ := get_some ls h
  rw [dlAt_get hx]
  exact map_get cDl hx
theorem ow_cell {tb : List Ow} {k : Nat} (h : k < tb.length) : (tb.map cOw)[k]? = some (cOw (owAt tb k)) := by
  obtain ⟨x, hx⟩ := get_some tb h
  rw [owAt_get hx]
  exact map_get cOw hx
theorem gas_cell {gs : List Gs} {i : Int} (h0 : 0 ≤ i) (h1 : i ≤ gs.length - 1) : (gs.map cGs)[i.toNat]? = some (cGs (gasAt gs i)) := by
  have : i.toNat < gs.length := by omega
  unfold gasAt
  rw [List.getElem?_map, List.getElem?_eq_getElem this]
  rfl
theorem le_cell {sf : Int} {gs : List Gs} {ls : List Dl} {k i : Nat} (h : i < k) : ((legsK sf gs ls k).map cLe)[i]? = some (cLe (legAt sf gs ls i)) := map_get cLe (legsK_get h)
theorem le_len (sf : Int) (gs : List Gs) (ls : List Dl) (k : Nat) : ((legsK sf gs ls k).map cLe).length = k := by rw [List.length_map, legsK_len]
theorem clk_cells (tb : List Ow) (sf : Int) (gs : List Gs) (ls : List Dl) (k : Nat) : (clksK tb sf gs ls k).map cI ++ [cI (clkM tb (legAt sf gs ls k))] = (clksK tb sf gs ls (k + 1)).map cI := by rw [clksK_succ, List.map_append]; rfl
theorem shrU1 (i j : Nat) : ((i : Int) + (j : Int)).fdiv (2 ^ (min (1 : Int).toNat IntKind.u64.bits)) = (((i + j) / 2 : Nat) : Int) := by
  have e : (2 : Int) ^ (min (1 : Int).toNat IntKind.u64.bits) = 2 := by decide
  rw [e, Int.fdiv_eq_ediv_of_nonneg _ (by decide)]
  omega
end Go.Proofs.YtibohfipgjljhaaDoor
namespace Go.Proofs.YtibohfipgjljhaaDoor
theorem cons_zero (n : Nat) (ls : List Dl) (amt : Nat → Int) : List.replicate n [Value.int .i64 0] = (consK n ls amt 0).map cI := by unfold consK; rw [List.map_replicate]; rfl
theorem cons_step {n k : Nat} {ls : List Dl} {amt : Nat → Int} {v : Int} (h : (consK n ls amt k)[(dlAt ls k).g.toNat]? = some v) : ((consK n ls amt k).map cI).set (dlAt ls k).g.toNat [.int .i64 (v + amt k)] = (consK n ls amt (k + 1)).map cI := by
  show _ = (addAt (consK n ls amt k) (dlAt ls k).g.toNat (amt k)).map cI
  unfold addAt
  rw [h, List.map_set]
  rfl
end Go.Proofs.YtibohfipgjljhaaDoor
