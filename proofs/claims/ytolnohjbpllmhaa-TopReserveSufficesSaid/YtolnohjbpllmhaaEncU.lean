/-
  The legs of a divided plan as they lie in memory. Conditions: none; no program in sight.
-/
import Derived.Test.YtolnohjbpllmhaaShUse
import Derived.Test.YtolnohjbpllmhaaShPut
import Derived.Test.YtolnohjbpllmhaaXp13
namespace Go.Proofs.Ytolnohjbpllmhaa
def cI (n : Int) : List Value := [.int .i64 n]
def cRg (r : Rg) : List Value := [.int .i64 r.lo, .int .i64 r.hi]
def cGs (g : Gs) : List Value := [.int .i64 g.o, .int .i64 g.h]
def cDl (x : Dl) : List Value := [.int .i64 x.s, .int .i64 x.d, .int .i64 x.g]
def cPl (nm : ByteArray) (sf : Int) (v u : Value) : List Value := [.string nm, .int .i64 sf, v, u]
def cOw (x : Ow) : List Value := [.int .i64 x.f, .int .i64 x.r]
def cRu (t : Value) (r : Ru) : List Value := [t, .int .i64 r.lo, .int .i64 r.hi, .int .i64 r.na, .int .i64 r.de, .int .i64 r.br, .int .i64 r.em, .int .i64 r.pa, .int .i64 r.ac]
def cLe (x : Le) : List Value := [.int .i64 x.x.s, .int .i64 x.x.d, .int .i64 x.x.g, .int .i64 x.b, .int .i64 x.f, .int .i64 x.t, .int .i64 x.sf, .int .i64 x.g.o, .int .i64 x.g.h]
theorem len_map {α : Type} (f : α → List Value) (l : List α) : (l.map f).length = l.length := List.length_map _
theorem en {a b : Int} (h : a = b) : some (Value.int .i64 a) = some (Value.int .i64 b) := by rw [h]
theorem wr {a b : Int} (h : a = b) (h2 : -9223372036854775808 ≤ b ∧ b ≤ 9223372036854775807) : IntKind.i64.wrap a = b := by subst h; exact IntWalk.i64_in _ (by omega)
theorem shr1 (m : Int) : m.fdiv (2 ^ (min (1 : Int).toNat IntKind.i64.bits)) = m / 2 := Int.fdiv_eq_ediv_of_nonneg _ (by decide : (0:Int) ≤ _)
theorem one_map {α : Type} (f : α → List Value) (hf : ∀ a, ∀ c ∈ f a, c.oneCell' = true) (l : List α) : ∀ c ∈ (l.map f).flatten, c.oneCell' = true := fun c hc => by
  obtain ⟨x, hx, hc⟩ := List.mem_flatten.1 hc
  obtain ⟨a, _, rfl⟩ := List.mem_map.1 hx
  exact hf a c hc
theorem oneGs (l : List Gs) : ∀ c ∈ (l.map cGs).flatten, c.oneCell' = true := one_map cGs (fun a c hc => by
  simp only [cGs, List.mem_cons, List.not_mem_nil, or_false] at hc
  rcases hc with rfl | rfl <;> rfl) l
theorem oneDl (l : List Dl) : ∀ c ∈ (l.map cDl).flatten, c.oneCell' = true := one_map cDl (fun a c hc => by
  simp only [cDl, List.mem_cons, List.not_mem_nil, or_false] at hc
  rcases hc with rfl | rfl | rfl <;> rfl) l
theorem oneOw (l : List Ow) : ∀ c ∈ (l.map cOw).flatten, c.oneCell' = true := one_map cOw (fun a c hc => by
  simp only [cOw, List.mem_cons, List.not_mem_nil, or_false] at hc
  rcases hc with rfl | rfl <;> rfl) l
theorem oneI (l : List Int) : ∀ c ∈ (l.map cI).flatten, c.oneCell' = true := one_map cI (fun a c hc => by
  simp only [cI, List.mem_cons, List.not_mem_nil, or_false] at hc
  subst hc; rfl) l
theorem leg_cells (sf : Int) (gs : List Gs) (ls : List Dl) (k : Nat) : (legsK sf gs ls k).map cLe ++ [cLe (legAt sf gs ls k)] = (legsK sf gs ls (k + 1)).map cLe := by rw [legsK_succ, List.map_append]; rfl
theorem dl_cell {ls : List Dl} {k : Nat} (h : k < ls.length) : (ls.map cDl)[k]? = some (cDl (dlAt ls k)) := by
  obtain ⟨x, hx⟩ := get_some ls h
  rw [dlAt_get hx]
  exact map_get cDl hx
theorem ow_cell {tb : List Ow} {k : Nat} (h : k < tb.length) : (tb.map cOw)[k]? = some (cOw (owAt tb k)) := by
  obtain ⟨x, hx⟩ := get_some tb h
  rw [owAt_get hx]
  exact map_get cOw hx
theorem gas_cell {gs : List Gs} {i : Int} (h0 : 0 ≤ i) (h1 : i ≤ gs.length - 1) : (gs.map cGs)[i.toNat]? = some (cGs (gasAt gs i)) := by
  have : i.toNat < gs.length := by omega
  unfold gasAt
  rw [List.getElem?_map, List.getElem?_eq_getElem this]
  rfl
theorem le_cell {sf : Int} {gs : List Gs} {ls : List Dl} {k i : Nat} (h : i < k) : ((legsK sf gs ls k).map cLe)[i]? = some (cLe (legAt sf gs ls i)) := map_get cLe (legsK_get h)
theorem le_len (sf : Int) (gs : List Gs) (ls : List Dl) (k : Nat) : ((legsK sf gs ls k).map cLe).length = k := by rw [List.length_map, legsK_len]
theorem clk_cells (tb : List Ow) (sf : Int) (gs : List Gs) (ls : List Dl) (k : Nat) : (clksK tb sf gs ls k).map cI ++ [cI (clkM tb (legAt sf gs ls k))] = (clksK tb sf gs ls (k + 1)).map cI := by rw [clksK_succ, List.map_append]; rfl
theorem shrU1 (i j : Nat) : ((i : Int) + (j : Int)).fdiv (2 ^ (min (1 : Int).toNat IntKind.u64.bits)) = (((i + j) / 2 : Nat) : Int) := by
  have e : (2 : Int) ^ (min (1 : Int).toNat IntKind.u64.bits) = 2 := by decide
  rw [e, Int.fdiv_eq_ediv_of_nonneg _ (by decide)]
  omega
end Go.Proofs.Ytolnohjbpllmhaa
namespace Go.Proofs.Ytolnohjbpllmhaa
theorem cons_zero (n : Nat) (ls : List Dl) (amt : Nat → Int) : List.replicate n [Value.int .i64 0] = (consK n ls amt 0).map cI := by unfold consK; rw [List.map_replicate]; rfl
theorem cons_step {n k : Nat} {ls : List Dl} {amt : Nat → Int} {v : Int} (h : (consK n ls amt k)[(dlAt ls k).g.toNat]? = some v) : ((consK n ls amt k).map cI).set (dlAt ls k).g.toNat [.int .i64 (v + amt k)] = (consK n ls amt (k + 1)).map cI := by
  show _ = (addAt (consK n ls amt k) (dlAt ls k).g.toNat (amt k)).map cI
  unfold addAt
  rw [h, List.map_set]
  rfl
end Go.Proofs.Ytolnohjbpllmhaa
namespace Go.Proofs.Ytolnohjbpllmhaa
def cSw (x : Int × Int) : List Value := [.int .i64 x.1, .int .i64 x.2]
theorem oneSw (l : List (Int × Int)) : ∀ c ∈ (l.map cSw).flatten, c.oneCell' = true := one_map cSw (fun a c hc => by
  simp only [cSw, List.mem_cons, List.not_mem_nil, or_false] at hc
  rcases hc with rfl | rfl <;> rfl) l
theorem sw_yes {gs : List Gs} {ls : List Dl} {k : Nat} (h0 : 0 < k) (h : swP gs ls k) : (swK gs ls k).map cSw ++ [cSw ((k : Int), (dlAt ls k).g)] = (swK gs ls (k + 1)).map cSw := by rw [swK_yes h0 h, List.map_append]; rfl
theorem sw_no {gs : List Gs} {ls : List Dl} {k : Nat} (h : ¬ (0 < k ∧ swP gs ls k)) : (swK gs ls k).map cSw = (swK gs ls (k + 1)).map cSw := by rw [swK_no h]
theorem pt_cells (ls : List Dl) (k : Nat) : (ptsK ls k).map cSw ++ [cSw (secAt ls (k + 1), depAt ls (k + 1))] = (ptsK ls (k + 1)).map cSw := by rw [ptsK_succ, List.map_append]; rfl
theorem pt_cell {ls : List Dl} {k i : Nat} (h : i ≤ k) : ((ptsK ls k).map cSw)[i]? = some (cSw (secAt ls i, depAt ls i)) := map_get cSw (ptsK_get h)
end Go.Proofs.Ytolnohjbpllmhaa
namespace Go.Proofs.Ytolnohjbpllmhaa
section
variable {g : Gs} {sf a b : Int} {r : Ru} {k j : Nat} {gs : List Gs} {ls : List Dl}
theorem bk_0y (h : g.o * min a b < 1000 * r.lo) : [cI 1] = (brkK g sf a b r 0).map cI := by show _ = (if _ then _ else _ : List Int).map cI; rw [if_pos h]; rfl
theorem bk_0n (h : ¬ g.o * min a b < 1000 * r.lo) : [] = (brkK g sf a b r 0).map cI := by show _ = (if _ then _ else _ : List Int).map cI; rw [if_neg h]; rfl
theorem bk_1y (h : richB g (max a b) r = true) : (brkK g sf a b r 0).map cI ++ [cI 2] = (brkK g sf a b r 1).map cI := by show _ = (brkK g sf a b r 0 ++ (if _ then _ else _)).map cI; rw [if_pos h, List.map_append]; rfl
theorem bk_1n (h : richB g (max a b) r = false) : (brkK g sf a b r 0).map cI = (brkK g sf a b r 1).map cI := by show _ = (brkK g sf a b r 0 ++ (if _ then _ else _)).map cI; rw [if_neg (by rw [h]; decide), List.append_nil]
theorem bk_2y (h : narcB g sf (max a b) r = true) : (brkK g sf a b r 1).map cI ++ [cI 3] = (brkK g sf a b r 2).map cI := by show _ = (brkK g sf a b r 1 ++ (if _ then _ else _)).map cI; rw [if_pos h, List.map_append]; rfl
theorem bk_2n (h : narcB g sf (max a b) r = false) : (brkK g sf a b r 1).map cI = (brkK g sf a b r 2).map cI := by show _ = (brkK g sf a b r 1 ++ (if _ then _ else _)).map cI; rw [if_neg (by rw [h]; decide), List.append_nil]
theorem bk_3y (h : denB g (max a b) r = true) : (brkK g sf a b r 2).map cI ++ [cI 4] = (brkK g sf a b r 3).map cI := by show _ = (brkK g sf a b r 2 ++ (if _ then _ else _)).map cI; rw [if_pos h, List.map_append]; rfl
theorem bk_3n (h : denB g (max a b) r = false) : (brkK g sf a b r 2).map cI = (brkK g sf a b r 3).map cI := by show _ = (brkK g sf a b r 2 ++ (if _ then _ else _)).map cI; rw [if_neg (by rw [h]; decide), List.append_nil]
theorem bp_step {x : Int} (h : (brkA r sf gs ls k)[j]? = some x) : (brp r sf gs ls k j).map cSw ++ [cSw ((k : Int), x)] = (brp r sf gs ls k (j + 1)).map cSw := by rw [brp_step h, List.map_append]; rfl
end
end Go.Proofs.Ytolnohjbpllmhaa
namespace Go.Proofs.Ytolnohjbpllmhaa
section
variable {sf : Int} {r : Ru} {gs : List Gs} {ls : List Dl} {σ k : Nat} {x : Int × Int}
theorem rs_zero : List.replicate gs.length (cSw (0, -1)) = (resK r sf gs ls 0).map cSw := by unfold resK; rw [List.map_replicate]
theorem rs_yes (h : (resK r sf gs ls σ)[(gN ls σ).toNat]? = some x) (hu : upP r sf gs ls σ x) : ((resK r sf gs ls σ).map cSw).set (gN ls σ).toNat [.int .i64 (aN r sf gs ls σ), .int .i64 (σ : Int)] = (resK r sf gs ls (σ + 1)).map cSw := by rw [resK_yes h hu, List.map_set]; rfl
theorem rs_no (h : (resK r sf gs ls σ)[(gN ls σ).toNat]? = some x) (hu : ¬ upP r sf gs ls σ x) : (resK r sf gs ls σ).map cSw = (resK r sf gs ls (σ + 1)).map cSw := by rw [resK_no h hu]
theorem am_cells (h : (resM r sf gs ls)[k]? = some x) : (amK r sf gs ls k).map cI ++ [cI x.1] = (amK r sf gs ls (k + 1)).map cI := by rw [amK_step h, List.map_append]; rfl
theorem rs_rep (n : Nat) : List.replicate n (cSw (0, -1)) ++ [cSw (0, -1)] = List.replicate (n + 1) (cSw (0, -1)) := (List.replicate_succ').symm
end
end Go.Proofs.Ytolnohjbpllmhaa
namespace Go.Proofs.Ytolnohjbpllmhaa
theorem dv_cells (ls : List Dl) (k : Nat) (c : Int) : ((([] : List (List Value)) ++ (ls.map cDl).take k) ++ [cDl (dvA ls k c), cDl (dvB ls k c)]) ++ (ls.map cDl).drop (k + 1) = (dvL ls k c).map cDl := by
  unfold dvL
  rw [List.nil_append, List.map_append, List.map_append, List.map_take, List.map_drop]
  rfl
theorem bf_cells {ls : List Dl} {k : Nat} (hk : k < ls.length) (a b : Int) : ((((ls.take (k + 1)).map cDl).set k (lay (cDl (dlAt ls k)) 0 [.int .i64 a])).set k (lay (lay (cDl (dlAt ls k)) 0 [.int .i64 a]) 1 [.int .i64 b])) = (ls.take k ++ [(⟨a, b, (dlAt ls k).g⟩ : Dl)]).map cDl := by
  obtain ⟨x, hx⟩ := get_some ls hk
  have hd := dlAt_get hx
  have e1 : ls.take (k + 1) = ls.take k ++ [x] := by rw [List.take_add_one, hx]; rfl
  have e2 : (ls.take k).length = k := by rw [List.length_take]; omega
  rw [List.set_set, e1, List.map_append, List.map_append, List.set_append_right _ _ (by rw [List.length_map, e2]; omega), List.length_map, e2, Nat.sub_self]
  rfl
theorem bf_cells2 {ls : List Dl} {σ : Nat} (hk : kAt ls σ < ls.length) (h0 : ¬ σ = 0) : ((((ls.take (kAt ls σ + 1)).map cDl).set (kAt ls σ) (lay (cDl (dlAt ls (kAt ls σ))) 0 [.int .i64 ((σ : Int) - secAt ls (kAt ls σ))])).set (kAt ls σ) (lay (lay (cDl (dlAt ls (kAt ls σ))) 0 [.int .i64 ((σ : Int) - secAt ls (kAt ls σ))]) 1 [.int .i64 (dpL ls σ)])) = (bfL ls σ).map cDl := by
  rw [bf_cells hk, bfL_1 h0]
theorem take_cell {ls : List Dl} {k : Nat} (hk : k < ls.length) : ((ls.take (k + 1)).map cDl)[k]? = some (cDl (dlAt ls k)) := by
  rw [List.getElem?_map, List.getElem?_take_of_lt (by omega), ← List.getElem?_map]
  exact dl_cell hk
end Go.Proofs.Ytolnohjbpllmhaa
