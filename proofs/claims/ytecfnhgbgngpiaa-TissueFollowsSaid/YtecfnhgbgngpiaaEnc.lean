/-
  How the data of chapter 3 lies in memory. Conditions: none; no program in sight.
-/
import Derived.Test.YtecfnhgbgngpiaaShUse
import Derived.Test.YtecfnhgbgngpiaaMod4
import Derived.Test.YtecfnhgbgngpiaaShPut
namespace Go.Proofs.Ytecfnhgbgngpiaa
def cI (n : Int) : List Value := [.int .i64 n]
def cCp (c : Cp) : List Value := [.int .i64 c.n, .int .i64 c.h, .int .i64 c.b, .int .i64 c.s]
def cRg (r : Rg) : List Value := [.int .i64 r.lo, .int .i64 r.hi]
def cLd (l : Ld) : List Value := [.int .i64 l.n.lo, .int .i64 l.n.hi, .int .i64 l.h.lo, .int .i64 l.h.hi]
def cGs (g : Gs) : List Value := [.int .i64 g.o, .int .i64 g.h]
def cLg (x : Lg) : List Value := [.int .i64 x.f, .int .i64 x.t, .int .i64 x.s, .int .i64 x.g.o, .int .i64 x.g.h]
def vRg (r : Rg) : Value := .agg (cRg r).toArray
theorem rtsL_cells (k : Nat) : (rtsL k).map cRg ++ [cRg (rootR k)] = (rtsL (k + 1)).map cRg := by rw [rtsL_succ, List.map_append]; rfl
theorem rtsL_yes {k : Nat} (h : sqrZ (1000000000 * (rootR k).hi) * sqrZ (1000000000 * (rootR k).hi) < 1000000000 * (rootR k).hi) : (rtsL (k + 1)).map cRg ++ [cRg ⟨sqrZ (1000000000 * (rootR k).lo), sqrZ (1000000000 * (rootR k).hi) + 1⟩] = (rtsL (k + 1 + 1)).map cRg := by rw [root_yes h]; exact rtsL_cells (k + 1)
theorem rtsL_no {k : Nat} (h : ¬ sqrZ (1000000000 * (rootR k).hi) * sqrZ (1000000000 * (rootR k).hi) < 1000000000 * (rootR k).hi) : (rtsL (k + 1)).map cRg ++ [cRg ⟨sqrZ (1000000000 * (rootR k).lo), sqrZ (1000000000 * (rootR k).hi)⟩] = (rtsL (k + 1 + 1)).map cRg := by rw [root_no h]; exact rtsL_cells (k + 1)
theorem rts_cells_len (n : Nat) : ((rts n).map cRg).length = n + 1 := by rw [List.length_map, rts_len]
theorem rts_cell {n k : Nat} (h : k ≤ n) : ((rts n).map cRg)[k]? = some (cRg (rootR k)) := map_get cRg (rts_get h)
theorem rts_tail_cell {n k : Nat} (h : k < n) : (((rts n).map cRg).drop (1 : Int).toNat)[k]? = some (cRg (rootR (k + 1))) := by
  rw [List.getElem?_drop, show (1 : Int).toNat + k = k + 1 by omega]
  exact rts_cell (by omega)
theorem rts_tail_cells_len (n : Nat) : (((rts n).map cRg).drop (1 : Int).toNat).length = n := by
  rw [List.length_drop, rts_cells_len]; omega
theorem ld_cell (l : Ld) {j : Nat} (h : j < 4) : (cLd l)[(j : Int).toNat * 1]? = some (.int .i64 (ldN l j)) := by
  match j, h with
  | 0, _ => rfl
  | 1, _ => rfl
  | 2, _ => rfl
  | 3, _ => rfl
theorem len_map {α : Type} (f : α → List Value) (l : List α) : (l.map f).length = l.length := List.length_map _
theorem shr1 (m : Int) : m.fdiv (2 ^ (min (1 : Int).toNat IntKind.i64.bits)) = m / 2 := Int.fdiv_eq_ediv_of_nonneg _ (by decide : (0:Int) ≤ _)
theorem shr2 (m : Int) : m.fdiv (2 ^ (min (2 : Int).toNat IntKind.i64.bits)) = m / 4 := Int.fdiv_eq_ediv_of_nonneg _ (by decide : (0:Int) ≤ _)
theorem en {a b : Int} (h : a = b) : some (Value.int .i64 a) = some (Value.int .i64 b) := by rw [h]
def cMk (m : Mk) : List Value := [.int .i64 m.s, .int .i64 m.p.lo, .int .i64 m.p.hi]
theorem wr {a b : Int} (h : a = b) (h2 : -9223372036854775808 ≤ b ∧ b ≤ 9223372036854775807) : IntKind.i64.wrap a = b := by subst h; exact IntWalk.i64_in _ (by omega)
theorem shl_n {f n : Nat} (hf : f ≤ 6) (hn : n = 2 ^ f) : IntKind.i64.wrap (1 * 2 ^ (min (f : Int).toNat IntKind.i64.bits)) = (n : Int) := by
  subst hn
  match f, hf with
  | 0, _ => rfl
  | 1, _ => rfl
  | 2, _ => rfl
  | 3, _ => rfl
  | 4, _ => rfl
  | 5, _ => rfl
  | 6, _ => rfl
theorem stepM_cells {n : Nat} {s lo hi : Int} {g : Gs} {ts : List Cp} {ls : List Ld} {k : Nat} {c : Cp} {x : Ld} (h1 : ts[k]? = some c) (h2 : ls[k]? = some x) : ((stepM n s lo hi g ts ls).take k).map cLd ++ [cLd (stepL n s lo hi g c x)] = ((stepM n s lo hi g ts ls).take (k + 1)).map cLd := by
  unfold stepM
  rw [zip_take _ h1 h2, List.map_append]
  rfl
theorem stepM_all {n : Nat} {s lo hi : Int} {g : Gs} {ts : List Cp} {ls : List Ld} {k : Nat} (h : ls.length = ts.length) (hk : ts.length ≤ k) : (stepM n s lo hi g ts ls).take k = stepM n s lo hi g ts ls := List.take_of_length_le (by rw [stepM_len h]; exact hk)
theorem mks_cell {x : Lg} {n k j : Nat} (h : j < k) : ((mksL x n k).map cMk)[j]? = some (cMk (mkM x n j)) := map_get cMk (mksL_get h)
theorem mks_cells (x : Lg) (n k : Nat) : (mksL x n k).map cMk ++ [cMk (mkM x n k)] = (mksL x n (k + 1)).map cMk := by rw [mksL_succ, List.map_append]; rfl
theorem mks_pos {x : Lg} {n k : Nat} (h : x.s > 0) : (mksL x n k).map cMk ++ [cMk ⟨k * x.s / n, ⟨sumM x (k * x.s / n) / x.s, upZ (sumM x (k * x.s / n)) x.s⟩⟩] = (mksL x n (k + 1)).map cMk := by
  rw [← mks_cells]
  unfold mkM
  rw [if_pos h]
theorem mks_zero {x : Lg} {n k : Nat} (h : ¬ x.s > 0) : (mksL x n k).map cMk ++ [cMk ⟨k * x.s / n, ⟨x.f, x.f⟩⟩] = (mksL x n (k + 1)).map cMk := by
  rw [← mks_cells]
  unfold mkM
  rw [if_neg h]
theorem mks_alt {x : Lg} {n k : Nat} (h : x.s > 0) : (mksL x n k).map cMk ++ [cMk ⟨k * x.s / n, ⟨(x.f * x.s + (x.t - x.f) * (k * x.s / n)) / x.s, upZ (x.f * x.s + (x.t - x.f) * (k * x.s / n)) x.s⟩⟩] = (mksL x n (k + 1)).map cMk := by
  rw [← mks_pos h, sum_alt]
def rmk (x : Lg) (n : Nat) : Nat := if x.s = 0 then 1 else n + 1
theorem rmk_zero {x : Lg} {n : Nat} (h : x.s = 0) : (mksL x n (rmk x n)).map cMk = [cMk ⟨0, ⟨x.f, x.f⟩⟩] := by
  unfold rmk
  rw [if_pos h]
  show [cMk (mkM x n (0 : Nat))] = _
  unfold mkM
  rw [if_neg (by omega), h]
  simp
theorem rmk_pos {x : Lg} {n : Nat} (h : x.s ≠ 0) : rmk x n = n + 1 := if_neg h
def stC (x : Lg) (n k : Nat) (y : Value) : List Value := [.int .i64 (mkM x n k).s, .int .i64 (mkM x n k).p.lo, .int .i64 (mkM x n k).p.hi, y, .int .i64 (lowM x n k)]
theorem mks_tail_cell {x : Lg} {n j : Nat} (h : j < n) : (((mksL x n (n + 1)).map cMk).drop (1 : Int).toNat)[j]? = some (cMk (mkM x n ((j : Int) + 1))) := by
  rw [List.getElem?_drop, show (1 : Int).toNat + j = j + 1 by omega]
  exact mks_cell (by omega)
theorem mks_tail_len (x : Lg) (n : Nat) : (((mksL x n (n + 1)).map cMk).drop (1 : Int).toNat).length = n := by
  rw [List.length_drop, List.length_map, mksL_len]; omega
theorem mks_len (x : Lg) (n k : Nat) : ((mksL x n k).map cMk).length = k := by rw [List.length_map, mksL_len]
theorem rmk_one {x : Lg} {n : Nat} (h : x.s = 0) : rmk x n = 1 := if_pos h
theorem one_map {α : Type} (f : α → List Value) (hf : ∀ a, ∀ c ∈ f a, c.oneCell' = true) (l : List α) : ∀ c ∈ (l.map f).flatten, c.oneCell' = true := fun c hc => by
  obtain ⟨x, hx, hcx⟩ := List.mem_flatten.1 hc
  obtain ⟨a, _, rfl⟩ := List.mem_map.1 hx
  exact hf a c hcx
theorem oneLd (l : List Ld) : ∀ c ∈ (l.map cLd).flatten, c.oneCell' = true := one_map cLd (fun a c hc => by
  simp only [cLd, List.mem_cons, List.not_mem_nil, or_false] at hc
  rcases hc with rfl | rfl | rfl | rfl <;> rfl) l
theorem oneCp (l : List Cp) : ∀ c ∈ (l.map cCp).flatten, c.oneCell' = true := one_map cCp (fun a c hc => by
  simp only [cCp, List.mem_cons, List.not_mem_nil, or_false] at hc
  rcases hc with rfl | rfl | rfl | rfl <;> rfl) l
theorem oneLg (l : List Lg) : ∀ c ∈ (l.map cLg).flatten, c.oneCell' = true := one_map cLg (fun a c hc => by
  simp only [cLg, List.mem_cons, List.not_mem_nil, or_false] at hc
  rcases hc with rfl | rfl | rfl | rfl | rfl <;> rfl) l
end Go.Proofs.Ytecfnhgbgngpiaa
