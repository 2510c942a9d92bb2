/-
  Plain models of chapter 3: what the statements' own functions and the smaller functions compute. Conditions: none; no program in sight.
-/
import Derived.Test.YtacndicgpkeobaaGreatDoorTr
import Derived.Test.YtacndicgpkeobaaGreatDoorShEq
import Derived.Test.YtacndicgpkeobaaGreatDoorShKn
namespace Go.Proofs.YtacndicgpkeobaaGreatDoor

/-! ### Right tables and loads -/
def ordLd (l : Ld) : Prop := l.n.lo ≤ l.n.hi ∧ l.h.lo ≤ l.h.hi
structure okTL (ts : List Cp) (ls : List Ld) : Prop where
  a : 1 ≤ ts.length
  b : ts.length ≤ 16
  len : ls.length = ts.length
  c : ∀ c ∈ ts, okCp c
  x : ∀ y ∈ ls, inLd y
  o : ∀ y ∈ ls, ordLd y
theorem ckCps_ok : ∀ {ts : List Cp}, ckCps ts = 0 → ∀ c ∈ ts, okCp c
  | [], _, c, hc => by cases hc
  | d :: t, h, c, hc => by
    unfold ckCps at h
    split at h
    · rename_i hd
      rcases List.mem_cons.1 hc with rfl | hc
      · exact hd
      · exact ckCps_ok h c hc
    · cases h
theorem ckLd_ok {l : Ld} (h : ckLd l = 0) : inLd l ∧ ordLd l := by
  have h1 := ckSpan_cases l.n
  have h2 := ckSpan_cases l.h
  unfold ckLd at h
  split at h
  · cases h
  · split at h
    · cases h
    · rename_i h3 h4
      have ⟨a1, a2, a3, a4, a5⟩ : ckSpan l.n = 0 ∧ 0 ≤ l.n.lo ∧ l.n.lo ≤ 100000000 ∧ 0 ≤ l.n.hi ∧ l.n.hi ≤ 100000000 := by omega
      have ⟨b1, b2, b3, b4, b5⟩ : ckSpan l.h = 0 ∧ 0 ≤ l.h.lo ∧ l.h.lo ≤ 100000000 ∧ 0 ≤ l.h.hi ∧ l.h.hi ≤ 100000000 := by omega
      exact ⟨⟨⟨a2, a3, a4, a5⟩, ⟨b2, b3, b4, b5⟩⟩, by unfold ordLd; omega⟩
theorem ckLds_ok : ∀ {ls : List Ld}, ckLds ls = 0 → ∀ y ∈ ls, inLd y ∧ ordLd y
  | [], _, y, hy => by cases hy
  | d :: t, h, y, hy => by
    unfold ckLds at h
    split at h
    · rename_i hd; exact absurd h hd
    · rename_i hd
      rcases List.mem_cons.1 hy with rfl | hy
      · exact ckLd_ok (Decidable.not_not.1 hd)
      · exact ckLds_ok h y hy
theorem ckLoads_ok {ts : List Cp} {ls : List Ld} (h : ckLoads ts ls = 0) : okTL ts ls := by
  unfold ckLoads at h
  split at h
  · rename_i h1; exact absurd h h1
  · rename_i h1
    have h1 := Decidable.not_not.1 h1
    split at h
    · cases h
    · rename_i h2
      have h2 := Decidable.not_not.1 h2
      unfold ckTab at h1
      split at h1
      · rename_i h3
        exact ⟨h3.1, h3.2, h2, ckCps_ok h1, fun y hy => (ckLds_ok h y hy).1, fun y hy => (ckLds_ok h y hy).2⟩
      · cases h1
def loadedE (ts : List Cp) (ls : List Ld) (x : Lg) (f : Int) : List Ld × Int :=
  if ckLoads ts ls ≠ 0 then ([], ckLoads ts ls) else if ckLeg x ≠ 0 then ([], ckLeg x) else if 0 ≤ f ∧ f ≤ 6 then (loadedM ts ls x f.toNat, 0) else ([], 2)
theorem loadedE_1 {ts : List Cp} {ls : List Ld} {x : Lg} {f : Int} (h : ckLoads ts ls ≠ 0) : loadedE ts ls x f = ([], ckLoads ts ls) := if_pos h
theorem loadedE_2 {ts : List Cp} {ls : List Ld} {x : Lg} {f : Int} (h : ¬ ckLoads ts ls ≠ 0) (h2 : ckLeg x ≠ 0) : loadedE ts ls x f = ([], ckLeg x) := by unfold loadedE; rw [if_neg h, if_pos h2]
theorem loadedE_3 {ts : List Cp} {ls : List Ld} {x : Lg} {f : Int} (h : ¬ ckLoads ts ls ≠ 0) (h2 : ¬ ckLeg x ≠ 0) (h3 : ¬ (0 ≤ f ∧ f ≤ 6)) : loadedE ts ls x f = ([], 2) := by unfold loadedE; rw [if_neg h, if_neg h2, if_neg h3]
theorem loadedE_4 {ts : List Cp} {ls : List Ld} {x : Lg} {f : Nat} (h : ¬ ckLoads ts ls ≠ 0) (h2 : ¬ ckLeg x ≠ 0) (h3 : f ≤ 6) : loadedE ts ls x (f : Int) = (loadedM ts ls x f, 0) := by unfold loadedE; rw [if_neg h, if_neg h2, if_pos (by omega)]; rfl

/-! ### Limits -/
def limM (c : Cp) (p f : Int) : Int := 1000000 * p + f * (1000 * c.b + (c.s - 1000) * p)
theorem lim_in {c : Cp} {p f : Int} (hc : okCp c) (hp : 0 ≤ p ∧ p ≤ 50000) (hf : 0 ≤ f ∧ f ≤ 1000) : 0 ≤ (c.s - 1000) * p ∧ (c.s - 1000) * p ≤ 450000000 ∧ 0 ≤ f * (1000 * c.b + (c.s - 1000) * p) ∧ f * (1000 * c.b + (c.s - 1000) * p) ≤ 460000000000 ∧ limM c p f = 1000000 * p + f * (1000 * c.b + (c.s - 1000) * p) := by
  obtain ⟨_, _, _, _, b1, b2, s1, s2⟩ := hc
  have h1 := Int.mul_nonneg (show 0 ≤ c.s - 1000 by omega) hp.1
  have h2 := Int.mul_le_mul (show c.s - 1000 ≤ 9000 by omega) hp.2 hp.1 (by omega)
  have h3 := Int.mul_nonneg hf.1 (show 0 ≤ 1000 * c.b + (c.s - 1000) * p by omega)
  have h4 := Int.mul_le_mul hf.2 (show 1000 * c.b + (c.s - 1000) * p ≤ 460000000 by omega) (by omega) (by omega)
  exact ⟨h1, by omega, h3, by omega, rfl⟩
theorem lim_rise (c : Cp) (f : Int) : limM c 1 f - limM c 0 f = 1000000 + f * (c.s - 1000) := by unfold limM; grind
theorem rise_in {c : Cp} {f : Int} (hc : okCp c) (hf : 0 ≤ f ∧ f ≤ 1000) : 0 ≤ f * (c.s - 1000) ∧ f * (c.s - 1000) ≤ 9000000 ∧ 0 ≤ 1000 * f * c.b ∧ 1000 * f * c.b ≤ 10000000000 := by
  obtain ⟨_, _, _, _, b1, b2, s1, s2⟩ := hc
  have h1 := Int.mul_nonneg hf.1 (show 0 ≤ c.s - 1000 by omega)
  have h2 := Int.mul_le_mul hf.2 (show c.s - 1000 ≤ 9000 by omega) (by omega) (by omega)
  have h3 := Int.mul_nonneg (show 0 ≤ 1000 * f by omega) b1
  have h4 := Int.mul_le_mul (show 1000 * f ≤ 1000000 by omega) b2 b1 (by omega)
  omega
def ceilL (c : Cp) (z f : Int) : Int := upZ (max 0 (1000 * z - limM c 0 f)) (limM c 1 f - limM c 0 f)
def ceilF (f : Int) : List Cp → List Ld → Rg → Rg
  | c :: ts, x :: ls, r => ceilF f ts ls ⟨max r.lo (ceilL c (x.n.lo + x.h.lo) f), max r.hi (ceilL c (x.n.hi + x.h.hi) f)⟩
  | _, _, r => r
theorem ceilF_step {f : Int} {ts : List Cp} {ls : List Ld} {k : Nat} {c : Cp} {x : Ld} {r : Rg} (h1 : ts[k]? = some c) (h2 : ls[k]? = some x) :
    ceilF f (ts.drop k) (ls.drop k) r = ceilF f (ts.drop (k + 1)) (ls.drop (k + 1)) ⟨max r.lo (ceilL c (x.n.lo + x.h.lo) f), max r.hi (ceilL c (x.n.hi + x.h.hi) f)⟩ := by
  rw [drop_cons h1, drop_cons h2]
  rfl
theorem ceilF_end {f : Int} {ts : List Cp} {ls : List Ld} {k : Nat} {r : Rg} (h1 : ts.length ≤ k) : ceilF f (ts.drop k) (ls.drop k) r = r := by
  rw [drop_all h1]
  unfold ceilF
  rfl
def ceilE (ts : List Cp) (ls : List Ld) (f : Int) : Rg × Int := if ckLoads ts ls ≠ 0 then (⟨0, 0⟩, ckLoads ts ls) else if 0 ≤ f ∧ f ≤ 1000 then (ceilF f ts ls ⟨0, 0⟩, 0) else (⟨0, 0⟩, 2)
theorem ceilE_1 {ts : List Cp} {ls : List Ld} {f : Int} (h : ckLoads ts ls ≠ 0) : ceilE ts ls f = (⟨0, 0⟩, ckLoads ts ls) := if_pos h
theorem ceilE_2 {ts : List Cp} {ls : List Ld} {f : Int} (h : ¬ ckLoads ts ls ≠ 0) (h2 : ¬ (0 ≤ f ∧ f ≤ 1000)) : ceilE ts ls f = (⟨0, 0⟩, 2) := by unfold ceilE; rw [if_neg h, if_neg h2]
theorem ceilE_3 {ts : List Cp} {ls : List Ld} {f : Int} (h : ¬ ckLoads ts ls ≠ 0) (h2 : 0 ≤ f ∧ f ≤ 1000) : ceilE ts ls f = (ceilF f ts ls ⟨0, 0⟩, 0) := by unfold ceilE; rw [if_neg h, if_pos h2]
/-! ### Rests -/
def restM (ts : List Cp) (ls : List Ld) (p s : Int) : List Ld := stepM 20 s p p ⟨210, 0⟩ ts ls
def restE (ts : List Cp) (ls : List Ld) (p s : Int) : List Ld × Int :=
  if ckLoads ts ls ≠ 0 then ([], ckLoads ts ls) else if 400 ≤ p ∧ p ≤ 1100 ∧ 0 ≤ s ∧ s ≤ 1000000 then (restM ts ls p s, 0) else ([], 2)
end Go.Proofs.YtacndicgpkeobaaGreatDoor
namespace Go.Proofs.YtacndicgpkeobaaGreatDoor
def cI (n : Int) : List Value := [.int .i64 n]
def cCp (c : Cp) : List Value := [.int .i64 c.n, .int .i64 c.h, .int .i64 c.b, .int .i64 c.s]
def cRg (r : Rg) : List Value := [.int .i64 r.lo, .int .i64 r.hi]
def cLd (l : Ld) : List Value := [.int .i64 l.n.lo, .int .i64 l.n.hi, .int .i64 l.h.lo, .int .i64 l.h.hi]
def cLg (x : Lg) : List Value := [.int .i64 x.f, .int .i64 x.t, .int .i64 x.s, .int .i64 x.g.o, .int .i64 x.g.h]
theorem rtsL_cells (k : Nat) : (rtsL k).map cRg ++ [cRg (rootR k)] = (rtsL (k + 1)).map cRg := by rw [rtsL_succ, List.map_append]; rfl
theorem rtsL_yes {k : Nat} (h : sqrZ (1000000000 * (rootR k).hi) * sqrZ (1000000000 * (rootR k).hi) < 1000000000 * (rootR k).hi) : (rtsL (k + 1)).map cRg ++ [cRg ⟨sqrZ (1000000000 * (rootR k).lo), sqrZ (1000000000 * (rootR k).hi) + 1⟩] = (rtsL (k + 1 + 1)).map cRg := by rw [root_yes h]; exact rtsL_cells (k + 1)
theorem rtsL_no {k : Nat} (h : ¬ sqrZ (1000000000 * (rootR k).hi) * sqrZ (1000000000 * (rootR k).hi) < 1000000000 * (rootR k).hi) : (rtsL (k + 1)).map cRg ++ [cRg ⟨sqrZ (1000000000 * (rootR k).lo), sqrZ (1000000000 * (rootR k).hi)⟩] = (rtsL (k + 1 + 1)).map cRg := by rw [root_no h]; exact rtsL_cells (k + 1)
theorem rts_cells_len (n : Nat) : ((rts n).map cRg).length = n + 1 := by rw [List.length_map, rts_len]
theorem rts_cell {n k : Nat} (h : k ≤ n) : ((rts n).map cRg)[k]? = some (cRg (rootR k)) := map_get cRg (rts_get h)
theorem rts_tail_cell {n k : Nat} (h : k < n) : (((rts n).map cRg).drop (1 : Int).toNat)[k]? = some (cRg (rootR (k + 1))) := by
  rw [List.getElem?_drop, show (1 : Int).toNat + k = k + 1 by omega]
  exact rts_cell (by omega)
theorem rts_tail_cells_len (n : Nat) : (((rts n).map cRg).drop (1 : Int).toNat).length = n := by
  rw [List.length_drop, rts_cells_len]; omega
theorem ld_cell (l : Ld) {j : Nat} (h : j < 4) : (cLd l)[(j : Int).toNat * 1]? = some (.int .i64 (ldN l j)) := by
  match j, h with
  | 0, _ => rfl
  | 1, _ => rfl
  | 2, _ => rfl
  | 3, _ => rfl
theorem len_map {α : Type} (f : α → List Value) (l : List α) : (l.map f).length = l.length := List.length_map _
theorem shr1 (m : Int) : m.fdiv (2 ^ (min (1 : Int).toNat IntKind.i64.bits)) = m / 2 := Int.fdiv_eq_ediv_of_nonneg _ (by decide : (0:Int) ≤ _)
theorem shr2 (m : Int) : m.fdiv (2 ^ (min (2 : Int).toNat IntKind.i64.bits)) = m / 4 := Int.fdiv_eq_ediv_of_nonneg _ (by decide : (0:Int) ≤ _)
theorem en {a b : Int} (h : a = b) : some (Value.int .i64 a) = some (Value.int .i64 b) := by rw [h]
def cMk (m : Mk) : List Value := [.int .i64 m.s, .int .i64 m.p.lo, .int .i64 m.p.hi]
theorem wr {a b : Int} (h : a = b) (h2 : -9223372036854775808 ≤ b ∧ b ≤ 9223372036854775807) : IntKind.i64.wrap a = b := by subst h; exact IntWalk.i64_in _ (by omega)
theorem shl_n {f n : Nat} (hf : f ≤ 6) (hn : n = 2 ^ f) : IntKind.i64.wrap (1 * 2 ^ (min (f : Int).toNat IntKind.i64.bits)) = (n : Int) := by
  subst hn
  match f, hf with
  | 0, _ => rfl
  | 1, _ => rfl
  | 2, _ => rfl
  | 3, _ => rfl
  | 4, _ => rfl
  | 5, _ => rfl
  | 6, _ => rfl
theorem stepM_cells {n : Nat} {s lo hi : Int} {g : Gs} {ts : List Cp} {ls : List Ld} {k : Nat} {c : Cp} {x : Ld} (h1 : ts[k]? = some c) (h2 : ls[k]? = some x) : ((stepM n s lo hi g ts ls).take k).map cLd ++ [cLd (stepL n s lo hi g c x)] = ((stepM n s lo hi g ts ls).take (k + 1)).map cLd := by
  unfold stepM
  rw [zip_take _ h1 h2, List.map_append]
  rfl
theorem stepM_all {n : Nat} {s lo hi : Int} {g : Gs} {ts : List Cp} {ls : List Ld} {k : Nat} (h : ls.length = ts.length) (hk : ts.length ≤ k) : (stepM n s lo hi g ts ls).take k = stepM n s lo hi g ts ls := List.take_of_length_le (by rw [stepM_len h]; exact hk)
theorem mks_cell {x : Lg} {n k j : Nat} (h : j < k) : ((mksL x n k).map cMk)[j]? = some (cMk (mkM x n j)) := map_get cMk (mksL_get h)
theorem mks_cells (x : Lg) (n k : Nat) : (mksL x n k).map cMk ++ [cMk (mkM x n k)] = (mksL x n (k + 1)).map cMk := by rw [mksL_succ, List.map_append]; rfl
theorem mks_pos {x : Lg} {n k : Nat} (h : x.s > 0) : (mksL x n k).map cMk ++ [cMk ⟨k * x.s / n, ⟨sumM x (k * x.s / n) / x.s, upZ (sumM x (k * x.s / n)) x.s⟩⟩] = (mksL x n (k + 1)).map cMk := by
  rw [← mks_cells]
  unfold mkM
  rw [if_pos h]
theorem mks_zero {x : Lg} {n k : Nat} (h : ¬ x.s > 0) : (mksL x n k).map cMk ++ [cMk ⟨k * x.s / n, ⟨x.f, x.f⟩⟩] = (mksL x n (k + 1)).map cMk := by
  rw [← mks_cells]
  unfold mkM
  rw [if_neg h]
def rmk (x : Lg) (n : Nat) : Nat := if x.s = 0 then 1 else n + 1
theorem rmk_pos {x : Lg} {n : Nat} (h : x.s ≠ 0) : rmk x n = n + 1 := if_neg h
def stC (x : Lg) (n k : Nat) (y : Value) : List Value := [.int .i64 (mkM x n k).s, .int .i64 (mkM x n k).p.lo, .int .i64 (mkM x n k).p.hi, y, .int .i64 (lowM x n k)]
theorem mks_tail_cell {x : Lg} {n j : Nat} (h : j < n) : (((mksL x n (n + 1)).map cMk).drop (1 : Int).toNat)[j]? = some (cMk (mkM x n ((j : Int) + 1))) := by
  rw [List.getElem?_drop, show (1 : Int).toNat + j = j + 1 by omega]
  exact mks_cell (by omega)
theorem mks_tail_len (x : Lg) (n : Nat) : (((mksL x n (n + 1)).map cMk).drop (1 : Int).toNat).length = n := by
  rw [List.length_drop, List.length_map, mksL_len]; omega
theorem mks_len (x : Lg) (n k : Nat) : ((mksL x n k).map cMk).length = k := by rw [List.length_map, mksL_len]
theorem rmk_one {x : Lg} {n : Nat} (h : x.s = 0) : rmk x n = 1 := if_pos h
theorem one_map {α : Type} (f : α → List Value) (hf : ∀ a, ∀ c ∈ f a, c.oneCell' = true) (l : List α) : ∀ c ∈ (l.map f).flatten, c.oneCell' = true := fun c hc => by
  obtain ⟨x, hx, hcx⟩ := List.mem_flatten.1 hc
  obtain ⟨a, _, rfl⟩ := List.mem_map.1 hx
  exact hf a c hcx
theorem oneLd (l : List Ld) : ∀ c ∈ (l.map cLd).flatten, c.oneCell' = true := one_map cLd (fun a c hc => by
  simp only [cLd, List.mem_cons, List.not_mem_nil, or_false] at hc
  rcases hc with rfl | rfl | rfl | rfl <;> rfl) l
theorem oneCp (l : List Cp) : ∀ c ∈ (l.map cCp).flatten, c.oneCell' = true := one_map cCp (fun a c hc => by
  simp only [cCp, List.mem_cons, List.not_mem_nil, or_false] at hc
  rcases hc with rfl | rfl | rfl | rfl <;> rfl) l
end Go.Proofs.YtacndicgpkeobaaGreatDoor
namespace Go.Proofs.YtacndicgpkeobaaGreatDoor

/-! ### Loads that meet, that lie inside -/
def mt1 (x y : Ld) : Prop := x.n.lo ≤ y.n.hi ∧ y.n.lo ≤ x.n.hi ∧ x.h.lo ≤ y.h.hi ∧ y.h.lo ≤ x.h.hi
instance (x y : Ld) : Decidable (mt1 x y) := by unfold mt1; infer_instance
def in1 (x y : Ld) : Prop := (y.n.lo ≤ x.n.lo ∧ x.n.hi ≤ y.n.hi) ∧ (y.h.lo ≤ x.h.lo ∧ x.h.hi ≤ y.h.hi)
instance (x y : Ld) : Decidable (in1 x y) := by unfold in1; infer_instance
def all2 {α β : Type} (R : α → β → Prop) : List α → List β → Prop
  | x :: a, y :: b => R x y ∧ all2 R a b
  | _, _ => True
def all2Dec {α β : Type} (R : α → β → Prop) [hR : ∀ x y, Decidable (R x y)] : ∀ a b, Decidable (all2 R a b)
  | x :: a, y :: b => by
    have := all2Dec R a b
    unfold all2
    infer_instance
  | [], _ => .isTrue (by unfold all2; trivial)
  | _ :: _, [] => .isTrue (by unfold all2; trivial)
instance {α β : Type} (R : α → β → Prop) [∀ x y, Decidable (R x y)] (a : List α) (b : List β) : Decidable (all2 R a b) := all2Dec R a b
theorem all2_step {α β : Type} {R : α → β → Prop} {a : List α} {b : List β} {k : Nat} {x : α} {y : β} (h1 : a[k]? = some x) (h2 : b[k]? = some y) : all2 R (a.drop k) (b.drop k) ↔ R x y ∧ all2 R (a.drop (k + 1)) (b.drop (k + 1)) := by
  rw [drop_cons h1, drop_cons h2]
  exact Iff.rfl
theorem all2_end {α β : Type} {R : α → β → Prop} {a : List α} {b : List β} {k : Nat} (h : a.length ≤ k) : all2 R (a.drop k) (b.drop k) := by
  rw [drop_all h]
  unfold all2
  trivial
theorem all2_get {α β : Type} {R : α → β → Prop} : ∀ {a : List α} {b : List β}, (∀ (k : Nat) (x : α) (y : β), a[k]? = some x → b[k]? = some y → R x y) → all2 R a b
  | x :: a, y :: b, h => ⟨h 0 x y rfl rfl, all2_get fun k u v hu hv => h (k + 1) u v hu hv⟩
  | [], _, _ => by unfold all2; trivial
  | _ :: _, [], _ => by unfold all2; trivial
theorem all2_at {α β : Type} {R : α → β → Prop} : ∀ {a : List α} {b : List β}, all2 R a b → ∀ (k : Nat) (x : α) (y : β), a[k]? = some x → b[k]? = some y → R x y
  | u :: a, v :: b, h, 0, x, y, hx, hy => by
    simp only [List.getElem?_cons_zero, Option.some.injEq] at hx hy
    subst hx; subst hy
    exact h.1
  | u :: a, v :: b, h, k + 1, x, y, hx, hy => all2_at h.2 k x y (by simpa using hx) (by simpa using hy)
  | [], _, _, k, x, y, hx, _ => by simp at hx
  | _ :: _, [], _, k, x, y, _, hy => by simp at hy
/-! ### A dive's error -/
structure okDv (ts : List Cp) (ls : List Ld) (x : Lg) (fi : Int) : Prop where
  k : okTL ts ls
  xx : okLg x
  z : x.s = 0 → x.f = x.t
  f : 0 ≤ fi ∧ fi ≤ 6
  ct : ckLoads ts ls = 0
  cx : ckLeg x = 0
/-! ### Right loads stay right -/
theorem ckCps_mk : ∀ {ts : List Cp}, (∀ c ∈ ts, okCp c) → ckCps ts = 0
  | [], _ => rfl
  | c :: t, h => by
    unfold ckCps
    rw [if_pos (h c List.mem_cons_self)]
    exact ckCps_mk fun d hd => h d (List.mem_cons_of_mem _ hd)
theorem ckLd_mk {l : Ld} (h : inLd l) (ho : ordLd l) : ckLd l = 0 := by
  obtain ⟨⟨a1, a2, a3, a4⟩, ⟨b1, b2, b3, b4⟩⟩ := h
  have h1 := ckSpan_cases l.n
  have h2 := ckSpan_cases l.h
  unfold ordLd at ho
  unfold ckLd
  rw [if_neg (by omega), if_neg (by omega)]
theorem ckLds_mk : ∀ {ls : List Ld}, (∀ y ∈ ls, inLd y) → (∀ y ∈ ls, ordLd y) → ckLds ls = 0
  | [], _, _ => rfl
  | l :: t, h, ho => by
    unfold ckLds
    rw [if_neg (fun hh => hh (ckLd_mk (h l List.mem_cons_self) (ho l List.mem_cons_self)))]
    exact ckLds_mk (fun d hd => h d (List.mem_cons_of_mem _ hd)) (fun d hd => ho d (List.mem_cons_of_mem _ hd))
theorem ckLoads_mk {ts : List Cp} {ls : List Ld} (h : okTL ts ls) : ckLoads ts ls = 0 := by
  have h1 : ckTab ts = 0 := by unfold ckTab; rw [if_pos ⟨h.a, h.b⟩]; exact ckCps_mk h.c
  unfold ckLoads
  rw [if_neg (fun hh => hh h1), if_neg (fun hh => hh h.len)]
  exact ckLds_mk h.x h.o
theorem ediv_shift {x y c : Int} (h : x ≤ 1000000000 * c + y) : x / 1000000000 ≤ c + upZ y 1000000000 := by unfold upZ; omega
theorem near_ord {l d : Rg} {a b : Int} (hl : l.lo ≤ l.hi) (hab : a ≤ b) (hd : inD d) (hdd : d.lo ≤ d.hi) : (nearM l a b d).lo ≤ (nearM l a b d).hi := by
  obtain ⟨d1, d2, d3, d4⟩ := hd
  unfold nearM
  by_cases hc : l.lo ≥ a <;> by_cases he : l.hi ≥ b
  · rw [if_pos hc, if_pos he]
    have key : (l.lo - a) * d.lo ≤ 1000000000 * (b - a) + (l.hi - b) * d.hi := by
      by_cases hb : l.lo ≥ b
      · have h1 : (l.lo - b) * d.lo ≤ (l.hi - b) * d.hi := Int.mul_le_mul (by omega) hdd d1 (by omega)
        have h2 : (b - a) * d.lo ≤ (b - a) * 1000000000 := Int.mul_le_mul_of_nonneg_left d2 (by omega)
        have h3 : (l.lo - a) * d.lo = (l.lo - b) * d.lo + (b - a) * d.lo := by grind
        omega
      · have h1 : (l.lo - a) * d.lo ≤ (b - a) * 1000000000 := Int.mul_le_mul (by omega) d2 d1 (by omega)
        have h2 : 0 ≤ (l.hi - b) * d.hi := Int.mul_nonneg (by omega) d3
        omega
    have := ediv_shift key
    dsimp only
    omega
  · rw [if_pos hc, if_neg he]
    have key : (l.lo - a) * d.lo + (b - l.hi) * d.lo ≤ 1000000000 * (b - a) := by
      have h1 : (l.lo - a) * d.lo + (b - l.hi) * d.lo = (b - a - (l.hi - l.lo)) * d.lo := by grind
      by_cases hp : 0 ≤ b - a - (l.hi - l.lo)
      · have h2 : (b - a - (l.hi - l.lo)) * d.lo ≤ (b - a) * 1000000000 := Int.mul_le_mul (by omega) d2 d1 (by omega)
        omega
      · have h2 : (b - a - (l.hi - l.lo)) * d.lo ≤ 0 := Int.mul_nonpos_of_nonpos_of_nonneg (by omega) d1
        omega
    dsimp only
    omega
  · rw [if_neg hc, if_pos he]
    have h1 : 0 ≤ (a - l.lo) * d.hi := Int.mul_nonneg (by omega) d3
    have h2 : 0 ≤ (l.hi - b) * d.hi := Int.mul_nonneg (by omega) d3
    unfold upZ
    dsimp only
    omega
  · rw [if_neg hc, if_neg he]
    have key : (b - l.hi) * d.lo ≤ 1000000000 * (b - a) + (a - l.lo) * d.hi := by
      have h1 : (b - l.hi) * d.lo ≤ (b - l.lo) * d.lo := Int.mul_le_mul_of_nonneg_right (by omega) d1
      have h2 : (b - l.lo) * d.lo = (b - a) * d.lo + (a - l.lo) * d.lo := by grind
      have h3 : (b - a) * d.lo ≤ (b - a) * 1000000000 := Int.mul_le_mul_of_nonneg_left d2 (by omega)
      have h4 : (a - l.lo) * d.lo ≤ (a - l.lo) * d.hi := Int.mul_le_mul_of_nonneg_left hdd (by omega)
      omega
    have := ediv_shift key
    dsimp only
    omega
theorem decM_ord {s h : Int} (n : Nat) (hs : 0 ≤ s) (hh : 1 ≤ h) : (decM s h n).lo ≤ (decM s h n).hi := by
  obtain ⟨a, rfl⟩ := Int.eq_ofNat_of_zero_le hs
  obtain ⟨b, rfl⟩ := Int.eq_ofNat_of_zero_le (show 0 ≤ h by omega)
  obtain ⟨p1, p2⟩ := decM_enc (s := a) (h := b) n (by omega)
  have hd := decM_in a b n
  refine le_fr (rroot_le (n := b) (by omega) (fr_nn hd.c) ?_)
  have t := two_rpow_ge a
  exact Rat.le_of_mul_le_mul_right (Rat.le_trans p1 p2) (show (0 : Rat) < 2 ^ a by grind)
theorem step_ord {n : Nat} {s lo hi : Int} {g : Gs} {c : Cp} {x : Ld} (hs : 0 ≤ s) (hlh : lo ≤ hi) (hg : inG g) (hc : okCp c) (hx : ordLd x) : ordLd (stepL n s lo hi g c x) := by
  obtain ⟨g1, g2, g3⟩ := hg
  have hc1 := hc.1
  have hc2 := hc.2.2.1
  exact ⟨near_ord hx.1 (Int.mul_le_mul_of_nonneg_left (by omega) (by omega)) (decM_in _ _ _) (decM_ord n hs hc1), near_ord hx.2 (Int.mul_le_mul_of_nonneg_left (by omega) (by omega)) (decM_in _ _ _) (decM_ord n hs hc2)⟩
theorem stepM_ord {n : Nat} {s lo hi : Int} {g : Gs} {ts : List Cp} {ls : List Ld} (hs : 0 ≤ s) (hlh : lo ≤ hi) (hg : inG g) (hc : ∀ c ∈ ts, okCp c) (hx : ∀ x ∈ ls, ordLd x) : ∀ x ∈ stepM n s lo hi g ts ls, ordLd x := by
  intro x h
  unfold stepM at h
  rw [List.zipWith_eq_zipWith_take_min, ← List.map_uncurry_zip_eq_zipWith] at h
  obtain ⟨⟨c, y⟩, hm, rfl⟩ := List.mem_map.1 h
  have hz := List.of_mem_zip hm
  exact step_ord hs hlh hg (hc c (List.mem_of_mem_take hz.1)) (hx y (List.mem_of_mem_take hz.2))
theorem stM_ord {f : Nat} {ts : List Cp} {ls : List Ld} {x : Lg} {n : Nat} (hx : okLg x) (hn : 1 ≤ n ∧ n ≤ 64) (hc : ∀ c ∈ ts, okCp c) (hl : ∀ y ∈ ls, ordLd y) : ∀ k, k ≤ n → ∀ y ∈ stM f ts ls x n k, ordLd y
  | 0, _ => hl
  | k + 1, hk => by
    have h1 := mk_in (j := (k : Int)) hx (n := (n : Int)) (by omega) (by omega)
    have h2 := mk_in (j := (k : Int) + 1) hx (n := (n : Int)) (by omega) (by omega)
    have h3 := mk_mono hx hn.1 k
    exact stepM_ord (by omega) (by omega) hx.g hc (stM_ord hx hn hc hl k (by omega))
theorem loaded_ok {ts : List Cp} {ls : List Ld} {x : Lg} {f : Nat} (h : okTL ts ls) (hx : okLg x) (hf : f ≤ 6) : okTL ts (loadedM ts ls x f) := by
  obtain ⟨n, hn⟩ : ∃ n : Nat, n = 2 ^ f := ⟨_, rfl⟩
  have h64 := two_f hf hn
  refine ⟨h.a, h.b, loadedM_len h.len, h.c, ?_, ?_⟩
  · by_cases h0 : x.s = 0
    · rw [loadedM_zero h0]; exact h.x
    · rw [loadedM_pos h0 hn]; exact stM_in hx h64 h.x n (Nat.le_refl _)
  · by_cases h0 : x.s = 0
    · rw [loadedM_zero h0]; exact h.o
    · rw [loadedM_pos h0 hn]; exact stM_ord hx h64 h.c h.o n (Nat.le_refl _)
end Go.Proofs.YtacndicgpkeobaaGreatDoor
