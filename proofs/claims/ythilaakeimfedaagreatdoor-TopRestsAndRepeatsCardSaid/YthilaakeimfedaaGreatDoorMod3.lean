/-
  Plain models of chapter 3: steps, marks, legs. Conditions: none; no program in sight.
-/
import Derived.Test.YthilaakeimfedaaGreatDoorMod2
namespace Go.Proofs.YthilaakeimfedaaGreatDoor

/-! ### Steps -/
structure inX (r : Rg) : Prop where
  a : 0 ≤ r.lo
  b : r.lo ≤ 100000000
  c : 0 ≤ r.hi
  e : r.hi ≤ 100000000
def inLd (l : Ld) : Prop := inX l.n ∧ inX l.h
def nearM (l : Rg) (a b : Int) (d : Rg) : Rg :=
  ⟨if l.lo ≥ a then a + (l.lo - a) * d.lo / 1000000000 else a - upZ ((a - l.lo) * d.hi) 1000000000, if l.hi ≥ b then b + upZ ((l.hi - b) * d.hi) 1000000000 else b - (b - l.hi) * d.lo / 1000000000⟩
theorem near_tt {l d : Rg} {a b : Int} (h1 : l.lo ≥ a) (h2 : l.hi ≥ b) : (⟨a + (l.lo - a) * d.lo / 1000000000, b + upZ ((l.hi - b) * d.hi) 1000000000⟩ : Rg) = nearM l a b d := by unfold nearM; rw [if_pos h1, if_pos h2]
theorem near_tf {l d : Rg} {a b : Int} (h1 : l.lo ≥ a) (h2 : ¬ l.hi ≥ b) : (⟨a + (l.lo - a) * d.lo / 1000000000, b - (b - l.hi) * d.lo / 1000000000⟩ : Rg) = nearM l a b d := by unfold nearM; rw [if_pos h1, if_neg h2]
theorem near_ft {l d : Rg} {a b : Int} (h1 : ¬ l.lo ≥ a) (h2 : l.hi ≥ b) : (⟨a - upZ ((a - l.lo) * d.hi) 1000000000, b + upZ ((l.hi - b) * d.hi) 1000000000⟩ : Rg) = nearM l a b d := by unfold nearM; rw [if_neg h1, if_pos h2]
theorem near_ff {l d : Rg} {a b : Int} (h1 : ¬ l.lo ≥ a) (h2 : ¬ l.hi ≥ b) : (⟨a - upZ ((a - l.lo) * d.hi) 1000000000, b - (b - l.hi) * d.lo / 1000000000⟩ : Rg) = nearM l a b d := by unfold nearM; rw [if_neg h1, if_neg h2]
theorem part_in {x d : Int} (hx : 0 ≤ x) (hx' : x ≤ 1000000000) (hd : 0 ≤ d) (hd' : d ≤ 1000000000) : 0 ≤ x * d / 1000000000 ∧ x * d / 1000000000 ≤ x ∧ 0 ≤ upZ (x * d) 1000000000 ∧ upZ (x * d) 1000000000 ≤ x ∧ 0 ≤ x * d ∧ x * d ≤ 1000000000 * x := by
  have h1 := Int.mul_nonneg hx hd
  have h2 := Int.mul_le_mul (Int.le_refl x) hd' hd hx
  have h3 : x * 1000000000 = 1000000000 * x := Int.mul_comm _ _
  simp only [upZ]
  omega
theorem near_in {l d : Rg} {a b : Int} (hl : inX l) (ha : 0 ≤ a ∧ a ≤ 100000000) (hb : 0 ≤ b ∧ b ≤ 100000000) (hd : inD d) : inX (nearM l a b d) := by
  obtain ⟨l1, l2, l3, l4⟩ := hl
  obtain ⟨d1, d2, d3, d4⟩ := hd
  unfold nearM
  have hlo : 0 ≤ (if l.lo ≥ a then a + (l.lo - a) * d.lo / 1000000000 else a - upZ ((a - l.lo) * d.hi) 1000000000) ∧ (if l.lo ≥ a then a + (l.lo - a) * d.lo / 1000000000 else a - upZ ((a - l.lo) * d.hi) 1000000000) ≤ 100000000 := by
    split
    · have := part_in (x := l.lo - a) (by omega) (by omega) d1 d2; omega
    · have := part_in (x := a - l.lo) (by omega) (by omega) d3 d4; omega
  have hhi : 0 ≤ (if l.hi ≥ b then b + upZ ((l.hi - b) * d.hi) 1000000000 else b - (b - l.hi) * d.lo / 1000000000) ∧ (if l.hi ≥ b then b + upZ ((l.hi - b) * d.hi) 1000000000 else b - (b - l.hi) * d.lo / 1000000000) ≤ 100000000 := by
    split
    · have := part_in (x := l.hi - b) (by omega) (by omega) d3 d4; omega
    · have := part_in (x := b - l.hi) (by omega) (by omega) d1 d2; omega
  exact ⟨hlo.1, hlo.2, hhi.1, hhi.2⟩
theorem dF_in {h : Int} : ∀ (l : List Rg) (x : Int × Rg), (∀ r ∈ l, inR r) → inD x.2 → inD (dF h x l).2
  | [], _, _, hx => hx
  | r :: t, x, hl, hx => by
    show inD (dF h (dS h x r) t).2
    refine dF_in t _ (fun s hs => hl s (List.mem_cons_of_mem _ hs)) ?_
    unfold dS
    split
    · exact hx.mul (hl r List.mem_cons_self)
    · exact hx
theorem rts_in {n : Nat} {r : Rg} (h : r ∈ rts n) : inR r := by
  unfold rts at h
  obtain ⟨k, _, rfl⟩ := List.mem_map.1 h
  exact rootR_in k
theorem decM_in (s h : Int) (n : Nat) : inD (decM s h n) := by
  have h1 : inD (dF h (s % h, halve (s / h).toNat ⟨1000000000, 1000000000⟩) ((rts n).drop 1)).2 := dF_in _ _ (fun r hr => rts_in (List.mem_of_mem_drop hr)) (halve_in _ inD0)
  unfold decM decE
  generalize dF h (s % h, halve (s / h).toNat ⟨1000000000, 1000000000⟩) ((rts n).drop 1) = y at h1
  split
  · obtain ⟨a, b, c, e⟩ := h1
    have hr := rootR_in n
    have := part_in (x := y.2.lo) a b (show 0 ≤ (rootR n).lo by have := hr.a; omega) (by have := hr.b; have := hr.c; omega)
    exact ⟨by dsimp only; omega, by dsimp only; omega, c, e⟩
  · exact h1
structure inP (lo hi : Int) : Prop where
  a : 63 ≤ lo
  b : lo ≤ 50000
  c : 63 ≤ hi
  e : hi ≤ 50000
structure inG (g : Gs) : Prop where
  a : 0 ≤ g.o
  b : 0 ≤ g.h
  c : g.o + g.h ≤ 1000
theorem breath_in {n p : Int} (hn : 0 ≤ n ∧ n ≤ 1000) (hp : 63 ≤ p ∧ p ≤ 50000) : 0 ≤ n * (p - 63) ∧ n * (p - 63) ≤ 100000000 := by
  have h1 := Int.mul_nonneg hn.1 (show 0 ≤ p - 63 by omega)
  have h2 := Int.mul_le_mul hn.2 (show p - 63 ≤ 50000 by omega) (by omega) (by omega)
  omega
def stepL (n : Nat) (s lo hi : Int) (g : Gs) (c : Cp) (x : Ld) : Ld :=
  ⟨nearM x.n ((1000 - g.o - g.h) * (lo - 63)) ((1000 - g.o - g.h) * (hi - 63)) (decM s c.n n), nearM x.h (g.h * (lo - 63)) (g.h * (hi - 63)) (decM s c.h n)⟩
theorem step_in {n : Nat} {s lo hi : Int} {g : Gs} {c : Cp} {x : Ld} (hp : inP lo hi) (hg : inG g) (hx : inLd x) : inLd (stepL n s lo hi g c x) := by
  obtain ⟨g1, g2, g3⟩ := hg
  obtain ⟨p1, p2, p3, p4⟩ := hp
  exact ⟨near_in hx.1 (breath_in (by omega) (by omega)) (breath_in (by omega) (by omega)) (decM_in _ _ _), near_in hx.2 (breath_in (by omega) (by omega)) (breath_in (by omega) (by omega)) (decM_in _ _ _)⟩
def stepM (n : Nat) (s lo hi : Int) (g : Gs) (ts : List Cp) (ls : List Ld) : List Ld := List.zipWith (stepL n s lo hi g) ts ls
theorem stepM_len {n : Nat} {s lo hi : Int} {g : Gs} {ts : List Cp} {ls : List Ld} (h : ls.length = ts.length) : (stepM n s lo hi g ts ls).length = ts.length := by
  unfold stepM
  rw [List.length_zipWith]
  omega
theorem stepM_in {n : Nat} {s lo hi : Int} {g : Gs} {ts : List Cp} {ls : List Ld} (hp : inP lo hi) (hg : inG g) (hx : ∀ x ∈ ls, inLd x) : ∀ x ∈ stepM n s lo hi g ts ls, inLd x := by
  intro x h
  unfold stepM at h
  rw [List.zipWith_eq_zipWith_take_min, ← List.map_uncurry_zip_eq_zipWith] at h
  obtain ⟨⟨c, y⟩, hm, rfl⟩ := List.mem_map.1 h
  exact step_in hp hg (hx y (List.mem_of_mem_take (List.of_mem_zip hm).2))
theorem zip_take {α β γ : Type} (f : α → β → γ) {ts : List α} {ls : List β} {k : Nat} {c : α} {x : β} (h1 : ts[k]? = some c) (h2 : ls[k]? = some x) : (List.zipWith f ts ls).take (k + 1) = (List.zipWith f ts ls).take k ++ [f c x] := by
  have h3 : (List.zipWith f ts ls)[k]? = some (f c x) := by rw [List.getElem?_zipWith, h1, h2]
  rw [List.take_add_one, h3]
  rfl

/-! ### Marks -/
structure Mk where
  s : Int
  p : Rg
structure okLg (x : Lg) : Prop where
  f : okPr x.f
  t : okPr x.t
  s : 0 ≤ x.s ∧ x.s ≤ 100000
  g : inG x.g
theorem ckLeg_ok {x : Lg} (h : ckLeg x = 0) : okLg x ∧ (x.s = 0 → x.f = x.t) := by
  unfold ckLeg at h
  split at h
  · cases h
  · rename_i h1
    split at h
    · rename_i h2; exact absurd h h2
    · rename_i h2
      split at h
      · cases h
      · rename_i h3
        have hg : ckGas x.g.o x.g.h = 0 := Decidable.not_not.1 h2
        unfold ckGas at hg
        split at hg
        · cases hg
        · split at hg
          · cases hg
          · have h4 := Decidable.not_not.1 h1
            exact ⟨⟨h4.1, h4.2.1, h4.2.2, ⟨by omega, by omega, by omega⟩⟩, fun h0 => by omega⟩
def sumM (x : Lg) (s : Int) : Int := x.f * (x.s - s) + x.t * s
def mkM (x : Lg) (n j : Int) : Mk := ⟨j * x.s / n, if x.s > 0 then ⟨sumM x (j * x.s / n) / x.s, upZ (sumM x (j * x.s / n)) x.s⟩ else ⟨x.f, x.f⟩⟩
def mksL (x : Lg) (n k : Nat) : List Mk := (List.range k).map fun j : Nat => mkM x n j
theorem mksL_succ (x : Lg) (n k : Nat) : mksL x n (k + 1) = mksL x n k ++ [mkM x n k] := by
  unfold mksL
  rw [List.range_succ, List.map_append]
  rfl
theorem mksL_len (x : Lg) (n k : Nat) : (mksL x n k).length = k := by simp [mksL]
theorem mksL_get {x : Lg} {n k j : Nat} (h : j < k) : (mksL x n k)[j]? = some (mkM x n j) := by
  unfold mksL
  rw [List.getElem?_map, List.getElem?_range h]
  rfl
theorem sec_in {j n S : Int} (hj : 0 ≤ j ∧ j ≤ n) (hn : 1 ≤ n ∧ n ≤ 64) (hS : 0 ≤ S ∧ S ≤ 100000) : 0 ≤ j * S ∧ j * S ≤ 6400000 ∧ 0 ≤ j * S / n ∧ j * S / n ≤ S := by
  have h1 := Int.mul_nonneg hj.1 hS.1
  have h2 := Int.mul_le_mul hj.2 (Int.le_refl S) hS.1 (by omega : (0 : Int) ≤ n)
  have h3 := Int.mul_le_mul (show n ≤ 64 by omega) hS.2 hS.1 (by omega : (0 : Int) ≤ 64)
  refine ⟨h1, by omega, Int.ediv_nonneg h1 (by omega), Int.ediv_le_of_le_mul (by omega) (by rw [Int.mul_comm S n]; exact h2)⟩
theorem sec_mono {j n S : Int} (hn : 1 ≤ n) (hS : 0 ≤ S) : j * S / n ≤ (j + 1) * S / n := Int.ediv_le_ediv (by omega) (by rw [Int.add_mul]; omega)
theorem sec_end {n S : Int} (hn : 1 ≤ n) : n * S / n = S := Int.mul_ediv_cancel_left _ (by omega)
theorem sum_in {x : Lg} {s : Int} (h : okLg x) (h0 : 0 ≤ s ∧ s ≤ x.s) : 0 ≤ x.f * (x.s - s) ∧ x.f * (x.s - s) ≤ 3110000000 ∧ 0 ≤ x.t * s ∧ x.t * s ≤ 3110000000 ∧ 400 * x.s ≤ sumM x s ∧ sumM x s ≤ 31100 * x.s ∧ sumM x s = x.f * (x.s - s) + x.t * s := by
  obtain ⟨⟨f1, f2⟩, ⟨t1, t2⟩, ⟨s1, s2⟩, _⟩ := h
  have a1 := Int.mul_le_mul f1 (Int.le_refl (x.s - s)) (by omega) (by omega)
  have a2 := Int.mul_le_mul f2 (Int.le_refl (x.s - s)) (by omega) (by omega)
  have a3 := Int.mul_le_mul t1 (Int.le_refl s) (by omega) (by omega)
  have a4 := Int.mul_le_mul t2 (Int.le_refl s) (by omega) (by omega)
  unfold sumM
  omega
theorem sum_alt (x : Lg) (s : Int) : x.f * x.s + (x.t - x.f) * s = sumM x s := by unfold sumM; grind
theorem quo_in {a S : Int} (hS : 1 ≤ S) (h1 : 400 * S ≤ a) (h2 : a ≤ 31100 * S) : 400 ≤ a / S ∧ a / S ≤ 31100 ∧ 400 ≤ upZ a S ∧ upZ a S ≤ 31100 ∧ a / S ≤ upZ a S := by
  have e1 : 400 ≤ a / S := Int.le_ediv_of_mul_le (by omega) h1
  have e2 : a / S ≤ 31100 := Int.ediv_le_of_le_mul (by omega) h2
  have e3 : upZ a S ≤ 31100 := by
    have : (a + S - 1) / S < 31101 := Int.ediv_lt_of_lt_mul (by omega) (by omega)
    unfold upZ; omega
  have e4 : a / S ≤ upZ a S := Int.ediv_le_ediv (by omega) (by omega)
  omega
theorem mk_in {x : Lg} {n j : Int} (h : okLg x) (hj : 0 ≤ j ∧ j ≤ n) (hn : 1 ≤ n ∧ n ≤ 64) : (0 ≤ (mkM x n j).s ∧ (mkM x n j).s ≤ x.s) ∧ 400 ≤ (mkM x n j).p.lo ∧ (mkM x n j).p.lo ≤ 31100 ∧ 400 ≤ (mkM x n j).p.hi ∧ (mkM x n j).p.hi ≤ 31100 ∧ (mkM x n j).p.lo ≤ (mkM x n j).p.hi := by
  have h1 := sec_in hj hn h.s
  refine ⟨⟨h1.2.2.1, h1.2.2.2⟩, ?_⟩
  unfold mkM
  dsimp only
  split
  · have h2 := sum_in h ⟨h1.2.2.1, h1.2.2.2⟩
    have h3 := quo_in (show 1 ≤ x.s by omega) h2.2.2.2.2.1 h2.2.2.2.2.2.1
    dsimp only
    omega
  · have := h.f
    unfold okPr at this
    dsimp only
    omega
def stM (f : Nat) (ts : List Cp) (ls : List Ld) (x : Lg) (n : Nat) : Nat → List Ld
  | 0 => ls
  | k + 1 => stepM (8 + 2 * f) ((mkM x n ((k : Int) + 1)).s - (mkM x n k).s) (min (mkM x n k).p.lo (mkM x n ((k : Int) + 1)).p.lo) (max (mkM x n k).p.hi (mkM x n ((k : Int) + 1)).p.hi) x.g ts (stM f ts ls x n k)
theorem stM_len {f : Nat} {ts : List Cp} {ls : List Ld} {x : Lg} {n : Nat} (h : ls.length = ts.length) : ∀ k, (stM f ts ls x n k).length = ts.length
  | 0 => h
  | k + 1 => stepM_len (stM_len h k)
theorem stM_in {f : Nat} {ts : List Cp} {ls : List Ld} {x : Lg} {n : Nat} (hx : okLg x) (hn : 1 ≤ n ∧ n ≤ 64) (hl : ∀ y ∈ ls, inLd y) : ∀ k, k ≤ n → ∀ y ∈ stM f ts ls x n k, inLd y
  | 0, _ => hl
  | k + 1, hk => by
    have h1 := mk_in (j := (k : Int)) hx (n := (n : Int)) (by omega) (by omega)
    have h2 := mk_in (j := (k : Int) + 1) hx (n := (n : Int)) (by omega) (by omega)
    exact stepM_in ⟨by omega, by omega, by omega, by omega⟩ hx.g (stM_in hx hn hl k (by omega))
def loadedM (ts : List Cp) (ls : List Ld) (x : Lg) (f : Nat) : List Ld := if x.s = 0 then ls else stM f ts ls x (2 ^ f) (2 ^ f)
theorem two_f {f n : Nat} (hf : f ≤ 6) (hn : n = 2 ^ f) : 1 ≤ n ∧ n ≤ 64 := by
  subst hn
  match f, hf with
  | 0, _ => decide
  | 1, _ => decide
  | 2, _ => decide
  | 3, _ => decide
  | 4, _ => decide
  | 5, _ => decide
  | 6, _ => decide
def lowM (x : Lg) (n : Nat) : Nat → Int
  | 0 => (mkM x n (0 : Nat)).p.lo
  | k + 1 => min (mkM x n k).p.lo (mkM x n ((k : Int) + 1)).p.lo
theorem mk_mono {x : Lg} {n : Nat} (h : okLg x) (hn : 1 ≤ n) (k : Nat) : (mkM x n k).s ≤ (mkM x n ((k : Int) + 1)).s := sec_mono (by omega) h.s.1
theorem loadedM_pos {ts : List Cp} {ls : List Ld} {x : Lg} {f n : Nat} (h : x.s ≠ 0) (hn : n = 2 ^ f) : loadedM ts ls x f = stM f ts ls x n n := by
  unfold loadedM
  rw [if_neg h, ← hn]
theorem loadedM_zero {ts : List Cp} {ls : List Ld} {x : Lg} {f : Nat} (h : x.s = 0) : loadedM ts ls x f = ls := if_pos h
theorem loadedM_len {ts : List Cp} {ls : List Ld} {x : Lg} {f : Nat} (h : ls.length = ts.length) : (loadedM ts ls x f).length = ts.length := by
  unfold loadedM
  split
  · exact h
  · exact stM_len h _
end Go.Proofs.YthilaakeimfedaaGreatDoor