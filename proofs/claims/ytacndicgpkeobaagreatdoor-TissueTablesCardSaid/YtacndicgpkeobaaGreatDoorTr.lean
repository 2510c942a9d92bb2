/-
  The decays of chapter 3 enclose what they stand for: powers of numbers, without logarithms. Conditions: none; no program in sight.
-/
import Derived.Test.YtacndicgpkeobaaGreatDoorMod2
namespace Go.Proofs.YtacndicgpkeobaaGreatDoor

/-! ### Steps -/
structure inX (r : Rg) : Prop where
  a : 0 ≤ r.lo
  b : r.lo ≤ 100000000
  c : 0 ≤ r.hi
  e : r.hi ≤ 100000000
def inLd (l : Ld) : Prop := inX l.n ∧ inX l.h
def nearM (l : Rg) (a b : Int) (d : Rg) : Rg :=
  ⟨if l.lo ≥ a then a + (l.lo - a) * d.lo / 1000000000 else a - upZ ((a - l.lo) * d.hi) 1000000000, if l.hi ≥ b then b + upZ ((l.hi - b) * d.hi) 1000000000 else b - (b - l.hi) * d.lo / 1000000000⟩
theorem near_tt {l d : Rg} {a b : Int} (h1 : l.lo ≥ a) (h2 : l.hi ≥ b) : (⟨a + (l.lo - a) * d.lo / 1000000000, b + upZ ((l.hi - b) * d.hi) 1000000000⟩ : Rg) = nearM l a b d := by unfold nearM; rw [if_pos h1, if_pos h2]
theorem near_tf {l d : Rg} {a b : Int} (h1 : l.lo ≥ a) (h2 : ¬ l.hi ≥ b) : (⟨a + (l.lo - a) * d.lo / 1000000000, b - (b - l.hi) * d.lo / 1000000000⟩ : Rg) = nearM l a b d := by unfold nearM; rw [if_pos h1, if_neg h2]
theorem near_ft {l d : Rg} {a b : Int} (h1 : ¬ l.lo ≥ a) (h2 : l.hi ≥ b) : (⟨a - upZ ((a - l.lo) * d.hi) 1000000000, b + upZ ((l.hi - b) * d.hi) 1000000000⟩ : Rg) = nearM l a b d := by unfold nearM; rw [if_neg h1, if_pos h2]
theorem near_ff {l d : Rg} {a b : Int} (h1 : ¬ l.lo ≥ a) (h2 : ¬ l.hi ≥ b) : (⟨a - upZ ((a - l.lo) * d.hi) 1000000000, b - (b - l.hi) * d.lo / 1000000000⟩ : Rg) = nearM l a b d := by unfold nearM; rw [if_neg h1, if_neg h2]
theorem part_in {x d : Int} (hx : 0 ≤ x) (hx' : x ≤ 1000000000) (hd : 0 ≤ d) (hd' : d ≤ 1000000000) : 0 ≤ x * d / 1000000000 ∧ x * d / 1000000000 ≤ x ∧ 0 ≤ upZ (x * d) 1000000000 ∧ upZ (x * d) 1000000000 ≤ x ∧ 0 ≤ x * d ∧ x * d ≤ 1000000000 * x := by
  have h1 := Int.mul_nonneg hx hd
  have h2 := Int.mul_le_mul (Int.le_refl x) hd' hd hx
  have h3 : x * 1000000000 = 1000000000 * x := Int.mul_comm _ _
  simp only [upZ]
  omega
theorem near_in {l d : Rg} {a b : Int} (hl : inX l) (ha : 0 ≤ a ∧ a ≤ 100000000) (hb : 0 ≤ b ∧ b ≤ 100000000) (hd : inD d) : inX (nearM l a b d) := by
  obtain ⟨l1, l2, l3, l4⟩ := hl
  obtain ⟨d1, d2, d3, d4⟩ := hd
  unfold nearM
  have hlo : 0 ≤ (if l.lo ≥ a then a + (l.lo - a) * d.lo / 1000000000 else a - upZ ((a - l.lo) * d.hi) 1000000000) ∧ (if l.lo ≥ a then a + (l.lo - a) * d.lo / 1000000000 else a - upZ ((a - l.lo) * d.hi) 1000000000) ≤ 100000000 := by
    split
    · have := part_in (x := l.lo - a) (by omega) (by omega) d1 d2; omega
    · have := part_in (x := a - l.lo) (by omega) (by omega) d3 d4; omega
  have hhi : 0 ≤ (if l.hi ≥ b then b + upZ ((l.hi - b) * d.hi) 1000000000 else b - (b - l.hi) * d.lo / 1000000000) ∧ (if l.hi ≥ b then b + upZ ((l.hi - b) * d.hi) 1000000000 else b - (b - l.hi) * d.lo / 1000000000) ≤ 100000000 := by
    split
    · have := part_in (x := l.hi - b) (by omega) (by omega) d3 d4; omega
    · have := part_in (x := b - l.hi) (by omega) (by omega) d1 d2; omega
  exact ⟨hlo.1, hlo.2, hhi.1, hhi.2⟩
theorem dF_in {h : Int} : ∀ (l : List Rg) (x : Int × Rg), (∀ r ∈ l, inR r) → inD x.2 → inD (dF h x l).2
  | [], _, _, hx => hx
  | r :: t, x, hl, hx => by
    show inD (dF h (dS h x r) t).2
    refine dF_in t _ (fun s hs => hl s (List.mem_cons_of_mem _ hs)) ?_
    unfold dS
    split
    · exact hx.mul (hl r List.mem_cons_self)
    · exact hx
theorem rts_in {n : Nat} {r : Rg} (h : r ∈ rts n) : inR r := by
  unfold rts at h
  obtain ⟨k, _, rfl⟩ := List.mem_map.1 h
  exact rootR_in k
theorem decM_in (s h : Int) (n : Nat) : inD (decM s h n) := by
  have h1 : inD (dF h (s % h, halve (s / h).toNat ⟨1000000000, 1000000000⟩) ((rts n).drop 1)).2 := dF_in _ _ (fun r hr => rts_in (List.mem_of_mem_drop hr)) (halve_in _ inD0)
  unfold decM decE
  generalize dF h (s % h, halve (s / h).toNat ⟨1000000000, 1000000000⟩) ((rts n).drop 1) = y at h1
  split
  · obtain ⟨a, b, c, e⟩ := h1
    have hr := rootR_in n
    have := part_in (x := y.2.lo) a b (show 0 ≤ (rootR n).lo by have := hr.a; omega) (by have := hr.b; have := hr.c; omega)
    exact ⟨by dsimp only; omega, by dsimp only; omega, c, e⟩
  · exact h1
structure inP (lo hi : Int) : Prop where
  a : 63 ≤ lo
  b : lo ≤ 50000
  c : 63 ≤ hi
  e : hi ≤ 50000
structure inG (g : Gs) : Prop where
  a : 0 ≤ g.o
  b : 0 ≤ g.h
  c : g.o + g.h ≤ 1000
theorem breath_in {n p : Int} (hn : 0 ≤ n ∧ n ≤ 1000) (hp : 63 ≤ p ∧ p ≤ 50000) : 0 ≤ n * (p - 63) ∧ n * (p - 63) ≤ 100000000 := by
  have h1 := Int.mul_nonneg hn.1 (show 0 ≤ p - 63 by omega)
  have h2 := Int.mul_le_mul hn.2 (show p - 63 ≤ 50000 by omega) (by omega) (by omega)
  omega
def stepL (n : Nat) (s lo hi : Int) (g : Gs) (c : Cp) (x : Ld) : Ld :=
  ⟨nearM x.n ((1000 - g.o - g.h) * (lo - 63)) ((1000 - g.o - g.h) * (hi - 63)) (decM s c.n n), nearM x.h (g.h * (lo - 63)) (g.h * (hi - 63)) (decM s c.h n)⟩
theorem step_in {n : Nat} {s lo hi : Int} {g : Gs} {c : Cp} {x : Ld} (hp : inP lo hi) (hg : inG g) (hx : inLd x) : inLd (stepL n s lo hi g c x) := by
  obtain ⟨g1, g2, g3⟩ := hg
  obtain ⟨p1, p2, p3, p4⟩ := hp
  exact ⟨near_in hx.1 (breath_in (by omega) (by omega)) (breath_in (by omega) (by omega)) (decM_in _ _ _), near_in hx.2 (breath_in (by omega) (by omega)) (breath_in (by omega) (by omega)) (decM_in _ _ _)⟩
def stepM (n : Nat) (s lo hi : Int) (g : Gs) (ts : List Cp) (ls : List Ld) : List Ld := List.zipWith (stepL n s lo hi g) ts ls
theorem stepM_len {n : Nat} {s lo hi : Int} {g : Gs} {ts : List Cp} {ls : List Ld} (h : ls.length = ts.length) : (stepM n s lo hi g ts ls).length = ts.length := by
  unfold stepM
  rw [List.length_zipWith]
  omega
theorem stepM_in {n : Nat} {s lo hi : Int} {g : Gs} {ts : List Cp} {ls : List Ld} (hp : inP lo hi) (hg : inG g) (hx : ∀ x ∈ ls, inLd x) : ∀ x ∈ stepM n s lo hi g ts ls, inLd x := by
  intro x h
  unfold stepM at h
  rw [List.zipWith_eq_zipWith_take_min, ← List.map_uncurry_zip_eq_zipWith] at h
  obtain ⟨⟨c, y⟩, hm, rfl⟩ := List.mem_map.1 h
  exact step_in hp hg (hx y (List.mem_of_mem_take (List.of_mem_zip hm).2))
theorem zip_take {α β γ : Type} (f : α → β → γ) {ts : List α} {ls : List β} {k : Nat} {c : α} {x : β} (h1 : ts[k]? = some c) (h2 : ls[k]? = some x) : (List.zipWith f ts ls).take (k + 1) = (List.zipWith f ts ls).take k ++ [f c x] := by
  have h3 : (List.zipWith f ts ls)[k]? = some (f c x) := by rw [List.getElem?_zipWith, h1, h2]
  rw [List.take_add_one, h3]
  rfl

/-! ### Marks -/
structure Mk where
  s : Int
  p : Rg
structure okLg (x : Lg) : Prop where
  f : okPr x.f
  t : okPr x.t
  s : 0 ≤ x.s ∧ x.s ≤ 100000
  g : inG x.g
theorem ckLeg_ok {x : Lg} (h : ckLeg x = 0) : okLg x ∧ (x.s = 0 → x.f = x.t) := by
  unfold ckLeg at h
  split at h
  · cases h
  · rename_i h1
    split at h
    · rename_i h2; exact absurd h h2
    · rename_i h2
      split at h
      · cases h
      · rename_i h3
        have hg : ckGas x.g.o x.g.h = 0 := Decidable.not_not.1 h2
        unfold ckGas at hg
        split at hg
        · cases hg
        · split at hg
          · cases hg
          · have h4 := Decidable.not_not.1 h1
            exact ⟨⟨h4.1, h4.2.1, h4.2.2, ⟨by omega, by omega, by omega⟩⟩, fun h0 => by omega⟩
def sumM (x : Lg) (s : Int) : Int := x.f * (x.s - s) + x.t * s
def mkM (x : Lg) (n j : Int) : Mk := ⟨j * x.s / n, if x.s > 0 then ⟨sumM x (j * x.s / n) / x.s, upZ (sumM x (j * x.s / n)) x.s⟩ else ⟨x.f, x.f⟩⟩
def mksL (x : Lg) (n k : Nat) : List Mk := (List.range k).map fun j : Nat => mkM x n j
theorem mksL_succ (x : Lg) (n k : Nat) : mksL x n (k + 1) = mksL x n k ++ [mkM x n k] := by
  unfold mksL
  rw [List.range_succ, List.map_append]
  rfl
theorem mksL_len (x : Lg) (n k : Nat) : (mksL x n k).length = k := by simp [mksL]
theorem mksL_get {x : Lg} {n k j : Nat} (h : j < k) : (mksL x n k)[j]? = some (mkM x n j) := by
  unfold mksL
  rw [List.getElem?_map, List.getElem?_range h]
  rfl
theorem sec_in {j n S : Int} (hj : 0 ≤ j ∧ j ≤ n) (hn : 1 ≤ n ∧ n ≤ 64) (hS : 0 ≤ S ∧ S ≤ 100000) : 0 ≤ j * S ∧ j * S ≤ 6400000 ∧ 0 ≤ j * S / n ∧ j * S / n ≤ S := by
  have h1 := Int.mul_nonneg hj.1 hS.1
  have h2 := Int.mul_le_mul hj.2 (Int.le_refl S) hS.1 (by omega : (0 : Int) ≤ n)
  have h3 := Int.mul_le_mul (show n ≤ 64 by omega) hS.2 hS.1 (by omega : (0 : Int) ≤ 64)
  refine ⟨h1, by omega, Int.ediv_nonneg h1 (by omega), Int.ediv_le_of_le_mul (by omega) (by rw [Int.mul_comm S n]; exact h2)⟩
theorem sec_mono {j n S : Int} (hn : 1 ≤ n) (hS : 0 ≤ S) : j * S / n ≤ (j + 1) * S / n := Int.ediv_le_ediv (by omega) (by rw [Int.add_mul]; omega)
theorem sum_in {x : Lg} {s : Int} (h : okLg x) (h0 : 0 ≤ s ∧ s ≤ x.s) : 0 ≤ x.f * (x.s - s) ∧ x.f * (x.s - s) ≤ 3110000000 ∧ 0 ≤ x.t * s ∧ x.t * s ≤ 3110000000 ∧ 400 * x.s ≤ sumM x s ∧ sumM x s ≤ 31100 * x.s ∧ sumM x s = x.f * (x.s - s) + x.t * s := by
  obtain ⟨⟨f1, f2⟩, ⟨t1, t2⟩, ⟨s1, s2⟩, _⟩ := h
  have a1 := Int.mul_le_mul f1 (Int.le_refl (x.s - s)) (by omega) (by omega)
  have a2 := Int.mul_le_mul f2 (Int.le_refl (x.s - s)) (by omega) (by omega)
  have a3 := Int.mul_le_mul t1 (Int.le_refl s) (by omega) (by omega)
  have a4 := Int.mul_le_mul t2 (Int.le_refl s) (by omega) (by omega)
  unfold sumM
  omega
theorem quo_in {a S : Int} (hS : 1 ≤ S) (h1 : 400 * S ≤ a) (h2 : a ≤ 31100 * S) : 400 ≤ a / S ∧ a / S ≤ 31100 ∧ 400 ≤ upZ a S ∧ upZ a S ≤ 31100 ∧ a / S ≤ upZ a S := by
  have e1 : 400 ≤ a / S := Int.le_ediv_of_mul_le (by omega) h1
  have e2 : a / S ≤ 31100 := Int.ediv_le_of_le_mul (by omega) h2
  have e3 : upZ a S ≤ 31100 := by
    have : (a + S - 1) / S < 31101 := Int.ediv_lt_of_lt_mul (by omega) (by omega)
    unfold upZ; omega
  have e4 : a / S ≤ upZ a S := Int.ediv_le_ediv (by omega) (by omega)
  omega
theorem mk_in {x : Lg} {n j : Int} (h : okLg x) (hj : 0 ≤ j ∧ j ≤ n) (hn : 1 ≤ n ∧ n ≤ 64) : (0 ≤ (mkM x n j).s ∧ (mkM x n j).s ≤ x.s) ∧ 400 ≤ (mkM x n j).p.lo ∧ (mkM x n j).p.lo ≤ 31100 ∧ 400 ≤ (mkM x n j).p.hi ∧ (mkM x n j).p.hi ≤ 31100 ∧ (mkM x n j).p.lo ≤ (mkM x n j).p.hi := by
  have h1 := sec_in hj hn h.s
  refine ⟨⟨h1.2.2.1, h1.2.2.2⟩, ?_⟩
  unfold mkM
  dsimp only
  split
  · have h2 := sum_in h ⟨h1.2.2.1, h1.2.2.2⟩
    have h3 := quo_in (show 1 ≤ x.s by omega) h2.2.2.2.2.1 h2.2.2.2.2.2.1
    dsimp only
    omega
  · have := h.f
    unfold okPr at this
    dsimp only
    omega
def stM (f : Nat) (ts : List Cp) (ls : List Ld) (x : Lg) (n : Nat) : Nat → List Ld
  | 0 => ls
  | k + 1 => stepM (8 + 2 * f) ((mkM x n ((k : Int) + 1)).s - (mkM x n k).s) (min (mkM x n k).p.lo (mkM x n ((k : Int) + 1)).p.lo) (max (mkM x n k).p.hi (mkM x n ((k : Int) + 1)).p.hi) x.g ts (stM f ts ls x n k)
theorem stM_len {f : Nat} {ts : List Cp} {ls : List Ld} {x : Lg} {n : Nat} (h : ls.length = ts.length) : ∀ k, (stM f ts ls x n k).length = ts.length
  | 0 => h
  | k + 1 => stepM_len (stM_len h k)
theorem stM_in {f : Nat} {ts : List Cp} {ls : List Ld} {x : Lg} {n : Nat} (hx : okLg x) (hn : 1 ≤ n ∧ n ≤ 64) (hl : ∀ y ∈ ls, inLd y) : ∀ k, k ≤ n → ∀ y ∈ stM f ts ls x n k, inLd y
  | 0, _ => hl
  | k + 1, hk => by
    have h1 := mk_in (j := (k : Int)) hx (n := (n : Int)) (by omega) (by omega)
    have h2 := mk_in (j := (k : Int) + 1) hx (n := (n : Int)) (by omega) (by omega)
    exact stepM_in ⟨by omega, by omega, by omega, by omega⟩ hx.g (stM_in hx hn hl k (by omega))
def loadedM (ts : List Cp) (ls : List Ld) (x : Lg) (f : Nat) : List Ld := if x.s = 0 then ls else stM f ts ls x (2 ^ f) (2 ^ f)
theorem two_f {f n : Nat} (hf : f ≤ 6) (hn : n = 2 ^ f) : 1 ≤ n ∧ n ≤ 64 := by
  subst hn
  match f, hf with
  | 0, _ => decide
  | 1, _ => decide
  | 2, _ => decide
  | 3, _ => decide
  | 4, _ => decide
  | 5, _ => decide
  | 6, _ => decide
def lowM (x : Lg) (n : Nat) : Nat → Int
  | 0 => (mkM x n (0 : Nat)).p.lo
  | k + 1 => min (mkM x n k).p.lo (mkM x n ((k : Int) + 1)).p.lo
theorem mk_mono {x : Lg} {n : Nat} (h : okLg x) (hn : 1 ≤ n) (k : Nat) : (mkM x n k).s ≤ (mkM x n ((k : Int) + 1)).s := sec_mono (by omega) h.s.1
theorem loadedM_pos {ts : List Cp} {ls : List Ld} {x : Lg} {f n : Nat} (h : x.s ≠ 0) (hn : n = 2 ^ f) : loadedM ts ls x f = stM f ts ls x n n := by
  unfold loadedM
  rw [if_neg h, ← hn]
theorem loadedM_zero {ts : List Cp} {ls : List Ld} {x : Lg} {f : Nat} (h : x.s = 0) : loadedM ts ls x f = ls := if_pos h
theorem loadedM_len {ts : List Cp} {ls : List Ld} {x : Lg} {f : Nat} (h : ls.length = ts.length) : (loadedM ts ls x f).length = ts.length := by
  unfold loadedM
  split
  · exact h
  · exact stM_len h _
end Go.Proofs.YtacndicgpkeobaaGreatDoor
namespace Go.Proofs.YtacndicgpkeobaaGreatDoor

/-! ### Powers of rational numbers -/
theorem rpow_add (x : Rat) (m : Nat) : ∀ n : Nat, x ^ (m + n) = x ^ m * x ^ n
  | 0 => by rw [Nat.add_zero, Rat.pow_zero, Rat.mul_one]
  | n + 1 => by rw [← Nat.add_assoc, Rat.pow_succ, Rat.pow_succ, rpow_add x m n, Rat.mul_assoc]
theorem rpow_mul (x : Rat) (m : Nat) : ∀ n : Nat, x ^ (m * n) = (x ^ m) ^ n
  | 0 => by rw [Nat.mul_zero, Rat.pow_zero, Rat.pow_zero]
  | n + 1 => by rw [Nat.mul_succ, rpow_add, Rat.pow_succ, rpow_mul x m n]
theorem mul_rpow (x y : Rat) : ∀ n : Nat, (x * y) ^ n = x ^ n * y ^ n
  | 0 => by rw [Rat.pow_zero, Rat.pow_zero, Rat.pow_zero, Rat.mul_one]
  | n + 1 => by rw [Rat.pow_succ, Rat.pow_succ, Rat.pow_succ, mul_rpow x y n]; grind
theorem one_rpow : ∀ n : Nat, (1 : Rat) ^ n = 1
  | 0 => Rat.pow_zero 1
  | n + 1 => by rw [Rat.pow_succ, one_rpow n, Rat.mul_one]
theorem rmul_le {a b c d : Rat} (h1 : a ≤ b) (h2 : c ≤ d) (hb : 0 ≤ b) (hc : 0 ≤ c) : a * c ≤ b * d :=
  Rat.le_trans (Rat.mul_le_mul_of_nonneg_right h1 hc) (Rat.mul_le_mul_of_nonneg_left h2 hb)
theorem rpow_le {x y : Rat} (hx : 0 ≤ x) (h : x ≤ y) : ∀ n : Nat, x ^ n ≤ y ^ n
  | 0 => by rw [Rat.pow_zero, Rat.pow_zero]; exact Rat.le_refl
  | n + 1 => by
    rw [Rat.pow_succ, Rat.pow_succ]
    exact rmul_le (rpow_le hx h n) h (Rat.pow_nonneg (Rat.le_trans hx h)) hx
theorem rpow_lt {x y : Rat} (hx : 0 ≤ x) (h : x < y) : ∀ n : Nat, x ^ (n + 1) < y ^ (n + 1)
  | 0 => by rw [Rat.pow_one, Rat.pow_one]; exact h
  | n + 1 => by
    have hy : 0 < y := by grind
    rw [Rat.pow_succ, Rat.pow_succ y]
    have h1 := rpow_lt hx h n
    have h2 : x ^ (n + 1) * x ≤ y ^ (n + 1) * x := Rat.mul_le_mul_of_nonneg_right (Rat.le_of_lt h1) hx
    have h3 : y ^ (n + 1) * x < y ^ (n + 1) * y := Rat.mul_lt_mul_of_pos_left h (Rat.pow_pos hy)
    grind
theorem rroot_le {x y : Rat} {n : Nat} (hn : 1 ≤ n) (hy : 0 ≤ y) (h : x ^ n ≤ y ^ n) : x ≤ y := by
  obtain ⟨m, rfl⟩ : ∃ m, n = m + 1 := ⟨n - 1, by omega⟩
  rcases Rat.le_total (a := x) (b := y) with hl | hl
  · exact hl
  · by_cases he : y < x
    · have := rpow_lt hy he m
      grind
    · exact Rat.not_lt.1 he
theorem two_rpow_ge (n : Nat) : (1 : Rat) ≤ 2 ^ n := by
  have := rpow_le (x := 1) (y := 2) (by decide) (by decide) n
  rwa [one_rpow] at this
theorem rmul_one_le {x y : Rat} (hx : 1 ≤ x) (hy : 1 ≤ y) : 1 ≤ x * y := by
  have := rmul_le (a := 1) (b := x) (c := 1) (d := y) hx hy (by grind) (by decide)
  grind
theorem rmul_le_one {x y : Rat} (hx : x ≤ 1) (hy : y ≤ 1) (_ : 0 ≤ x) (hy0 : 0 ≤ y) : x * y ≤ 1 := by
  have := rmul_le (a := x) (b := 1) (c := y) (d := 1) hx hy (by decide) hy0
  grind

/-! ### Fractions of the scale -/
def fr (n : Int) : Rat := (n : Rat) / 1000000000
theorem fr_mul (n : Int) : fr n * 1000000000 = (n : Rat) := Rat.div_mul_cancel (by decide)
theorem cle {a b : Int} (h : a ≤ b) : (a : Rat) ≤ (b : Rat) := Rat.intCast_le_intCast.2 h
theorem fr_le {a b : Int} (h : a ≤ b) : fr a ≤ fr b := by
  have h1 := fr_mul a
  have h2 := fr_mul b
  have h3 := cle h
  grind
theorem le_fr {a b : Int} (h : fr a ≤ fr b) : a ≤ b := by
  have h1 := fr_mul a
  have h2 := fr_mul b
  refine Rat.intCast_le_intCast.1 ?_
  grind
theorem fr_zero : fr 0 = 0 := by
  have h1 := fr_mul 0
  have h2 : ((0 : Int) : Rat) = 0 := rfl
  grind
theorem fr_one : fr 1000000000 = 1 := by
  have h1 := fr_mul 1000000000
  have h2 : ((1000000000 : Int) : Rat) = 1000000000 := rfl
  grind
theorem fr_nn {a : Int} (h : 0 ≤ a) : 0 ≤ fr a := by
  have := fr_le h
  rwa [fr_zero] at this
theorem quo_down {m b : Int} (hb : 0 < b) : ((m / b : Int) : Rat) * (b : Rat) ≤ (m : Rat) := by
  have h := Int.ediv_mul_le m (show b ≠ 0 by omega)
  have := cle h
  rwa [Rat.intCast_mul] at this
theorem quo_up {m b : Int} (hb : 0 < b) : (m : Rat) ≤ ((upZ m b : Int) : Rat) * (b : Rat) := by
  have h : m ≤ upZ m b * b := by
    have h1 := Int.mul_ediv_add_emod (m + b - 1) b
    have h2 := Int.emod_lt_of_pos (m + b - 1) hb
    have h3 : upZ m b * b = b * ((m + b - 1) / b) := Int.mul_comm _ _
    omega
  have := cle h
  rwa [Rat.intCast_mul] at this
theorem fr_down (m : Int) {a b : Int} (hm : m = a * b) : fr (m / 1000000000) ≤ fr a * fr b := by
  subst hm
  have h0 := fr_mul (a * b / 1000000000)
  have h1 := fr_mul a
  have h2 := fr_mul b
  have h3 := quo_down (m := a * b) (b := 1000000000) (by decide)
  rw [Rat.intCast_mul, ← h1, ← h2, ← h0] at h3
  have h4 : ((1000000000 : Int) : Rat) = 1000000000 := rfl
  rw [h4] at h3
  grind
theorem fr_up (m : Int) {a b : Int} (hm : m = a * b) : fr a * fr b ≤ fr (upZ m 1000000000) := by
  subst hm
  have h0 := fr_mul (upZ (a * b) 1000000000)
  have h1 := fr_mul a
  have h2 := fr_mul b
  have h3 := quo_up (m := a * b) (b := 1000000000) (by decide)
  rw [Rat.intCast_mul, ← h1, ← h2, ← h0] at h3
  have h4 : ((1000000000 : Int) : Rat) = 1000000000 := rfl
  rw [h4] at h3
  grind
theorem fr_half_down (a : Int) : fr (a / 2) * 2 ≤ fr a := by
  have h0 := fr_mul (a / 2)
  have h1 := fr_mul a
  have h3 := quo_down (m := a) (b := 2) (by decide)
  have h4 : ((2 : Int) : Rat) = 2 := rfl
  rw [h4, ← h0, ← h1] at h3
  grind
theorem fr_half_up (a : Int) : fr a ≤ fr (upZ a 2) * 2 := by
  have h0 := fr_mul (upZ a 2)
  have h1 := fr_mul a
  have h3 := quo_up (m := a) (b := 2) (by decide)
  have h4 : ((2 : Int) : Rat) = 2 := rfl
  rw [h4, ← h0, ← h1] at h3
  grind

/-! ### Roots -/
theorem root_enc : ∀ k, fr (rootR k).lo ^ (2 ^ k) * 2 ≤ 1 ∧ 1 ≤ fr (rootR k).hi ^ (2 ^ k) * 2
  | 0 => by
    have h := fr_mul 500000000
    have h2 : ((500000000 : Int) : Rat) = 500000000 := rfl
    simp only [rootR, Nat.pow_zero, Rat.pow_one]
    constructor <;> grind
  | k + 1 => by
    obtain ⟨h1, h2⟩ := root_enc k
    obtain ⟨r1, r2, r3⟩ := rootR_in k
    have e : 2 ^ (k + 1) = 2 * 2 ^ k := by rw [Nat.pow_succ]; omega
    have sq : ∀ x : Rat, x ^ 2 = x * x := fun x => by rw [Rat.pow_succ, Rat.pow_one]
    rw [e, rpow_mul, rpow_mul, sq, sq]
    constructor
    · have hs := sqrZ_spec (n := 1000000000 * (rootR k).lo) (by omega)
      show (fr (sqrZ (1000000000 * (rootR k).lo)) * fr (sqrZ (1000000000 * (rootR k).lo))) ^ (2 ^ k) * 2 ≤ 1
      have h3 : fr (sqrZ (1000000000 * (rootR k).lo)) * fr (sqrZ (1000000000 * (rootR k).lo)) ≤ fr (rootR k).lo := by
        have a1 := fr_mul (sqrZ (1000000000 * (rootR k).lo))
        have a2 := fr_mul (rootR k).lo
        have a3 := cle hs.2.1
        rw [Rat.intCast_mul, Rat.intCast_mul, ← a1, ← a2] at a3
        have h4 : ((1000000000 : Int) : Rat) = 1000000000 := rfl
        rw [h4] at a3
        grind
      have h0 := fr_nn hs.1
      have h5 := rpow_le (Rat.mul_nonneg h0 h0) h3 (2 ^ k)
      grind
    · have hs := sqrZ_spec (n := 1000000000 * (rootR k).hi) (by omega)
      have h3 : fr (rootR k).hi ≤ fr (rootR (k + 1)).hi * fr (rootR (k + 1)).hi := by
        have h9 : 1000000000 * (rootR k).hi ≤ (rootR (k + 1)).hi * (rootR (k + 1)).hi := by
          show 1000000000 * (rootR k).hi ≤ (rootS (rootR k)).hi * (rootS (rootR k)).hi
          unfold rootS
          dsimp only
          split <;> omega
        have a1 := fr_mul (rootR (k + 1)).hi
        have a2 := fr_mul (rootR k).hi
        have a3 := cle h9
        rw [Rat.intCast_mul, Rat.intCast_mul, ← a1, ← a2] at a3
        have h4 : ((1000000000 : Int) : Rat) = 1000000000 := rfl
        rw [h4] at a3
        grind
      have h5 := rpow_le (fr_nn (show 0 ≤ (rootR k).hi by omega)) h3 (2 ^ k)
      grind

/-! ### Decays -/
def Enc (d : Rg) (h e : Nat) : Prop := fr d.lo ^ h * 2 ^ e ≤ 1 ∧ 1 ≤ fr d.hi ^ h * 2 ^ e
theorem halve_enc : ∀ (k : Nat) {d : Rg} {e : Nat}, inD d → Enc d 1 e → Enc (halve k d) 1 (k + e)
  | 0, d, e, _, h => by rw [Nat.zero_add]; exact h
  | k + 1, d, e, hd, h => by
    have h1 : Enc ⟨d.lo / 2, upZ d.hi 2⟩ 1 (e + 1) := by
      obtain ⟨a, b⟩ := h
      rw [Rat.pow_one] at a b
      have c1 := fr_half_down d.lo
      have c2 := fr_half_up d.hi
      have p := two_rpow_ge e
      constructor
      · rw [Rat.pow_one, Rat.pow_succ]
        have := Rat.mul_le_mul_of_nonneg_right c1 (show (0 : Rat) ≤ 2 ^ e by grind)
        grind
      · rw [Rat.pow_one, Rat.pow_succ]
        have := Rat.mul_le_mul_of_nonneg_right c2 (show (0 : Rat) ≤ 2 ^ e by grind)
        grind
    have := halve_enc k hd.half h1
    rwa [show k + 1 + e = k + (e + 1) by omega]
theorem Enc.pow {d : Rg} {h e : Nat} (hd : inD d) (n : Nat) (he : Enc d h e) : Enc d (h * n) (e * n) := by
  obtain ⟨a, b⟩ := he
  have h0 := fr_nn hd.a
  have h1 := fr_nn hd.c
  have p := two_rpow_ge e
  constructor
  · rw [rpow_mul, rpow_mul, ← mul_rpow]
    have := rpow_le (x := fr d.lo ^ h * 2 ^ e) (y := 1) (Rat.mul_nonneg (Rat.pow_nonneg h0) (by grind)) a n
    rwa [one_rpow] at this
  · rw [rpow_mul, rpow_mul, ← mul_rpow]
    have := rpow_le (x := 1) (y := fr d.hi ^ h * 2 ^ e) (by decide) b n
    rwa [one_rpow] at this
theorem root_Enc (k h : Nat) : Enc (rootR k) (h * 2 ^ k) h := by
  obtain ⟨a, b⟩ := root_enc k
  obtain ⟨r1, r2, r3⟩ := rootR_in k
  have hd : inD (rootR k) := ⟨by omega, by omega, by omega, r3⟩
  have := Enc.pow (d := rootR k) (h := 2 ^ k) (e := 1) hd h ⟨by rwa [Rat.pow_one], by rwa [Rat.pow_one]⟩
  rwa [Nat.mul_comm (2 ^ k) h, Nat.one_mul] at this
structure DK (h s k : Nat) (x : Int × Rg) : Prop where
  d : inD x.2
  a0 : 0 ≤ x.1
  a1 : x.1 < h
  le : x.1 ≤ ((s * 2 ^ k : Nat) : Int)
  e : Enc x.2 (h * 2 ^ k) (s * 2 ^ k - x.1.toNat)
theorem dF_enc {h s n : Nat} : ∀ (j k : Nat) (x : Int × Rg), k + j = n → DK h s k x → DK h s n (dF h x (((rts n).drop 1).drop k))
  | 0, k, x, hk, hx => by
    rw [Nat.add_zero] at hk
    subst hk
    rw [drop_all (by rw [rts_tail_len]; exact Nat.le_refl _)]
    exact hx
  | j + 1, k, (a, d), hk, hx => by
    rw [dF_step (rts_tail_get (show k < n by omega))]
    refine dF_enc j (k + 1) _ (by omega) ?_
    obtain ⟨hd, a0, a1, hle, he⟩ := hx
    dsimp only at hd a0 a1 hle he
    have e2 : 2 ^ (k + 1) = 2 ^ k * 2 := Nat.pow_succ ..
    have e3 : h * 2 ^ (k + 1) = h * 2 ^ k * 2 := by rw [e2, Nat.mul_assoc]
    have e4 : s * 2 ^ (k + 1) = s * 2 ^ k * 2 := by rw [e2, Nat.mul_assoc]
    have he2 := he.pow hd 2
    by_cases hc : 2 * a ≥ (h : Int)
    · rw [dS_yes rfl hc]
      have hr := root_Enc (k + 1) h
      have hrin := rootR_in (k + 1)
      have hdm := hd.mul hrin
      obtain ⟨r1, r2, r3⟩ := hrin
      refine ⟨hdm, by dsimp only; omega, by dsimp only; omega, by dsimp only; omega, ?_⟩
      dsimp only
      obtain ⟨p1, p2⟩ := he2
      obtain ⟨q1, q2⟩ := hr
      rw [← e3] at p1 p2
      have ex : s * 2 ^ (k + 1) - (2 * a - (h : Int)).toNat = (s * 2 ^ k - a.toNat) * 2 + h := by omega
      have t2 := two_rpow_ge ((s * 2 ^ k - a.toNat) * 2)
      have t3 := two_rpow_ge h
      have f1 := fr_nn hd.a
      have f2 := fr_nn (show 0 ≤ (rootR (k + 1)).lo by omega)
      have f3 := fr_nn hd.c
      have f4 := fr_nn (show 0 ≤ (rootR (k + 1)).hi by omega)
      have g1 : (0 : Rat) ≤ fr d.lo ^ (h * 2 ^ (k + 1)) := Rat.pow_nonneg f1
      have g2 : (0 : Rat) ≤ fr (rootR (k + 1)).lo ^ (h * 2 ^ (k + 1)) := Rat.pow_nonneg f2
      constructor
      · have u := rpow_le (fr_nn hdm.a) (fr_down (d.lo * (rootR (k + 1)).lo) rfl) (h * 2 ^ (k + 1))
        dsimp only at u
        rw [mul_rpow] at u
        rw [ex, rpow_add]
        have v := rmul_le_one p1 q1 (Rat.mul_nonneg g1 (by grind)) (Rat.mul_nonneg g2 (by grind))
        have w := Rat.mul_le_mul_of_nonneg_right u (Rat.mul_nonneg (show (0 : Rat) ≤ 2 ^ ((s * 2 ^ k - a.toNat) * 2) by grind) (show (0 : Rat) ≤ 2 ^ h by grind))
        dsimp only
        grind
      · have u := rpow_le (Rat.mul_nonneg f3 f4) (fr_up (d.hi * (rootR (k + 1)).hi) rfl) (h * 2 ^ (k + 1))
        rw [mul_rpow] at u
        rw [ex, rpow_add]
        have v := rmul_one_le p2 q2
        have w := Rat.mul_le_mul_of_nonneg_right u (Rat.mul_nonneg (show (0 : Rat) ≤ 2 ^ ((s * 2 ^ k - a.toNat) * 2) by grind) (show (0 : Rat) ≤ 2 ^ h by grind))
        dsimp only
        grind
    · rw [dS_no rfl hc]
      refine ⟨hd, by dsimp only; omega, by dsimp only; omega, by dsimp only; omega, ?_⟩
      dsimp only
      rw [e3, show s * 2 ^ (k + 1) - (2 * a).toNat = (s * 2 ^ k - a.toNat) * 2 by omega]
      exact he2
theorem decM_enc {s h : Nat} (n : Nat) (hh : 1 ≤ h) : Enc (decM s h n) h s := by
  have hq : DK h s 0 ((s : Int) % h, halve ((s : Int) / h).toNat ⟨1000000000, 1000000000⟩) := by
    have m0 := Int.emod_nonneg (s : Int) (show (h : Int) ≠ 0 by omega)
    have m1 := Int.emod_lt_of_pos (s : Int) (show (0 : Int) < h by omega)
    have m2 : ((s : Int) / h).toNat = s / h := by rw [← Int.natCast_ediv]; rfl
    have m3 : ((s : Int) % h) = ((s % h : Nat) : Int) := (Int.natCast_emod s h).symm
    have m4 := Nat.div_add_mod s h
    have m5 := Nat.mod_le s h
    have hE := halve_enc (s / h) (d := ⟨1000000000, 1000000000⟩) (e := 0) inD0 (by
      constructor
      · rw [Rat.pow_one, Rat.pow_zero, fr_one]; grind
      · rw [Rat.pow_one, Rat.pow_zero, fr_one]; grind)
    have hE2 := hE.pow (halve_in _ inD0) h
    refine ⟨halve_in _ inD0, m0, m1, by dsimp only; rw [m3]; omega, ?_⟩
    dsimp only
    rw [m2, m3, Nat.pow_zero, Nat.mul_one, Nat.mul_one]
    rw [Nat.one_mul, Nat.add_zero] at hE2
    rw [show s - ((s % h : Nat) : Int).toNat = s / h * h by rw [Int.toNat_natCast, Nat.mul_comm]; omega]
    exact hE2
  have hF := dF_enc (n := n) n 0 _ (Nat.zero_add n) hq
  rw [List.drop_zero] at hF
  unfold decM decE
  generalize dF (h : Int) ((s : Int) % h, halve ((s : Int) / h).toNat ⟨1000000000, 1000000000⟩) ((rts n).drop 1) = x at hF
  obtain ⟨hd, a0, a1, hle, p1, p2⟩ := hF
  have hp : 1 ≤ 2 ^ n := Nat.one_le_two_pow
  have t1 := two_rpow_ge (s * 2 ^ n - x.1.toNat)
  have ex : s * 2 ^ n = (s * 2 ^ n - x.1.toNat) + x.1.toNat := by omega
  have root1 : ∀ {d : Rg}, inD d → fr d.lo ^ (h * 2 ^ n) * 2 ^ (s * 2 ^ n) ≤ 1 → 1 ≤ fr d.hi ^ (h * 2 ^ n) * 2 ^ (s * 2 ^ n) → Enc d h s := fun {d} hd h1 h2 => by
    rw [rpow_mul, rpow_mul, ← mul_rpow] at h1 h2
    have t := two_rpow_ge s
    have g1 : (0 : Rat) ≤ fr d.hi ^ h * 2 ^ s := Rat.mul_nonneg (Rat.pow_nonneg (fr_nn hd.c)) (by grind)
    constructor
    · exact rroot_le hp (by decide) (by rwa [one_rpow])
    · exact rroot_le hp g1 (by rwa [one_rpow])
  have hi2 : 1 ≤ fr x.2.hi ^ (h * 2 ^ n) * 2 ^ (s * 2 ^ n) := by
    rw [ex, rpow_add]
    have t2 := two_rpow_ge x.1.toNat
    have := rmul_one_le p2 t2
    grind
  have f1 := fr_nn hd.a
  split
  · rename_i hne
    obtain ⟨r1, r2, r3⟩ := rootR_in n
    obtain ⟨q1, q2⟩ := root_Enc n h
    have f2 := fr_nn (show 0 ≤ (rootR n).lo by omega)
    have hlo := part_in (x := x.2.lo) hd.a hd.b (show 0 ≤ (rootR n).lo by omega) (by omega)
    refine root1 ⟨by dsimp only; omega, by dsimp only; have := hd.b; omega, hd.c, hd.e⟩ ?_ hi2
    dsimp only
    have u := rpow_le (fr_nn hlo.1) (fr_down (x.2.lo * (rootR n).lo) rfl) (h * 2 ^ n)
    rw [mul_rpow] at u
    have g1 : (0 : Rat) ≤ fr x.2.lo ^ (h * 2 ^ n) := Rat.pow_nonneg f1
    have g2 : (0 : Rat) ≤ fr (rootR n).lo ^ (h * 2 ^ n) := Rat.pow_nonneg f2
    have t3 := two_rpow_ge h
    have v := rmul_le_one p1 q1 (Rat.mul_nonneg g1 (by grind)) (Rat.mul_nonneg g2 (by grind))
    have hsp : h = x.1.toNat + (h - x.1.toNat) := by omega
    have t4 := two_rpow_ge (h - x.1.toNat)
    have t5 := two_rpow_ge x.1.toNat
    have e5 : (2 : Rat) ^ h = 2 ^ x.1.toNat * 2 ^ (h - x.1.toNat) := by rw [← rpow_add, ← hsp]
    have t6 : (2 : Rat) ^ x.1.toNat ≤ 2 ^ h := by
      rw [e5]
      have := Rat.mul_le_mul_of_nonneg_left t4 (show (0 : Rat) ≤ 2 ^ x.1.toNat by grind)
      grind
    rw [ex, rpow_add]
    have w := Rat.mul_le_mul_of_nonneg_right u (Rat.mul_nonneg (show (0 : Rat) ≤ 2 ^ (s * 2 ^ n - x.1.toNat) by grind) (show (0 : Rat) ≤ 2 ^ x.1.toNat by grind))
    have w2 := Rat.mul_le_mul_of_nonneg_left t6 (Rat.mul_nonneg (Rat.mul_nonneg g1 g2) (show (0 : Rat) ≤ 2 ^ (s * 2 ^ n - x.1.toNat) by grind))
    grind
  · rename_i hne
    have h0 : x.1.toNat = 0 := by omega
    rw [h0, Nat.sub_zero] at p1
    exact root1 hd p1 hi2
end Go.Proofs.YtacndicgpkeobaaGreatDoor
