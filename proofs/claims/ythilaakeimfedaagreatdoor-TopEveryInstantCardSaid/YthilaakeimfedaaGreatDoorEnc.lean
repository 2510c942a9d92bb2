/-
  How the data of chapter 3 lies in memory. Conditions: none; no program in sight.
-/
import Derived.Test.YthilaakeimfedaaGreatDoorMod2
import Derived.Test.YthilaakeimfedaaGreatDoorShTree
import Derived.Test.YthilaakeimfedaaGreatDoorShOwn
import Derived.Test.YthilaakeimfedaaGreatDoorShTreeO
import Derived.Test.YthilaakeimfedaaGreatDoorShRange
import Derived.Test.YthilaakeimfedaaGreatDoorShUse
namespace Go.Proofs.YthilaakeimfedaaGreatDoor

/-! ### Steps -/
structure inX (r : Rg) : Prop where
  a : 0 ≤ r.lo
  b : r.lo ≤ 100000000
  c : 0 ≤ r.hi
  e : r.hi ≤ 100000000
def inLd (l : Ld) : Prop := inX l.n ∧ inX l.h
def nearM (l : Rg) (a b : Int) (d : Rg) : Rg :=
  ⟨if l.lo ≥ a then a + (l.lo - a) * d.lo / 1000000000 else a - upZ ((a - l.lo) * d.hi) 1000000000, if l.hi ≥ b then b + upZ ((l.hi - b) * d.hi) 1000000000 else b - (b - l.hi) * d.lo / 1000000000⟩
theorem near_tt {l d : Rg} {a b : Int} (h1 : l.lo ≥ a) (h2 : l.hi ≥ b) : (⟨a + (l.lo - a) * d.lo / 1000000000, b + upZ ((l.hi - b) * d.hi) 1000000000⟩ : Rg) = nearM l a b d := by unfold nearM; rw [if_pos h1, if_pos h2]
theorem near_tf {l d : Rg} {a b : Int} (h1 : l.lo ≥ a) (h2 : ¬ l.hi ≥ b) : (⟨a + (l.lo - a) * d.lo / 1000000000, b - (b - l.hi) * d.lo / 1000000000⟩ : Rg) = nearM l a b d := by unfold nearM; rw [if_pos h1, if_neg h2]
theorem near_ft {l d : Rg} {a b : Int} (h1 : ¬ l.lo ≥ a) (h2 : l.hi ≥ b) : (⟨a - upZ ((a - l.lo) * d.hi) 1000000000, b + upZ ((l.hi - b) * d.hi) 1000000000⟩ : Rg) = nearM l a b d := by unfold nearM; rw [if_neg h1, if_pos h2]
theorem near_ff {l d : Rg} {a b : Int} (h1 : ¬ l.lo ≥ a) (h2 : ¬ l.hi ≥ b) : (⟨a - upZ ((a - l.lo) * d.hi) 1000000000, b - (b - l.hi) * d.lo / 1000000000⟩ : Rg) = nearM l a b d := by unfold nearM; rw [if_neg h1, if_neg h2]
theorem part_in {x d : Int} (hx : 0 ≤ x) (hx' : x ≤ 1000000000) (hd : 0 ≤ d) (hd' : d ≤ 1000000000) : 0 ≤ x * d / 1000000000 ∧ x * d / 1000000000 ≤ x ∧ 0 ≤ upZ (x * d) 1000000000 ∧ upZ (x * d) 1000000000 ≤ x ∧ 0 ≤ x * d ∧ x * d ≤ 1000000000 * x := by
  have h1 := Int.mul_nonneg hx hd
  have h2 := Int.mul_le_mul (Int.le_refl x) hd' hd hx
  have h3 : x * 1000000000 = 1000000000 * x := Int.mul_comm _ _
  simp only [upZ]
  omega
theorem near_in {l d : Rg} {a b : Int} (hl : inX l) (ha : 0 ≤ a ∧ a ≤ 100000000) (hb : 0 ≤ b ∧ b ≤ 100000000) (hd : inD d) : inX (nearM l a b d) := by
  obtain ⟨l1, l2, l3, l4⟩ := hl
  obtain ⟨d1, d2, d3, d4⟩ := hd
  unfold nearM
  have hlo : 0 ≤ (if l.lo ≥ a then a + (l.lo - a) * d.lo / 1000000000 else a - upZ ((a - l.lo) * d.hi) 1000000000) ∧ (if l.lo ≥ a then a + (l.lo - a) * d.lo / 1000000000 else a - upZ ((a - l.lo) * d.hi) 1000000000) ≤ 100000000 := by
    split
    · have := part_in (x := l.lo - a) (by omega) (by omega) d1 d2; omega
    · have := part_in (x := a - l.lo) (by omega) (by omega) d3 d4; omega
  have hhi : 0 ≤ (if l.hi ≥ b then b + upZ ((l.hi - b) * d.hi) 1000000000 else b - (b - l.hi) * d.lo / 1000000000) ∧ (if l.hi ≥ b then b + upZ ((l.hi - b) * d.hi) 1000000000 else b - (b - l.hi) * d.lo / 1000000000) ≤ 100000000 := by
    split
    · have := part_in (x := l.hi - b) (by omega) (by omega) d3 d4; omega
    · have := part_in (x := b - l.hi) (by omega) (by omega) d1 d2; omega
  exact ⟨hlo.1, hlo.2, hhi.1, hhi.2⟩
theorem dF_in {h : Int} : ∀ (l : List Rg) (x : Int × Rg), (∀ r ∈ l, inR r) → inD x.2 → inD (dF h x l).2
  | [], _, _, hx => hx
  | r :: t, x, hl, hx => by
    show inD (dF h (dS h x r) t).2
    refine dF_in t _ (fun s hs => hl s (List.mem_cons_of_mem _ hs)) ?_
    unfold dS
    split
    · exact hx.mul (hl r List.mem_cons_self)
    · exact hx
theorem rts_in {n : Nat} {r : Rg} (h : r ∈ rts n) : inR r := by
  unfold rts at h
  obtain ⟨k, _, rfl⟩ := List.mem_map.1 h
  exact rootR_in k
theorem decM_in (s h : Int) (n : Nat) : inD (decM s h n) := by
  have h1 : inD (dF h (s % h, halve (s / h).toNat ⟨1000000000, 1000000000⟩) ((rts n).drop 1)).2 := dF_in _ _ (fun r hr => rts_in (List.mem_of_mem_drop hr)) (halve_in _ inD0)
  unfold decM decE
  generalize dF h (s % h, halve (s / h).toNat ⟨1000000000, 1000000000⟩) ((rts n).drop 1) = y at h1
  split
  · obtain ⟨a, b, c, e⟩ := h1
    have hr := rootR_in n
    have := part_in (x := y.2.lo) a b (show 0 ≤ (rootR n).lo by have := hr.a; omega) (by have := hr.b; have := hr.c; omega)
    exact ⟨by dsimp only; omega, by dsimp only; omega, c, e⟩
  · exact h1
structure inP (lo hi : Int) : Prop where
  a : 63 ≤ lo
  b : lo ≤ 50000
  c : 63 ≤ hi
  e : hi ≤ 50000
structure inG (g : Gs) : Prop where
  a : 0 ≤ g.o
  b : 0 ≤ g.h
  c : g.o + g.h ≤ 1000
theorem breath_in {n p : Int} (hn : 0 ≤ n ∧ n ≤ 1000) (hp : 63 ≤ p ∧ p ≤ 50000) : 0 ≤ n * (p - 63) ∧ n * (p - 63) ≤ 100000000 := by
  have h1 := Int.mul_nonneg hn.1 (show 0 ≤ p - 63 by omega)
  have h2 := Int.mul_le_mul hn.2 (show p - 63 ≤ 50000 by omega) (by omega) (by omega)
  omega
def stepL (n : Nat) (s lo hi : Int) (g : Gs) (c : Cp) (x : Ld) : Ld :=
  ⟨nearM x.n ((1000 - g.o - g.h) * (lo - 63)) ((1000 - g.o - g.h) * (hi - 63)) (decM s c.n n), nearM x.h (g.h * (lo - 63)) (g.h * (hi - 63)) (decM s c.h n)⟩
theorem step_in {n : Nat} {s lo hi : Int} {g : Gs} {c : Cp} {x : Ld} (hp : inP lo hi) (hg : inG g) (hx : inLd x) : inLd (stepL n s lo hi g c x) := by
  obtain ⟨g1, g2, g3⟩ := hg
  obtain ⟨p1, p2, p3, p4⟩ := hp
  exact ⟨near_in hx.1 (breath_in (by omega) (by omega)) (breath_in (by omega) (by omega)) (decM_in _ _ _), near_in hx.2 (breath_in (by omega) (by omega)) (breath_in (by omega) (by omega)) (decM_in _ _ _)⟩
def stepM (n : Nat) (s lo hi : Int) (g : Gs) (ts : List Cp) (ls : List Ld) : List Ld := List.zipWith (stepL n s lo hi g) ts ls
theorem stepM_len {n : Nat} {s lo hi : Int} {g : Gs} {ts : List Cp} {ls : List Ld} (h : ls.length = ts.length) : (stepM n s lo hi g ts ls).length = ts.length := by
  unfold stepM
  rw [List.length_zipWith]
  omega
theorem stepM_in {n : Nat} {s lo hi : Int} {g : Gs} {ts : List Cp} {ls : List Ld} (hp : inP lo hi) (hg : inG g) (hx : ∀ x ∈ ls, inLd x) : ∀ x ∈ stepM n s lo hi g ts ls, inLd x := by
  intro x h
  unfold stepM at h
  rw [List.zipWith_eq_zipWith_take_min, ← List.map_uncurry_zip_eq_zipWith] at h
  obtain ⟨⟨c, y⟩, hm, rfl⟩ := List.mem_map.1 h
  exact step_in hp hg (hx y (List.mem_of_mem_take (List.of_mem_zip hm).2))
theorem zip_take {α β γ : Type} (f : α → β → γ) {ts : List α} {ls : List β} {k : Nat} {c : α} {x : β} (h1 : ts[k]? = some c) (h2 : ls[k]? = some x) : (List.zipWith f ts ls).take (k + 1) = (List.zipWith f ts ls).take k ++ [f c x] := by
  have h3 : (List.zipWith f ts ls)[k]? = some (f c x) := by rw [List.getElem?_zipWith, h1, h2]
  rw [List.take_add_one, h3]
  rfl

/-! ### Marks -/
structure Mk where
  s : Int
  p : Rg
structure okLg (x : Lg) : Prop where
  f : okPr x.f
  t : okPr x.t
  s : 0 ≤ x.s ∧ x.s ≤ 100000
  g : inG x.g
theorem ckLeg_ok {x : Lg} (h : ckLeg x = 0) : okLg x ∧ (x.s = 0 → x.f = x.t) := by
  unfold ckLeg at h
  split at h
  · cases h
  · rename_i h1
    split at h
    · rename_i h2; exact absurd h h2
    · rename_i h2
      split at h
      · cases h
      · rename_i h3
        have hg : ckGas x.g.o x.g.h = 0 := Decidable.not_not.1 h2
        unfold ckGas at hg
        split at hg
        · cases hg
        · split at hg
          · cases hg
          · have h4 := Decidable.not_not.1 h1
            exact ⟨⟨h4.1, h4.2.1, h4.2.2, ⟨by omega, by omega, by omega⟩⟩, fun h0 => by omega⟩
def sumM (x : Lg) (s : Int) : Int := x.f * (x.s - s) + x.t * s
def mkM (x : Lg) (n j : Int) : Mk := ⟨j * x.s / n, if x.s > 0 then ⟨sumM x (j * x.s / n) / x.s, upZ (sumM x (j * x.s / n)) x.s⟩ else ⟨x.f, x.f⟩⟩
def mksL (x : Lg) (n k : Nat) : List Mk := (List.range k).map fun j : Nat => mkM x n j
theorem mksL_succ (x : Lg) (n k : Nat) : mksL x n (k + 1) = mksL x n k ++ [mkM x n k] := by
  unfold mksL
  rw [List.range_succ, List.map_append]
  rfl
theorem mksL_len (x : Lg) (n k : Nat) : (mksL x n k).length = k := by simp [mksL]
theorem mksL_get {x : Lg} {n k j : Nat} (h : j < k) : (mksL x n k)[j]? = some (mkM x n j) := by
  unfold mksL
  rw [List.getElem?_map, List.getElem?_range h]
  rfl
theorem sec_in {j n S : Int} (hj : 0 ≤ j ∧ j ≤ n) (hn : 1 ≤ n ∧ n ≤ 64) (hS : 0 ≤ S ∧ S ≤ 100000) : 0 ≤ j * S ∧ j * S ≤ 6400000 ∧ 0 ≤ j * S / n ∧ j * S / n ≤ S := by
  have h1 := Int.mul_nonneg hj.1 hS.1
  have h2 := Int.mul_le_mul hj.2 (Int.le_refl S) hS.1 (by omega : (0 : Int) ≤ n)
  have h3 := Int.mul_le_mul (show n ≤ 64 by omega) hS.2 hS.1 (by omega : (0 : Int) ≤ 64)
  refine ⟨h1, by omega, Int.ediv_nonneg h1 (by omega), Int.ediv_le_of_le_mul (by omega) (by rw [Int.mul_comm S n]; exact h2)⟩
theorem sec_mono {j n S : Int} (hn : 1 ≤ n) (hS : 0 ≤ S) : j * S / n ≤ (j + 1) * S / n := Int.ediv_le_ediv (by omega) (by rw [Int.add_mul]; omega)
theorem sec_end {n S : Int} (hn : 1 ≤ n) : n * S / n = S := Int.mul_ediv_cancel_left _ (by omega)
theorem sum_in {x : Lg} {s : Int} (h : okLg x) (h0 : 0 ≤ s ∧ s ≤ x.s) : 0 ≤ x.f * (x.s - s) ∧ x.f * (x.s - s) ≤ 3110000000 ∧ 0 ≤ x.t * s ∧ x.t * s ≤ 3110000000 ∧ 400 * x.s ≤ sumM x s ∧ sumM x s ≤ 31100 * x.s ∧ sumM x s = x.f * (x.s - s) + x.t * s := by
  obtain ⟨⟨f1, f2⟩, ⟨t1, t2⟩, ⟨s1, s2⟩, _⟩ := h
  have a1 := Int.mul_le_mul f1 (Int.le_refl (x.s - s)) (by omega) (by omega)
  have a2 := Int.mul_le_mul f2 (Int.le_refl (x.s - s)) (by omega) (by omega)
  have a3 := Int.mul_le_mul t1 (Int.le_refl s) (by omega) (by omega)
  have a4 := Int.mul_le_mul t2 (Int.le_refl s) (by omega) (by omega)
  unfold sumM
  omega
theorem sum_alt (x : Lg) (s : Int) : x.f * x.s + (x.t - x.f) * s = sumM x s := by unfold sumM; grind
theorem quo_in {a S : Int} (hS : 1 ≤ S) (h1 : 400 * S ≤ a) (h2 : a ≤ 31100 * S) : 400 ≤ a / S ∧ a / S ≤ 31100 ∧ 400 ≤ upZ a S ∧ upZ a S ≤ 31100 ∧ a / S ≤ upZ a S := by
  have e1 : 400 ≤ a / S := Int.le_ediv_of_mul_le (by omega) h1
  have e2 : a / S ≤ 31100 := Int.ediv_le_of_le_mul (by omega) h2
  have e3 : upZ a S ≤ 31100 := by
    have : (a + S - 1) / S < 31101 := Int.ediv_lt_of_lt_mul (by omega) (by omega)
    unfold upZ; omega
  have e4 : a / S ≤ upZ a S := Int.ediv_le_ediv (by omega) (by omega)
  omega
theorem mk_in {x : Lg} {n j : Int} (h : okLg x) (hj : 0 ≤ j ∧ j ≤ n) (hn : 1 ≤ n ∧ n ≤ 64) : (0 ≤ (mkM x n j).s ∧ (mkM x n j).s ≤ x.s) ∧ 400 ≤ (mkM x n j).p.lo ∧ (mkM x n j).p.lo ≤ 31100 ∧ 400 ≤ (mkM x n j).p.hi ∧ (mkM x n j).p.hi ≤ 31100 ∧ (mkM x n j).p.lo ≤ (mkM x n j).p.hi := by
  have h1 := sec_in hj hn h.s
  refine ⟨⟨h1.2.2.1, h1.2.2.2⟩, ?_⟩
  unfold mkM
  dsimp only
  split
  · have h2 := sum_in h ⟨h1.2.2.1, h1.2.2.2⟩
    have h3 := quo_in (show 1 ≤ x.s by omega) h2.2.2.2.2.1 h2.2.2.2.2.2.1
    dsimp only
    omega
  · have := h.f
    unfold okPr at this
    dsimp only
    omega
def stM (f : Nat) (ts : List Cp) (ls : List Ld) (x : Lg) (n : Nat) : Nat → List Ld
  | 0 => ls
  | k + 1 => stepM (8 + 2 * f) ((mkM x n ((k : Int) + 1)).s - (mkM x n k).s) (min (mkM x n k).p.lo (mkM x n ((k : Int) + 1)).p.lo) (max (mkM x n k).p.hi (mkM x n ((k : Int) + 1)).p.hi) x.g ts (stM f ts ls x n k)
theorem stM_len {f : Nat} {ts : List Cp} {ls : List Ld} {x : Lg} {n : Nat} (h : ls.length = ts.length) : ∀ k, (stM f ts ls x n k).length = ts.length
  | 0 => h
  | k + 1 => stepM_len (stM_len h k)
theorem stM_in {f : Nat} {ts : List Cp} {ls : List Ld} {x : Lg} {n : Nat} (hx : okLg x) (hn : 1 ≤ n ∧ n ≤ 64) (hl : ∀ y ∈ ls, inLd y) : ∀ k, k ≤ n → ∀ y ∈ stM f ts ls x n k, inLd y
  | 0, _ => hl
  | k + 1, hk => by
    have h1 := mk_in (j := (k : Int)) hx (n := (n : Int)) (by omega) (by omega)
    have h2 := mk_in (j := (k : Int) + 1) hx (n := (n : Int)) (by omega) (by omega)
    exact stepM_in ⟨by omega, by omega, by omega, by omega⟩ hx.g (stM_in hx hn hl k (by omega))
def loadedM (ts : List Cp) (ls : List Ld) (x : Lg) (f : Nat) : List Ld := if x.s = 0 then ls else stM f ts ls x (2 ^ f) (2 ^ f)
theorem two_f {f n : Nat} (hf : f ≤ 6) (hn : n = 2 ^ f) : 1 ≤ n ∧ n ≤ 64 := by
  subst hn
  match f, hf with
  | 0, _ => decide
  | 1, _ => decide
  | 2, _ => decide
  | 3, _ => decide
  | 4, _ => decide
  | 5, _ => decide
  | 6, _ => decide
def lowM (x : Lg) (n : Nat) : Nat → Int
  | 0 => (mkM x n (0 : Nat)).p.lo
  | k + 1 => min (mkM x n k).p.lo (mkM x n ((k : Int) + 1)).p.lo
theorem mk_mono {x : Lg} {n : Nat} (h : okLg x) (hn : 1 ≤ n) (k : Nat) : (mkM x n k).s ≤ (mkM x n ((k : Int) + 1)).s := sec_mono (by omega) h.s.1
theorem loadedM_pos {ts : List Cp} {ls : List Ld} {x : Lg} {f n : Nat} (h : x.s ≠ 0) (hn : n = 2 ^ f) : loadedM ts ls x f = stM f ts ls x n n := by
  unfold loadedM
  rw [if_neg h, ← hn]
theorem loadedM_zero {ts : List Cp} {ls : List Ld} {x : Lg} {f : Nat} (h : x.s = 0) : loadedM ts ls x f = ls := if_pos h
theorem loadedM_len {ts : List Cp} {ls : List Ld} {x : Lg} {f : Nat} (h : ls.length = ts.length) : (loadedM ts ls x f).length = ts.length := by
  unfold loadedM
  split
  · exact h
  · exact stM_len h _
end Go.Proofs.YthilaakeimfedaaGreatDoor
namespace Go.Proofs.YthilaakeimfedaaGreatDoor

/-! ### Right tables and loads -/
def ordLd (l : Ld) : Prop := l.n.lo ≤ l.n.hi ∧ l.h.lo ≤ l.h.hi
structure okTL (ts : List Cp) (ls : List Ld) : Prop where
  a : 1 ≤ ts.length
  b : ts.length ≤ 16
  len : ls.length = ts.length
  c : ∀ c ∈ ts, okCp c
  x : ∀ y ∈ ls, inLd y
  o : ∀ y ∈ ls, ordLd y
theorem ckCps_ok : ∀ {ts : List Cp}, ckCps ts = 0 → ∀ c ∈ ts, okCp c
  | [], _, c, hc => by cases hc
  | d :: t, h, c, hc => by
    unfold ckCps at h
    split at h
    · rename_i hd
      rcases List.mem_cons.1 hc with rfl | hc
      · exact hd
      · exact ckCps_ok h c hc
    · cases h
theorem ckLd_ok {l : Ld} (h : ckLd l = 0) : inLd l ∧ ordLd l := by
  have h1 := ckSpan_cases l.n
  have h2 := ckSpan_cases l.h
  unfold ckLd at h
  split at h
  · cases h
  · split at h
    · cases h
    · rename_i h3 h4
      have ⟨a1, a2, a3, a4, a5⟩ : ckSpan l.n = 0 ∧ 0 ≤ l.n.lo ∧ l.n.lo ≤ 100000000 ∧ 0 ≤ l.n.hi ∧ l.n.hi ≤ 100000000 := by omega
      have ⟨b1, b2, b3, b4, b5⟩ : ckSpan l.h = 0 ∧ 0 ≤ l.h.lo ∧ l.h.lo ≤ 100000000 ∧ 0 ≤ l.h.hi ∧ l.h.hi ≤ 100000000 := by omega
      exact ⟨⟨⟨a2, a3, a4, a5⟩, ⟨b2, b3, b4, b5⟩⟩, by unfold ordLd; omega⟩
theorem ckLds_ok : ∀ {ls : List Ld}, ckLds ls = 0 → ∀ y ∈ ls, inLd y ∧ ordLd y
  | [], _, y, hy => by cases hy
  | d :: t, h, y, hy => by
    unfold ckLds at h
    split at h
    · rename_i hd; exact absurd h hd
    · rename_i hd
      rcases List.mem_cons.1 hy with rfl | hy
      · exact ckLd_ok (Decidable.not_not.1 hd)
      · exact ckLds_ok h y hy
theorem ckLoads_ok {ts : List Cp} {ls : List Ld} (h : ckLoads ts ls = 0) : okTL ts ls := by
  unfold ckLoads at h
  split at h
  · rename_i h1; exact absurd h h1
  · rename_i h1
    have h1 := Decidable.not_not.1 h1
    split at h
    · cases h
    · rename_i h2
      have h2 := Decidable.not_not.1 h2
      unfold ckTab at h1
      split at h1
      · rename_i h3
        exact ⟨h3.1, h3.2, h2, ckCps_ok h1, fun y hy => (ckLds_ok h y hy).1, fun y hy => (ckLds_ok h y hy).2⟩
      · cases h1
def loadedE (ts : List Cp) (ls : List Ld) (x : Lg) (f : Int) : List Ld × Int :=
  if ckLoads ts ls ≠ 0 then ([], ckLoads ts ls) else if ckLeg x ≠ 0 then ([], ckLeg x) else if 0 ≤ f ∧ f ≤ 6 then (loadedM ts ls x f.toNat, 0) else ([], 2)
theorem loadedE_1 {ts : List Cp} {ls : List Ld} {x : Lg} {f : Int} (h : ckLoads ts ls ≠ 0) : loadedE ts ls x f = ([], ckLoads ts ls) := if_pos h
theorem loadedE_2 {ts : List Cp} {ls : List Ld} {x : Lg} {f : Int} (h : ¬ ckLoads ts ls ≠ 0) (h2 : ckLeg x ≠ 0) : loadedE ts ls x f = ([], ckLeg x) := by unfold loadedE; rw [if_neg h, if_pos h2]
theorem loadedE_3 {ts : List Cp} {ls : List Ld} {x : Lg} {f : Int} (h : ¬ ckLoads ts ls ≠ 0) (h2 : ¬ ckLeg x ≠ 0) (h3 : ¬ (0 ≤ f ∧ f ≤ 6)) : loadedE ts ls x f = ([], 2) := by unfold loadedE; rw [if_neg h, if_neg h2, if_neg h3]
theorem loadedE_4 {ts : List Cp} {ls : List Ld} {x : Lg} {f : Nat} (h : ¬ ckLoads ts ls ≠ 0) (h2 : ¬ ckLeg x ≠ 0) (h3 : f ≤ 6) : loadedE ts ls x (f : Int) = (loadedM ts ls x f, 0) := by unfold loadedE; rw [if_neg h, if_neg h2, if_pos (by omega)]; rfl

/-! ### Limits -/
def limM (c : Cp) (p f : Int) : Int := 1000000 * p + f * (1000 * c.b + (c.s - 1000) * p)
theorem lim_in {c : Cp} {p f : Int} (hc : okCp c) (hp : 0 ≤ p ∧ p ≤ 50000) (hf : 0 ≤ f ∧ f ≤ 1000) : 0 ≤ (c.s - 1000) * p ∧ (c.s - 1000) * p ≤ 450000000 ∧ 0 ≤ f * (1000 * c.b + (c.s - 1000) * p) ∧ f * (1000 * c.b + (c.s - 1000) * p) ≤ 460000000000 ∧ limM c p f = 1000000 * p + f * (1000 * c.b + (c.s - 1000) * p) := by
  obtain ⟨_, _, _, _, b1, b2, s1, s2⟩ := hc
  have h1 := Int.mul_nonneg (show 0 ≤ c.s - 1000 by omega) hp.1
  have h2 := Int.mul_le_mul (show c.s - 1000 ≤ 9000 by omega) hp.2 hp.1 (by omega)
  have h3 := Int.mul_nonneg hf.1 (show 0 ≤ 1000 * c.b + (c.s - 1000) * p by omega)
  have h4 := Int.mul_le_mul hf.2 (show 1000 * c.b + (c.s - 1000) * p ≤ 460000000 by omega) (by omega) (by omega)
  exact ⟨h1, by omega, h3, by omega, rfl⟩
theorem rise_in {c : Cp} {f : Int} (hc : okCp c) (hf : 0 ≤ f ∧ f ≤ 1000) : 0 ≤ f * (c.s - 1000) ∧ f * (c.s - 1000) ≤ 9000000 ∧ 0 ≤ 1000 * f * c.b ∧ 1000 * f * c.b ≤ 10000000000 := by
  obtain ⟨_, _, _, _, b1, b2, s1, s2⟩ := hc
  have h1 := Int.mul_nonneg hf.1 (show 0 ≤ c.s - 1000 by omega)
  have h2 := Int.mul_le_mul hf.2 (show c.s - 1000 ≤ 9000 by omega) (by omega) (by omega)
  have h3 := Int.mul_nonneg (show 0 ≤ 1000 * f by omega) b1
  have h4 := Int.mul_le_mul (show 1000 * f ≤ 1000000 by omega) b2 b1 (by omega)
  omega
def ceilL (c : Cp) (z f : Int) : Int := upZ (max 0 (1000 * z - limM c 0 f)) (limM c 1 f - limM c 0 f)
def ceilF (f : Int) : List Cp → List Ld → Rg → Rg
  | c :: ts, x :: ls, r => ceilF f ts ls ⟨max r.lo (ceilL c (x.n.lo + x.h.lo) f), max r.hi (ceilL c (x.n.hi + x.h.hi) f)⟩
  | _, _, r => r
def ceilE (ts : List Cp) (ls : List Ld) (f : Int) : Rg × Int := if ckLoads ts ls ≠ 0 then (⟨0, 0⟩, ckLoads ts ls) else if 0 ≤ f ∧ f ≤ 1000 then (ceilF f ts ls ⟨0, 0⟩, 0) else (⟨0, 0⟩, 2)
/-! ### Rests -/
def restM (ts : List Cp) (ls : List Ld) (p s : Int) : List Ld := stepM 20 s p p ⟨210, 0⟩ ts ls
def restE (ts : List Cp) (ls : List Ld) (p s : Int) : List Ld × Int :=
  if ckLoads ts ls ≠ 0 then ([], ckLoads ts ls) else if 400 ≤ p ∧ p ≤ 1100 ∧ 0 ≤ s ∧ s ≤ 1000000 then (restM ts ls p s, 0) else ([], 2)
end Go.Proofs.YthilaakeimfedaaGreatDoor
namespace Go.Proofs.YthilaakeimfedaaGreatDoor
open Go.RowKit

section
variable {P : Program} (T : Tab P) {Q : Exit → Act → World → Prop} {ops : Array Oper} {N : Fr} {B : Nat} {w0 : World} {E : Env} {rs : List Res} {rest : List Oper} {dst : Option Tmp} {ty : TypeId} {pos : String} {aft : Array Edge}
/-! ### Ends of a function that holds a loop over a function -/
end
end Go.Proofs.YthilaakeimfedaaGreatDoor
namespace Go.Proofs.YthilaakeimfedaaGreatDoor
open Go.RowKit
section
variable {P : Program} (T : Tab P) {Q : Exit → Act → World → Prop} {ops : Array Oper} {N : Fr} {B : Nat} {w0 : World} {E : Env} {rs : List Res} {rest : List Oper} {dst : Option Tmp} {ty : TypeId} {pos : String} {aft : Array Edge}
end
end Go.Proofs.YthilaakeimfedaaGreatDoor
namespace Go.Proofs.YthilaakeimfedaaGreatDoor.Kp
open Go.RowKit
section
variable {P : Program} {ops : Array Oper} {N : Fr} {B : Nat} {w0 : World} {E : Env} {rn ro : List Res} {k d : Nat} {o : Oper} {K : Env → List Res → Prop}
end
end Go.Proofs.YthilaakeimfedaaGreatDoor.Kp
namespace Go.Proofs.YthilaakeimfedaaGreatDoor.Kp
open Go.RowKit
section
variable {P : Program} {ops : Array Oper} {N : Fr} {B : Nat} {w0 : World} {E : Env} {rn ro : List Res} {k d : Nat} {o : Oper} {K : Env → List Res → Prop}
theorem perm2 {r a b : Res} {t : List Res} : (r :: a :: b :: t).Perm (a :: b :: r :: t) := perm_front (pre := [a, b])
theorem perm3 {r a b c : Res} {t : List Res} : (r :: a :: b :: c :: t).Perm (a :: b :: c :: r :: t) := perm_front (pre := [a, b, c])
theorem St_alloc (T : Tab P) {u : TypeId} {sz bs : Nat} {ag : Bool} {zs : List Value} {ty : TypeId} {pos : String} {aft : Array Edge} (ho : ops[k]? = some o) (hop : o = ⟨some d, .alloc u, ty, pos, aft, none⟩) (ht : lkT T.ty u = some (ag, sz, bs, zs)) (hN : Nat.blt d N.n = true)
    (h : ∀ g, K ((d, .pointer (some ⟨g, 0, none⟩)) :: E) (box g u zs :: rn)) : St P ops N B w0 ro k K E rn := by
  subst hop
  exact St_lo ho rfl rfl hN (lo_alloc T ht) fun _ _ ⟨g, hv, hr⟩ => by subst hv; subst hr; exact h g
theorem St_call (T : Tab P) {f : FuncId} {xs : Array Operand} {ts : Array TypeId} {args : List Value} {ps : List (Value × Nat × List (List Value))} {v : Value} {ty : TypeId} {pos : String} {aft : Array Edge} (ho : ops[k]? = some o) (hop : o = ⟨some d, .call { callee := .value (.func f), args := xs, argTypes := ts }, ty, pos, aft, none⟩)
    (hen : lkT T.en f = some ()) (hx : evs E xs.toList = some args) (hc : Ct P f args ps (isV v)) (hps : ∀ p ∈ ps, Gives (rn ++ ro) p) (hN : Nat.blt d N.n = true) (h : K ((d, v) :: E) rn) : St P ops N B w0 ro k K E rn := by
  subst hop
  exact St_v ho rfl rfl hN (lo_call T hen hx hc hps isV_sinks) h
theorem C_treeO0 {ι : Type} {id : Nat} {l : List Oper} {Q : Exit → Act → World → Prop} (tr : Tre) (J : ι → Env × List Res) (hm : P.follows .mixedOrders = true) (hsel : Region.noSelect l.toArray = true) (hn : tr.dep = l.toArray.size) (hB : flowT .any l.toArray tr (Array.replicate l.toArray.size false) = true)
    (h : Z P l.toArray N B w0 (fun E' rs' => ∃ i, ∀ a w, Sat N B w0 E' rs' a w → Sat N B w0 (J i).1 (J i).2 a w) ro tr E []) (hc : ∀ i, L P l.toArray Q N B w0 (J i).1 (J i).2 []) : C P Q N B w0 E ro (.region id l.toArray true) :=
  C_treeO (pre := []) tr J hm hsel hn hB (by intro r hr; cases hr) h hc
end
end Go.Proofs.YthilaakeimfedaaGreatDoor.Kp
namespace Go.Proofs.YthilaakeimfedaaGreatDoor
def cI (n : Int) : List Value := [.int .i64 n]
def cCp (c : Cp) : List Value := [.int .i64 c.n, .int .i64 c.h, .int .i64 c.b, .int .i64 c.s]
def cRg (r : Rg) : List Value := [.int .i64 r.lo, .int .i64 r.hi]
def cLd (l : Ld) : List Value := [.int .i64 l.n.lo, .int .i64 l.n.hi, .int .i64 l.h.lo, .int .i64 l.h.hi]
def cGs (g : Gs) : List Value := [.int .i64 g.o, .int .i64 g.h]
def cLg (x : Lg) : List Value := [.int .i64 x.f, .int .i64 x.t, .int .i64 x.s, .int .i64 x.g.o, .int .i64 x.g.h]
theorem rtsL_cells (k : Nat) : (rtsL k).map cRg ++ [cRg (rootR k)] = (rtsL (k + 1)).map cRg := by rw [rtsL_succ, List.map_append]; rfl
theorem rtsL_yes {k : Nat} (h : sqrZ (1000000000 * (rootR k).hi) * sqrZ (1000000000 * (rootR k).hi) < 1000000000 * (rootR k).hi) : (rtsL (k + 1)).map cRg ++ [cRg ⟨sqrZ (1000000000 * (rootR k).lo), sqrZ (1000000000 * (rootR k).hi) + 1⟩] = (rtsL (k + 1 + 1)).map cRg := by rw [root_yes h]; exact rtsL_cells (k + 1)
theorem rtsL_no {k : Nat} (h : ¬ sqrZ (1000000000 * (rootR k).hi) * sqrZ (1000000000 * (rootR k).hi) < 1000000000 * (rootR k).hi) : (rtsL (k + 1)).map cRg ++ [cRg ⟨sqrZ (1000000000 * (rootR k).lo), sqrZ (1000000000 * (rootR k).hi)⟩] = (rtsL (k + 1 + 1)).map cRg := by rw [root_no h]; exact rtsL_cells (k + 1)
theorem rts_cells_len (n : Nat) : ((rts n).map cRg).length = n + 1 := by rw [List.length_map, rts_len]
theorem rts_cell {n k : Nat} (h : k ≤ n) : ((rts n).map cRg)[k]? = some (cRg (rootR k)) := map_get cRg (rts_get h)
theorem rts_tail_cell {n k : Nat} (h : k < n) : (((rts n).map cRg).drop (1 : Int).toNat)[k]? = some (cRg (rootR (k + 1))) := by
  rw [List.getElem?_drop, show (1 : Int).toNat + k = k + 1 by omega]
  exact rts_cell (by omega)
theorem rts_tail_cells_len (n : Nat) : (((rts n).map cRg).drop (1 : Int).toNat).length = n := by
  rw [List.length_drop, rts_cells_len]; omega
theorem ld_cell (l : Ld) {j : Nat} (h : j < 4) : (cLd l)[(j : Int).toNat * 1]? = some (.int .i64 (ldN l j)) := by
  match j, h with
  | 0, _ => rfl
  | 1, _ => rfl
  | 2, _ => rfl
  | 3, _ => rfl
theorem len_map {α : Type} (f : α → List Value) (l : List α) : (l.map f).length = l.length := List.length_map _
theorem shr1 (m : Int) : m.fdiv (2 ^ (min (1 : Int).toNat IntKind.i64.bits)) = m / 2 := Int.fdiv_eq_ediv_of_nonneg _ (by decide : (0:Int) ≤ _)
theorem shr2 (m : Int) : m.fdiv (2 ^ (min (2 : Int).toNat IntKind.i64.bits)) = m / 4 := Int.fdiv_eq_ediv_of_nonneg _ (by decide : (0:Int) ≤ _)
theorem en {a b : Int} (h : a = b) : some (Value.int .i64 a) = some (Value.int .i64 b) := by rw [h]
def cMk (m : Mk) : List Value := [.int .i64 m.s, .int .i64 m.p.lo, .int .i64 m.p.hi]
theorem wr {a b : Int} (h : a = b) (h2 : -9223372036854775808 ≤ b ∧ b ≤ 9223372036854775807) : IntKind.i64.wrap a = b := by subst h; exact IntWalk.i64_in _ (by omega)
theorem shl_n {f n : Nat} (hf : f ≤ 6) (hn : n = 2 ^ f) : IntKind.i64.wrap (1 * 2 ^ (min (f : Int).toNat IntKind.i64.bits)) = (n : Int) := by
  subst hn
  match f, hf with
  | 0, _ => rfl
  | 1, _ => rfl
  | 2, _ => rfl
  | 3, _ => rfl
  | 4, _ => rfl
  | 5, _ => rfl
  | 6, _ => rfl
theorem stepM_cells {n : Nat} {s lo hi : Int} {g : Gs} {ts : List Cp} {ls : List Ld} {k : Nat} {c : Cp} {x : Ld} (h1 : ts[k]? = some c) (h2 : ls[k]? = some x) : ((stepM n s lo hi g ts ls).take k).map cLd ++ [cLd (stepL n s lo hi g c x)] = ((stepM n s lo hi g ts ls).take (k + 1)).map cLd := by
  unfold stepM
  rw [zip_take _ h1 h2, List.map_append]
  rfl
theorem stepM_all {n : Nat} {s lo hi : Int} {g : Gs} {ts : List Cp} {ls : List Ld} {k : Nat} (h : ls.length = ts.length) (hk : ts.length ≤ k) : (stepM n s lo hi g ts ls).take k = stepM n s lo hi g ts ls := List.take_of_length_le (by rw [stepM_len h]; exact hk)
theorem mks_cell {x : Lg} {n k j : Nat} (h : j < k) : ((mksL x n k).map cMk)[j]? = some (cMk (mkM x n j)) := map_get cMk (mksL_get h)
theorem mks_cells (x : Lg) (n k : Nat) : (mksL x n k).map cMk ++ [cMk (mkM x n k)] = (mksL x n (k + 1)).map cMk := by rw [mksL_succ, List.map_append]; rfl
theorem mks_pos {x : Lg} {n k : Nat} (h : x.s > 0) : (mksL x n k).map cMk ++ [cMk ⟨k * x.s / n, ⟨sumM x (k * x.s / n) / x.s, upZ (sumM x (k * x.s / n)) x.s⟩⟩] = (mksL x n (k + 1)).map cMk := by
  rw [← mks_cells]
  unfold mkM
  rw [if_pos h]
theorem mks_zero {x : Lg} {n k : Nat} (h : ¬ x.s > 0) : (mksL x n k).map cMk ++ [cMk ⟨k * x.s / n, ⟨x.f, x.f⟩⟩] = (mksL x n (k + 1)).map cMk := by
  rw [← mks_cells]
  unfold mkM
  rw [if_neg h]
def rmk (x : Lg) (n : Nat) : Nat := if x.s = 0 then 1 else n + 1
theorem rmk_pos {x : Lg} {n : Nat} (h : x.s ≠ 0) : rmk x n = n + 1 := if_neg h
def stC (x : Lg) (n k : Nat) (y : Value) : List Value := [.int .i64 (mkM x n k).s, .int .i64 (mkM x n k).p.lo, .int .i64 (mkM x n k).p.hi, y, .int .i64 (lowM x n k)]
theorem mks_tail_cell {x : Lg} {n j : Nat} (h : j < n) : (((mksL x n (n + 1)).map cMk).drop (1 : Int).toNat)[j]? = some (cMk (mkM x n ((j : Int) + 1))) := by
  rw [List.getElem?_drop, show (1 : Int).toNat + j = j + 1 by omega]
  exact mks_cell (by omega)
theorem mks_tail_len (x : Lg) (n : Nat) : (((mksL x n (n + 1)).map cMk).drop (1 : Int).toNat).length = n := by
  rw [List.length_drop, List.length_map, mksL_len]; omega
theorem mks_len (x : Lg) (n k : Nat) : ((mksL x n k).map cMk).length = k := by rw [List.length_map, mksL_len]
theorem rmk_one {x : Lg} {n : Nat} (h : x.s = 0) : rmk x n = 1 := if_pos h
theorem one_map {α : Type} (f : α → List Value) (hf : ∀ a, ∀ c ∈ f a, c.oneCell' = true) (l : List α) : ∀ c ∈ (l.map f).flatten, c.oneCell' = true := fun c hc => by
  obtain ⟨x, hx, hcx⟩ := List.mem_flatten.1 hc
  obtain ⟨a, _, rfl⟩ := List.mem_map.1 hx
  exact hf a c hcx
theorem oneLd (l : List Ld) : ∀ c ∈ (l.map cLd).flatten, c.oneCell' = true := one_map cLd (fun a c hc => by
  simp only [cLd, List.mem_cons, List.not_mem_nil, or_false] at hc
  rcases hc with rfl | rfl | rfl | rfl <;> rfl) l
theorem oneCp (l : List Cp) : ∀ c ∈ (l.map cCp).flatten, c.oneCell' = true := one_map cCp (fun a c hc => by
  simp only [cCp, List.mem_cons, List.not_mem_nil, or_false] at hc
  rcases hc with rfl | rfl | rfl | rfl <;> rfl) l
end Go.Proofs.YthilaakeimfedaaGreatDoor
