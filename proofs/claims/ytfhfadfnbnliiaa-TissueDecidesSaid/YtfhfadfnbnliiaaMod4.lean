/-
  Plain models of chapter 3: what right loads are; limits; ceilings. Conditions: none; no program in sight.
-/
import Derived.Test.YtfhfadfnbnliiaaMod3
namespace Go.Proofs.Ytfhfadfnbnliiaa

/-! ### Right tables and loads -/
def ordLd (l : Ld) : Prop := l.n.lo ≤ l.n.hi ∧ l.h.lo ≤ l.h.hi
structure okTL (ts : List Cp) (ls : List Ld) : Prop where
  a : 1 ≤ ts.length
  b : ts.length ≤ 16
  len : ls.length = ts.length
  c : ∀ c ∈ ts, okCp c
  x : ∀ y ∈ ls, inLd y
  o : ∀ y ∈ ls, ordLd y
theorem ckCps_ok : ∀ {ts : List Cp}, ckCps ts = 0 → ∀ c ∈ ts, okCp c
  | [], _, c, hc => by cases hc
  | d :: t, h, c, hc => by
    unfold ckCps at h
    split at h
    · rename_i hd
      rcases List.mem_cons.1 hc with rfl | hc
      · exact hd
      · exact ckCps_ok h c hc
    · cases h
theorem ckLd_ok {l : Ld} (h : ckLd l = 0) : inLd l ∧ ordLd l := by
  have h1 := ckSpan_cases l.n
  have h2 := ckSpan_cases l.h
  unfold ckLd at h
  split at h
  · cases h
  · split at h
    · cases h
    · rename_i h3 h4
      have ⟨a1, a2, a3, a4, a5⟩ : ckSpan l.n = 0 ∧ 0 ≤ l.n.lo ∧ l.n.lo ≤ 100000000 ∧ 0 ≤ l.n.hi ∧ l.n.hi ≤ 100000000 := by omega
      have ⟨b1, b2, b3, b4, b5⟩ : ckSpan l.h = 0 ∧ 0 ≤ l.h.lo ∧ l.h.lo ≤ 100000000 ∧ 0 ≤ l.h.hi ∧ l.h.hi ≤ 100000000 := by omega
      exact ⟨⟨⟨a2, a3, a4, a5⟩, ⟨b2, b3, b4, b5⟩⟩, by unfold ordLd; omega⟩
theorem ckLds_ok : ∀ {ls : List Ld}, ckLds ls = 0 → ∀ y ∈ ls, inLd y ∧ ordLd y
  | [], _, y, hy => by cases hy
  | d :: t, h, y, hy => by
    unfold ckLds at h
    split at h
    · rename_i hd; exact absurd h hd
    · rename_i hd
      rcases List.mem_cons.1 hy with rfl | hy
      · exact ckLd_ok (Decidable.not_not.1 hd)
      · exact ckLds_ok h y hy
theorem ckLoads_ok {ts : List Cp} {ls : List Ld} (h : ckLoads ts ls = 0) : okTL ts ls := by
  unfold ckLoads at h
  split at h
  · rename_i h1; exact absurd h h1
  · rename_i h1
    have h1 := Decidable.not_not.1 h1
    split at h
    · cases h
    · rename_i h2
      have h2 := Decidable.not_not.1 h2
      unfold ckTab at h1
      split at h1
      · rename_i h3
        exact ⟨h3.1, h3.2, h2, ckCps_ok h1, fun y hy => (ckLds_ok h y hy).1, fun y hy => (ckLds_ok h y hy).2⟩
      · cases h1
def loadedE (ts : List Cp) (ls : List Ld) (x : Lg) (f : Int) : List Ld × Int :=
  if ckLoads ts ls ≠ 0 then ([], ckLoads ts ls) else if ckLeg x ≠ 0 then ([], ckLeg x) else if 0 ≤ f ∧ f ≤ 6 then (loadedM ts ls x f.toNat, 0) else ([], 2)
theorem loadedE_1 {ts : List Cp} {ls : List Ld} {x : Lg} {f : Int} (h : ckLoads ts ls ≠ 0) : loadedE ts ls x f = ([], ckLoads ts ls) := if_pos h
theorem loadedE_2 {ts : List Cp} {ls : List Ld} {x : Lg} {f : Int} (h : ¬ ckLoads ts ls ≠ 0) (h2 : ckLeg x ≠ 0) : loadedE ts ls x f = ([], ckLeg x) := by unfold loadedE; rw [if_neg h, if_pos h2]
theorem loadedE_3 {ts : List Cp} {ls : List Ld} {x : Lg} {f : Int} (h : ¬ ckLoads ts ls ≠ 0) (h2 : ¬ ckLeg x ≠ 0) (h3 : ¬ (0 ≤ f ∧ f ≤ 6)) : loadedE ts ls x f = ([], 2) := by unfold loadedE; rw [if_neg h, if_neg h2, if_neg h3]
theorem loadedE_4 {ts : List Cp} {ls : List Ld} {x : Lg} {f : Nat} (h : ¬ ckLoads ts ls ≠ 0) (h2 : ¬ ckLeg x ≠ 0) (h3 : f ≤ 6) : loadedE ts ls x (f : Int) = (loadedM ts ls x f, 0) := by unfold loadedE; rw [if_neg h, if_neg h2, if_pos (by omega)]; rfl

/-! ### Limits -/
def limM (c : Cp) (p f : Int) : Int := 1000000 * p + f * (1000 * c.b + (c.s - 1000) * p)
theorem lim_in {c : Cp} {p f : Int} (hc : okCp c) (hp : 0 ≤ p ∧ p ≤ 50000) (hf : 0 ≤ f ∧ f ≤ 1000) : 0 ≤ (c.s - 1000) * p ∧ (c.s - 1000) * p ≤ 450000000 ∧ 0 ≤ f * (1000 * c.b + (c.s - 1000) * p) ∧ f * (1000 * c.b + (c.s - 1000) * p) ≤ 460000000000 ∧ limM c p f = 1000000 * p + f * (1000 * c.b + (c.s - 1000) * p) := by
  obtain ⟨_, _, _, _, b1, b2, s1, s2⟩ := hc
  have h1 := Int.mul_nonneg (show 0 ≤ c.s - 1000 by omega) hp.1
  have h2 := Int.mul_le_mul (show c.s - 1000 ≤ 9000 by omega) hp.2 hp.1 (by omega)
  have h3 := Int.mul_nonneg hf.1 (show 0 ≤ 1000 * c.b + (c.s - 1000) * p by omega)
  have h4 := Int.mul_le_mul hf.2 (show 1000 * c.b + (c.s - 1000) * p ≤ 460000000 by omega) (by omega) (by omega)
  exact ⟨h1, by omega, h3, by omega, rfl⟩
theorem lim_rise (c : Cp) (f : Int) : limM c 1 f - limM c 0 f = 1000000 + f * (c.s - 1000) := by unfold limM; grind
theorem lim_zero (c : Cp) (f : Int) : limM c 0 f = 1000 * f * c.b := by unfold limM; grind
theorem rise_in {c : Cp} {f : Int} (hc : okCp c) (hf : 0 ≤ f ∧ f ≤ 1000) : 0 ≤ f * (c.s - 1000) ∧ f * (c.s - 1000) ≤ 9000000 ∧ 0 ≤ 1000 * f * c.b ∧ 1000 * f * c.b ≤ 10000000000 := by
  obtain ⟨_, _, _, _, b1, b2, s1, s2⟩ := hc
  have h1 := Int.mul_nonneg hf.1 (show 0 ≤ c.s - 1000 by omega)
  have h2 := Int.mul_le_mul hf.2 (show c.s - 1000 ≤ 9000 by omega) (by omega) (by omega)
  have h3 := Int.mul_nonneg (show 0 ≤ 1000 * f by omega) b1
  have h4 := Int.mul_le_mul (show 1000 * f ≤ 1000000 by omega) b2 b1 (by omega)
  omega
def ceilL (c : Cp) (z f : Int) : Int := upZ (max 0 (1000 * z - limM c 0 f)) (limM c 1 f - limM c 0 f)
theorem ceil_ref {c : Cp} {z f : Int} (hc : okCp c) (hf : 0 ≤ f ∧ f ≤ 1000) : max 0 (upZ (1000 * z - 1000 * f * c.b) (1000000 + f * (c.s - 1000))) = ceilL c z f := by
  unfold ceilL
  rw [lim_rise, lim_zero]
  have h := rise_in hc hf
  generalize 1000 * z - 1000 * f * c.b = y
  have hr : 1 ≤ 1000000 + f * (c.s - 1000) := by omega
  generalize 1000000 + f * (c.s - 1000) = r at hr
  unfold upZ
  by_cases hy : 0 ≤ y
  · rw [Int.max_eq_right hy]
    exact Int.max_eq_right (Int.ediv_nonneg (by omega) (by omega))
  · rw [Int.max_eq_left (a := 0) (b := y) (by omega)]
    have h1 : (0 + r - 1) / r = 0 := Int.ediv_eq_zero_of_lt (by omega) (by omega)
    have h2 : (y + r - 1) / r ≤ (0 + r - 1) / r := Int.ediv_le_ediv (by omega) (by omega)
    rw [h1] at h2 ⊢
    exact Int.max_eq_left h2
def ceilF (f : Int) : List Cp → List Ld → Rg → Rg
  | c :: ts, x :: ls, r => ceilF f ts ls ⟨max r.lo (ceilL c (x.n.lo + x.h.lo) f), max r.hi (ceilL c (x.n.hi + x.h.hi) f)⟩
  | _, _, r => r
theorem ceilF_step {f : Int} {ts : List Cp} {ls : List Ld} {k : Nat} {c : Cp} {x : Ld} {r : Rg} (h1 : ts[k]? = some c) (h2 : ls[k]? = some x) :
    ceilF f (ts.drop k) (ls.drop k) r = ceilF f (ts.drop (k + 1)) (ls.drop (k + 1)) ⟨max r.lo (ceilL c (x.n.lo + x.h.lo) f), max r.hi (ceilL c (x.n.hi + x.h.hi) f)⟩ := by
  rw [drop_cons h1, drop_cons h2]
  rfl
theorem ceilF_end {f : Int} {ts : List Cp} {ls : List Ld} {k : Nat} {r : Rg} (h1 : ts.length ≤ k) : ceilF f (ts.drop k) (ls.drop k) r = r := by
  rw [drop_all h1]
  unfold ceilF
  rfl
def ceilE (ts : List Cp) (ls : List Ld) (f : Int) : Rg × Int := if ckLoads ts ls ≠ 0 then (⟨0, 0⟩, ckLoads ts ls) else if 0 ≤ f ∧ f ≤ 1000 then (ceilF f ts ls ⟨0, 0⟩, 0) else (⟨0, 0⟩, 2)
theorem ceilE_1 {ts : List Cp} {ls : List Ld} {f : Int} (h : ckLoads ts ls ≠ 0) : ceilE ts ls f = (⟨0, 0⟩, ckLoads ts ls) := if_pos h
theorem ceilE_2 {ts : List Cp} {ls : List Ld} {f : Int} (h : ¬ ckLoads ts ls ≠ 0) (h2 : ¬ (0 ≤ f ∧ f ≤ 1000)) : ceilE ts ls f = (⟨0, 0⟩, 2) := by unfold ceilE; rw [if_neg h, if_neg h2]
theorem ceilE_3 {ts : List Cp} {ls : List Ld} {f : Int} (h : ¬ ckLoads ts ls ≠ 0) (h2 : 0 ≤ f ∧ f ≤ 1000) : ceilE ts ls f = (ceilF f ts ls ⟨0, 0⟩, 0) := by unfold ceilE; rw [if_neg h, if_pos h2]
theorem rootOfM_yes {n : Nat} (h : n ≤ 24) : rootOfM (n : Int) = (rootR n, 0) := by unfold rootOfM; rw [if_pos (by omega)]; rfl
theorem rootOfM_no {l : Int} (h : ¬ (0 ≤ l ∧ l ≤ 24)) : rootOfM l = (⟨0, 0⟩, 2) := if_neg h
theorem decayM_yes {s h : Int} {n : Nat} (hc : 0 ≤ s ∧ s ≤ 1000000 ∧ 1 ≤ h ∧ h ≤ 100000 ∧ n ≤ 24) : decayM s h (n : Int) = (decM s h n, 0) := by unfold decayM; rw [if_pos (by omega)]; rfl
theorem decayM_no {s h l : Int} (hc : ¬ (0 ≤ s ∧ s ≤ 1000000 ∧ 1 ≤ h ∧ h ≤ 100000 ∧ 0 ≤ l ∧ l ≤ 24)) : decayM s h l = (⟨0, 0⟩, 2) := if_neg hc

/-! ### Rests -/
def restM (ts : List Cp) (ls : List Ld) (p s : Int) : List Ld := stepM 20 s p p ⟨210, 0⟩ ts ls
def restE (ts : List Cp) (ls : List Ld) (p s : Int) : List Ld × Int :=
  if ckLoads ts ls ≠ 0 then ([], ckLoads ts ls) else if 400 ≤ p ∧ p ≤ 1100 ∧ 0 ≤ s ∧ s ≤ 1000000 then (restM ts ls p s, 0) else ([], 2)
theorem restE_1 {ts : List Cp} {ls : List Ld} {p s : Int} (h : ckLoads ts ls ≠ 0) : restE ts ls p s = ([], ckLoads ts ls) := if_pos h
theorem restE_2 {ts : List Cp} {ls : List Ld} {p s : Int} (h : ¬ ckLoads ts ls ≠ 0) (h2 : ¬ (400 ≤ p ∧ p ≤ 1100 ∧ 0 ≤ s ∧ s ≤ 1000000)) : restE ts ls p s = ([], 2) := by unfold restE; rw [if_neg h, if_neg h2]
theorem restE_3 {ts : List Cp} {ls : List Ld} {p s : Int} (h : ¬ ckLoads ts ls ≠ 0) (h2 : 400 ≤ p ∧ p ≤ 1100 ∧ 0 ≤ s ∧ s ≤ 1000000) : restE ts ls p s = (restM ts ls p s, 0) := by unfold restE; rw [if_neg h, if_pos h2]
end Go.Proofs.Ytfhfadfnbnliiaa