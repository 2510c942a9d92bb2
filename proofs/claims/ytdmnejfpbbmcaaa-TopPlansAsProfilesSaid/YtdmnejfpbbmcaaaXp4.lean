/-
  Plain models of chapter 5: the seconds of a plan, what is breathed up to one, needs. Conditions: none; no program in sight.
-/
import Derived.Test.YtdmnejfpbbmcaaaXp1
namespace Go.Proofs.Ytdmnejfpbbmcaaa

theorem upZ_mul {a c s : Int} (hc : 1 ≤ c) (hs : 1 ≤ s) : upZ (a * s) (c * s) = upZ a c := by
  have h1 := Int.mul_ediv_add_emod (a + c - 1) c
  have h2 := Int.emod_nonneg (a + c - 1) (show c ≠ 0 by omega)
  have h3 := Int.emod_lt_of_pos (a + c - 1) (show 0 < c by omega)
  unfold upZ
  generalize hq : (a + c - 1) / c = q at *
  generalize hr : (a + c - 1) % c = r at *
  have hcs : 0 < c * s := Int.mul_pos (by omega) (by omega)
  have e : a * s + c * s - 1 = (r * s + s - 1) + c * s * q := by
    have : a = r - c + 1 + c * q := by omega
    rw [this]; grind
  rw [e, Int.add_mul_ediv_left _ _ (by omega), Int.ediv_eq_zero_of_lt]
  · omega
  · have := Int.mul_nonneg h2 (show 0 ≤ s by omega); omega
  · have := Int.mul_le_mul_of_nonneg_right (show r + 1 ≤ c by omega) (show 0 ≤ s by omega)
    rw [Int.add_mul] at this
    omega
def brM (b n : Int) (x : Le) : Int := if n = x.x.s then upZ (b * (x.f + x.t) * n) 120000 else upZ (b * n * (2 * x.f * x.x.s + (x.t - x.f) * n)) (120000 * x.x.s)
/-! ### Answers with errors -/
/-! ### Sums by gases -/
def addAt (L : List Int) (i : Nat) (a : Int) : List Int := L.set i (L[i]?.getD 0 + a)
def consK (n : Nat) (ls : List Dl) (amt : Nat → Int) : Nat → List Int
  | 0 => List.replicate n 0
  | k + 1 => addAt (consK n ls amt k) (dlAt ls k).g.toNat (amt k)
def amtS (sf : Int) (gs : List Gs) (ls : List Dl) (b : Int) (i : Nat) : Int := brM b (dlAt ls i).s (legAt sf gs ls i)
/-! ### Escapes -/
def escM (r : Ru) (sf d : Int) : Int := upZ (r.em * ((sf + d) * r.pa * r.ac + (2 * sf + d) * 30 * d)) (60000 * r.ac)
end Go.Proofs.Ytdmnejfpbbmcaaa
namespace Go.Proofs.Ytdmnejfpbbmcaaa

/-! ### The first number of which something holds -/
def firstB (p : Nat → Bool) : Nat → Nat
  | 0 => 0
  | n + 1 => if firstB p n < n then firstB p n else if p n then n else n + 1
theorem firstB_le (p : Nat → Bool) : ∀ n, firstB p n ≤ n
  | 0 => Nat.le_refl _
  | n + 1 => by
    unfold firstB
    have := firstB_le p n
    split
    · omega
    · split <;> omega
theorem firstB_spec (p : Nat → Bool) : ∀ n, (∀ i, i < firstB p n → p i = false) ∧ (firstB p n < n → p (firstB p n) = true)
  | 0 => ⟨fun i hi => by unfold firstB at hi; omega, fun h => by unfold firstB at h; omega⟩
  | n + 1 => by
    obtain ⟨h1, h2⟩ := firstB_spec p n
    have h3 := firstB_le p n
    unfold firstB
    by_cases hc : firstB p n < n
    · rw [if_pos hc]
      exact ⟨h1, fun _ => h2 hc⟩
    · rw [if_neg hc]
      have e : firstB p n = n := by omega
      rw [e] at h1
      by_cases hp : p n = true
      · rw [if_pos hp]
        exact ⟨h1, fun _ => hp⟩
      · rw [if_neg hp]
        refine ⟨fun i hi => ?_, fun h => by omega⟩
        rcases Nat.lt_or_eq_of_le (Nat.le_of_lt_succ hi) with h9 | rfl
        · exact h1 i h9
        · simpa using hp
/-! ### The depths for a gas -/
section
variable {g : Gs} {sf : Int} {r : Ru}
end
end Go.Proofs.Ytdmnejfpbbmcaaa
namespace Go.Proofs.Ytdmnejfpbbmcaaa

/-! ### The legs at the seconds of a plan -/
section
variable {sf : Int} {gs : List Gs} {ls : List Dl}
theorem secAt_succ (ls : List Dl) (k : Nat) : secAt ls (k + 1) = secAt ls k + (dlAt ls k).s := rfl
theorem secAt_mono (H : okPl sf gs ls) {i : Nat} : ∀ j, i ≤ j → j ≤ ls.length → secAt ls i ≤ secAt ls j
  | 0, h1, _ => by
    obtain rfl : i = 0 := by omega
    exact Int.le_refl _
  | j + 1, h1, h2 => by
    rcases Nat.lt_or_eq_of_le h1 with h3 | rfl
    · have a := secAt_mono H (i := i) j (by omega) (by omega)
      have b := (H.at (k := j) (by omega)).s
      rw [secAt_succ]
      omega
    · exact Int.le_refl _
def kAt (ls : List Dl) (σ : Nat) : Nat := firstB (fun k => decide ((σ : Int) ≤ secAt ls (k + 1))) ls.length
theorem kAt_eq (H : okPl sf gs ls) {k σ : Nat} (hk : k < ls.length) (h0 : secAt ls k < σ ∨ k = 0) (h1 : (σ : Int) ≤ secAt ls (k + 1)) : kAt ls σ = k := by
  obtain ⟨s1, s2⟩ := firstB_spec (fun k => decide ((σ : Int) ≤ secAt ls (k + 1))) ls.length
  have s3 := firstB_le (fun k => decide ((σ : Int) ≤ secAt ls (k + 1))) ls.length
  unfold kAt
  generalize firstB (fun k => decide ((σ : Int) ≤ secAt ls (k + 1))) ls.length = m at *
  rcases Nat.lt_trichotomy m k with h | h | h
  · have a := of_decide_eq_true (s2 (by omega))
    have b := secAt_mono H (i := m + 1) k (by omega) (by omega)
    omega
  · exact h
  · have a := of_decide_eq_false (s1 k h)
    omega
theorem kAt_in (H : okPl sf gs ls) {σ : Nat} (h : 0 < ls.length) (h1 : (σ : Int) ≤ secAt ls ls.length) : kAt ls σ < ls.length ∧ (σ : Int) ≤ secAt ls (kAt ls σ + 1) ∧ (secAt ls (kAt ls σ) < σ ∨ kAt ls σ = 0) := by
  obtain ⟨s1, s2⟩ := firstB_spec (fun k => decide ((σ : Int) ≤ secAt ls (k + 1))) ls.length
  have s3 := firstB_le (fun k => decide ((σ : Int) ≤ secAt ls (k + 1))) ls.length
  unfold kAt
  generalize firstB (fun k => decide ((σ : Int) ≤ secAt ls (k + 1))) ls.length = m at *
  have hm : m < ls.length := by
    rcases Nat.lt_or_eq_of_le s3 with h9 | rfl
    · exact h9
    · have a := of_decide_eq_false (s1 (ls.length - 1) (by omega))
      rw [show ls.length - 1 + 1 = ls.length by omega] at a
      exact absurd h1 a
  refine ⟨hm, of_decide_eq_true (s2 hm), ?_⟩
  rcases Nat.eq_zero_or_pos m with h9 | h9
  · exact .inr h9
  · have a := of_decide_eq_false (s1 (m - 1) (by omega))
    rw [show m - 1 + 1 = m by omega] at a
    left; omega

/-! ### Depths, rounded up -/
def dpS (x : Le) (s : Int) : Int := (x.f - x.sf) * (x.x.s - s) + (x.t - x.sf) * s
def dpM (x : Le) (s : Int) : Int := upZ (dpS x s) x.x.s
theorem dpS_in {x : Le} (h : okLe x) {s : Int} (hs : 0 ≤ s ∧ s ≤ x.x.s) : (0 ≤ (x.f - x.sf) * (x.x.s - s) ∧ (x.f - x.sf) * (x.x.s - s) ≤ 30000000000) ∧ (0 ≤ (x.t - x.sf) * s ∧ (x.t - x.sf) * s ≤ 30000000000) ∧ 0 ≤ dpS x s ∧ dpS x s ≤ 30000 * x.x.s := by
  have h1 := h.f; have h2 := h.t; have h3 := h.s
  have a := mulB (a := x.f - x.sf) (b := x.x.s - s) (A := 30000) (B := x.x.s - s) (by omega) (by omega)
  have b := mulB (a := x.t - x.sf) (b := s) (A := 30000) (B := s) (by omega) (by omega)
  unfold dpS
  exact ⟨⟨a.1, by omega⟩, ⟨b.1, by omega⟩, by omega, by omega⟩
/-! ### Needs -/
def usedAt (sf : Int) (gs : List Gs) (ls : List Dl) (b : Int) (k : Nat) : Int := ((consK gs.length ls (amtS sf gs ls b) k)[(dlAt ls k).g.toNat]?).getD 0
def needA (r : Ru) (sf : Int) (gs : List Gs) (ls : List Dl) (k : Nat) (s : Int) : Int := usedAt sf gs ls r.br k + brM r.br s (legAt sf gs ls k) + escM r sf (dpM (legAt sf gs ls k) s)
def aN (r : Ru) (sf : Int) (gs : List Gs) (ls : List Dl) (σ : Nat) : Int := needA r sf gs ls (kAt ls σ) ((σ : Int) - secAt ls (kAt ls σ))
variable {nm : ByteArray} {r : Ru} {c : Int}
/-! ### What is breathed up to a second -/
variable {b : Int}
end
end Go.Proofs.Ytdmnejfpbbmcaaa
