/-
  Plain models of chapter 5: the seconds of a plan, what is breathed up to one, needs. Conditions: none; no program in sight.
-/
import Derived.Test.YtdmnejfpbbmcaaaXp2
namespace Go.Proofs.Ytdmnejfpbbmcaaa

theorem up_eq {n b : Int} (hb : 1 ≤ b) (h : n / b * b = n) : upZ n b = n / b := by
  unfold upZ
  have e : n + b - 1 = (b - 1) + b * (n / b) := by rw [Int.mul_comm b]; omega
  rw [e, Int.add_mul_ediv_left _ _ (by omega), Int.ediv_eq_zero_of_lt (by omega) (by omega)]
  omega
theorem up_ne {n b : Int} (hb : 1 ≤ b) (h : ¬ n / b * b = n) : upZ n b = n / b + 1 := by
  have h1 := Int.mul_ediv_add_emod n b
  have h2 := Int.emod_nonneg n (show b ≠ 0 by omega)
  have h3 := Int.emod_lt_of_pos n (show 0 < b by omega)
  have h4 : n / b * b = b * (n / b) := Int.mul_comm _ _
  unfold upZ
  have e : n + b - 1 = (n % b - 1) + b * (n / b + 1) := by rw [Int.mul_add]; omega
  rw [e, Int.add_mul_ediv_left _ _ (by omega), Int.ediv_eq_zero_of_lt (by omega) (by omega)]
  omega
def wgM (g : Gs) : Int := g.o * 1429 + g.h * 179 + (1000 - g.o - g.h) * 1251
def wgK (g : Gs) : Nat → Int
  | 0 => 0
  | 1 => g.o * 1429
  | 2 => g.o * 1429 + g.h * 179
  | _ => wgM g
def denM (g : Gs) (p : Int) : Rg := ⟨wgM g * p / 1013000, upZ (wgM g * p) 1013000⟩
def narM (g : Gs) (sf d : Int) : Rg := ⟨max 0 ((1000 - g.h) * (sf + d) / 1000 - sf), max 0 (upZ ((1000 - g.h) * (sf + d)) 1000 - sf)⟩
theorem wg_fact {g : Gs} {p : Int} (hg : 0 ≤ g.o ∧ 0 ≤ g.h ∧ g.o + g.h ≤ 1000) (hp : 0 ≤ p ∧ p ≤ 100000) : (0 ≤ wgM g ∧ wgM g ≤ 1429000) ∧ 0 ≤ wgM g * p ∧ wgM g * p ≤ 142900000000 := by
  have h1 : 0 ≤ wgM g ∧ wgM g ≤ 1429000 := by unfold wgM; omega
  have := mulB (a := wgM g) (b := p) (A := 1429000) (B := 100000) h1 hp
  exact ⟨h1, by omega⟩
theorem nar_fact {g : Gs} {q : Int} (hg : 0 ≤ g.o ∧ 0 ≤ g.h ∧ g.o + g.h ≤ 1000) (hq : 0 ≤ q ∧ q ≤ 31100) : 0 ≤ (1000 - g.h) * q ∧ (1000 - g.h) * q ≤ 31100000 := by
  have := mulB (a := 1000 - g.h) (b := q) (A := 1000) (B := 31100) (by omega) hq
  omega
/-! ### The first number of which something holds -/
def firstB (p : Nat → Bool) : Nat → Nat
  | 0 => 0
  | n + 1 => if firstB p n < n then firstB p n else if p n then n else n + 1
theorem firstB_le (p : Nat → Bool) : ∀ n, firstB p n ≤ n
  | 0 => Nat.le_refl _
  | n + 1 => by
    unfold firstB
    have := firstB_le p n
    split
    · omega
    · split <;> omega
theorem firstB_spec (p : Nat → Bool) : ∀ n, (∀ i, i < firstB p n → p i = false) ∧ (firstB p n < n → p (firstB p n) = true)
  | 0 => ⟨fun i hi => by unfold firstB at hi; omega, fun h => by unfold firstB at h; omega⟩
  | n + 1 => by
    obtain ⟨h1, h2⟩ := firstB_spec p n
    have h3 := firstB_le p n
    unfold firstB
    by_cases hc : firstB p n < n
    · rw [if_pos hc]
      exact ⟨h1, fun _ => h2 hc⟩
    · rw [if_neg hc]
      have e : firstB p n = n := by omega
      rw [e] at h1
      by_cases hp : p n = true
      · rw [if_pos hp]
        exact ⟨h1, fun _ => hp⟩
      · rw [if_neg hp]
        refine ⟨fun i hi => ?_, fun h => by omega⟩
        rcases Nat.lt_or_eq_of_le (Nat.le_of_lt_succ hi) with h9 | rfl
        · exact h1 i h9
        · simpa using hp
theorem firstB_iff {p : Nat → Bool} (hm : ∀ i j, i ≤ j → p i = true → p j = true) {n i : Nat} (hi : i < n) : p i = decide (firstB p n ≤ i) := by
  obtain ⟨h1, h2⟩ := firstB_spec p n
  by_cases hc : firstB p n ≤ i
  · rw [decide_eq_true hc]
    exact hm _ i hc (h2 (by omega))
  · rw [decide_eq_false hc]
    exact h1 i (by omega)
/-! ### The depths for a gas -/
abbrev poorP (g : Gs) (p : Int) (r : Ru) : Prop := g.o * p < 1000 * r.lo
def richB (g : Gs) (p : Int) (r : Ru) : Bool := decide (g.o * p > 1000 * r.hi)
def narcB (g : Gs) (sf p : Int) (r : Ru) : Bool := decide ((narM g sf (p - sf)).hi > r.na)
def denB (g : Gs) (p : Int) (r : Ru) : Bool := decide ((denM g p).hi > r.de)
def heavyB (g : Gs) (sf p : Int) (r : Ru) : Bool := richB g p r || narcB g sf p r || denB g p r
def notPoor (g : Gs) (sf : Int) (r : Ru) (i : Nat) : Bool := decide (¬ poorP g (sf + i) r)
def isHeavy (g : Gs) (sf : Int) (r : Ru) (i : Nat) : Bool := heavyB g sf (sf + i) r
theorem notPoor_mono {g : Gs} {sf : Int} {r : Ru} (hg : 0 ≤ g.o) : ∀ i j, i ≤ j → notPoor g sf r i = true → notPoor g sf r j = true := fun i j h hp => by
  unfold notPoor at hp ⊢
  have h1 := of_decide_eq_true hp
  have h2 := Int.mul_le_mul_of_nonneg_left (show sf + (i : Int) ≤ sf + (j : Int) by omega) hg
  exact decide_eq_true (by omega)
theorem isHeavy_mono {g : Gs} {sf : Int} {r : Ru} (hg : 0 ≤ g.o ∧ 0 ≤ g.h ∧ g.o + g.h ≤ 1000) : ∀ i j, i ≤ j → isHeavy g sf r i = true → isHeavy g sf r j = true := fun i j h hp => by
  unfold isHeavy heavyB at hp ⊢
  simp only [Bool.or_eq_true] at hp ⊢
  have hw : 0 ≤ wgM g := by unfold wgM; omega
  rcases hp with (hp | hp) | hp
  · refine .inl (.inl ?_)
    unfold richB at hp ⊢
    have h1 := of_decide_eq_true hp
    have h2 := Int.mul_le_mul_of_nonneg_left (show sf + (i : Int) ≤ sf + (j : Int) by omega) hg.1
    exact decide_eq_true (by omega)
  · refine .inl (.inr ?_)
    unfold narcB at hp ⊢
    have h1 := of_decide_eq_true hp
    have e : ∀ k : Nat, sf + (sf + (k : Int) - sf) = sf + (k : Int) := fun k => by omega
    unfold narM at h1 ⊢
    simp only [e] at h1 ⊢
    have h2 := upZ_mono (c := 1000) (Int.mul_le_mul_of_nonneg_left (show sf + (i : Int) ≤ sf + (j : Int) by omega) (show 0 ≤ 1000 - g.h by omega)) (by omega)
    exact decide_eq_true (by omega)
  · refine .inr ?_
    unfold denB at hp ⊢
    have h1 := of_decide_eq_true hp
    unfold denM at h1 ⊢
    dsimp only at h1 ⊢
    have h2 := upZ_mono (c := 1013000) (Int.mul_le_mul_of_nonneg_left (show sf + (i : Int) ≤ sf + (j : Int) by omega) hw) (by omega)
    exact decide_eq_true (by omega)
def dLo (g : Gs) (sf : Int) (r : Ru) : Nat := firstB (notPoor g sf r) 30001
def dHi (g : Gs) (sf : Int) (r : Ru) : Nat := firstB (isHeavy g sf r) 30001
section
variable {g : Gs} {sf : Int} {r : Ru}
end
end Go.Proofs.Ytdmnejfpbbmcaaa
namespace Go.Proofs.Ytdmnejfpbbmcaaa

/-! ### The legs at the seconds of a plan -/
section
variable {sf : Int} {gs : List Gs} {ls : List Dl}
theorem secAt_succ (ls : List Dl) (k : Nat) : secAt ls (k + 1) = secAt ls k + (dlAt ls k).s := rfl
theorem secAt_mono (H : okPl sf gs ls) {i : Nat} : ∀ j, i ≤ j → j ≤ ls.length → secAt ls i ≤ secAt ls j
  | 0, h1, _ => by
    obtain rfl : i = 0 := by omega
    exact Int.le_refl _
  | j + 1, h1, h2 => by
    rcases Nat.lt_or_eq_of_le h1 with h3 | rfl
    · have a := secAt_mono H (i := i) j (by omega) (by omega)
      have b := (H.at (k := j) (by omega)).s
      rw [secAt_succ]
      omega
    · exact Int.le_refl _
theorem sec_leg (H : okPl sf gs ls) {k : Nat} (hk : k < ls.length) : (dlAt ls k).s ≤ secAt ls ls.length := by
  have a := secAt_mono H (i := k + 1) ls.length (by omega) (Nat.le_refl _)
  have b := (H.e k (by omega)).1
  rw [secAt_succ] at a
  omega
def kAt (ls : List Dl) (σ : Nat) : Nat := firstB (fun k => decide ((σ : Int) ≤ secAt ls (k + 1))) ls.length
theorem kAt_eq (H : okPl sf gs ls) {k σ : Nat} (hk : k < ls.length) (h0 : secAt ls k < σ ∨ k = 0) (h1 : (σ : Int) ≤ secAt ls (k + 1)) : kAt ls σ = k := by
  obtain ⟨s1, s2⟩ := firstB_spec (fun k => decide ((σ : Int) ≤ secAt ls (k + 1))) ls.length
  have s3 := firstB_le (fun k => decide ((σ : Int) ≤ secAt ls (k + 1))) ls.length
  unfold kAt
  generalize firstB (fun k => decide ((σ : Int) ≤ secAt ls (k + 1))) ls.length = m at *
  rcases Nat.lt_trichotomy m k with h | h | h
  · have a := of_decide_eq_true (s2 (by omega))
    have b := secAt_mono H (i := m + 1) k (by omega) (by omega)
    omega
  · exact h
  · have a := of_decide_eq_false (s1 k h)
    omega
theorem kAt_in (H : okPl sf gs ls) {σ : Nat} (h : 0 < ls.length) (h1 : (σ : Int) ≤ secAt ls ls.length) : kAt ls σ < ls.length ∧ (σ : Int) ≤ secAt ls (kAt ls σ + 1) ∧ (secAt ls (kAt ls σ) < σ ∨ kAt ls σ = 0) := by
  obtain ⟨s1, s2⟩ := firstB_spec (fun k => decide ((σ : Int) ≤ secAt ls (k + 1))) ls.length
  have s3 := firstB_le (fun k => decide ((σ : Int) ≤ secAt ls (k + 1))) ls.length
  unfold kAt
  generalize firstB (fun k => decide ((σ : Int) ≤ secAt ls (k + 1))) ls.length = m at *
  have hm : m < ls.length := by
    rcases Nat.lt_or_eq_of_le s3 with h9 | rfl
    · exact h9
    · have a := of_decide_eq_false (s1 (ls.length - 1) (by omega))
      rw [show ls.length - 1 + 1 = ls.length by omega] at a
      exact absurd h1 a
  refine ⟨hm, of_decide_eq_true (s2 hm), ?_⟩
  rcases Nat.eq_zero_or_pos m with h9 | h9
  · exact .inr h9
  · have a := of_decide_eq_false (s1 (m - 1) (by omega))
    rw [show m - 1 + 1 = m by omega] at a
    left; omega

/-! ### Depths, rounded up -/
def dpS (x : Le) (s : Int) : Int := (x.f - x.sf) * (x.x.s - s) + (x.t - x.sf) * s
def dpM (x : Le) (s : Int) : Int := upZ (dpS x s) x.x.s
theorem dpS_in {x : Le} (h : okLe x) {s : Int} (hs : 0 ≤ s ∧ s ≤ x.x.s) : (0 ≤ (x.f - x.sf) * (x.x.s - s) ∧ (x.f - x.sf) * (x.x.s - s) ≤ 30000000000) ∧ (0 ≤ (x.t - x.sf) * s ∧ (x.t - x.sf) * s ≤ 30000000000) ∧ 0 ≤ dpS x s ∧ dpS x s ≤ 30000 * x.x.s := by
  have h1 := h.f; have h2 := h.t; have h3 := h.s
  have a := mulB (a := x.f - x.sf) (b := x.x.s - s) (A := 30000) (B := x.x.s - s) (by omega) (by omega)
  have b := mulB (a := x.t - x.sf) (b := s) (A := 30000) (B := s) (by omega) (by omega)
  unfold dpS
  exact ⟨⟨a.1, by omega⟩, ⟨b.1, by omega⟩, by omega, by omega⟩
theorem dpM_in {x : Le} (h : okLe x) {s : Int} (hs : 0 ≤ s ∧ s ≤ x.x.s) : 0 ≤ dpM x s ∧ dpM x s ≤ 30000 := by
  have a := (dpS_in h hs).2.2
  have h3 := h.s
  unfold dpM upZ
  constructor
  · exact Int.ediv_nonneg (by omega) (by omega)
  · have : (dpS x s + x.x.s - 1) / x.x.s < 30000 + 1 := Int.ediv_lt_of_lt_mul (by omega) (by rw [Int.add_mul]; omega)
    omega

/-! ### Needs -/
def usedAt (sf : Int) (gs : List Gs) (ls : List Dl) (b : Int) (k : Nat) : Int := ((consK gs.length ls (amtS sf gs ls b) k)[(dlAt ls k).g.toNat]?).getD 0
def needA (r : Ru) (sf : Int) (gs : List Gs) (ls : List Dl) (k : Nat) (s : Int) : Int := usedAt sf gs ls r.br k + brM r.br s (legAt sf gs ls k) + escM r sf (dpM (legAt sf gs ls k) s)
def aN (r : Ru) (sf : Int) (gs : List Gs) (ls : List Dl) (σ : Nat) : Int := needA r sf gs ls (kAt ls σ) ((σ : Int) - secAt ls (kAt ls σ))
variable {nm : ByteArray} {r : Ru} {c : Int}
/-! ### What is breathed up to a second -/
def amtT (sf : Int) (gs : List Gs) (ls : List Dl) (b c : Int) (i : Nat) : Int := if secAt ls i < c then brM b (min (c - secAt ls i) (dlAt ls i).s) (legAt sf gs ls i) else 0
theorem consK_upto {n : Nat} {ls : List Dl} {amt : Nat → Int} {m L : Nat} (h : ∀ i, m ≤ i → i < L → amt i = 0) : ∀ k, m ≤ k → k ≤ L → consK n ls amt k = consK n ls amt m
  | 0, hk, _ => by
    obtain rfl : m = 0 := by omega
    rfl
  | k + 1, hk, hL => by
    rcases Nat.lt_or_eq_of_le hk with h9 | rfl
    · have e : consK n ls amt (k + 1) = addAt (consK n ls amt k) (dlAt ls k).g.toNat (amt k) := rfl
      rw [e, h k (by omega) (by omega), addAt_zero, consK_upto h k (by omega) (by omega)]
    · rfl
theorem amtT_in (H : okPl sf gs ls) {b c : Int} (hb : 1 ≤ b ∧ b ≤ 100000) (ht : secAt ls ls.length ≤ 20000) {i : Nat} (hi : i < ls.length) : 0 ≤ amtT sf gs ls b c i ∧ amtT sf gs ls b c i ≤ 51833333334 := by
  have h1 := (H.at hi).s
  have h2 := sec_leg H hi
  unfold amtT
  by_cases hc : secAt ls i < c
  · rw [if_pos hc]
    exact brM_in (H.le hi) hb (by show 0 ≤ min _ _ ∧ min _ _ ≤ (dlAt ls i).s; omega) (.inr (by show (dlAt ls i).s ≤ _; omega))
  · rw [if_neg hc]; omega
def traceE (nm : ByteArray) (sf : Int) (gs : List Gs) (ls : List Dl) (b c : Int) : List Int × Int :=
  if (ckPl nm sf gs ls).2 ≠ 0 then ([], (ckPl nm sf gs ls).2) else if ¬ (1 ≤ b ∧ b ≤ 100000) then ([], 2) else if secAt ls ls.length > 20000 then ([], 8) else if ¬ (0 ≤ c ∧ c ≤ secAt ls ls.length) then ([], 2) else (consK gs.length ls (amtT sf gs ls b c) ls.length, 0)
variable {b : Int}
theorem traceE_1 (h : (ckPl nm sf gs ls).2 ≠ 0) : traceE nm sf gs ls b c = ([], (ckPl nm sf gs ls).2) := if_pos h
theorem traceE_2 (h : (ckPl nm sf gs ls).2 = 0) (h2 : ¬ (1 ≤ b ∧ b ≤ 100000)) : traceE nm sf gs ls b c = ([], 2) := by unfold traceE; rw [if_neg (fun hh => hh h), if_pos h2]
theorem traceE_3 (h : (ckPl nm sf gs ls).2 = 0) (h2 : 1 ≤ b ∧ b ≤ 100000) (h3 : secAt ls ls.length > 20000) : traceE nm sf gs ls b c = ([], 8) := by unfold traceE; rw [if_neg (fun hh => hh h), if_neg (fun hh => hh h2), if_pos h3]
theorem traceE_4 (h : (ckPl nm sf gs ls).2 = 0) (h2 : 1 ≤ b ∧ b ≤ 100000) (h3 : ¬ secAt ls ls.length > 20000) (h4 : ¬ (0 ≤ c ∧ c ≤ secAt ls ls.length)) : traceE nm sf gs ls b c = ([], 2) := by unfold traceE; rw [if_neg (fun hh => hh h), if_neg (fun hh => hh h2), if_neg h3, if_pos h4]
theorem traceE_5 (h : (ckPl nm sf gs ls).2 = 0) (h2 : 1 ≤ b ∧ b ≤ 100000) (h3 : ¬ secAt ls ls.length > 20000) (h4 : 0 ≤ c ∧ c ≤ secAt ls ls.length) : traceE nm sf gs ls b c = (consK gs.length ls (amtT sf gs ls b c) ls.length, 0) := by unfold traceE; rw [if_neg (fun hh => hh h), if_neg (fun hh => hh h2), if_neg h3, if_neg (fun hh => hh h4)]
end
end Go.Proofs.Ytdmnejfpbbmcaaa
