/-
  Plain models of chapters 1 and 5: roundings, narcotic depths, densities, the depths for a gas. Conditions: none; no program in sight.
-/
import Derived.Test.YtacndicgpkeobaaGreatDoorArgP
namespace Go.Proofs.YtacndicgpkeobaaGreatDoor

theorem up_eq {n b : Int} (hb : 1 ≤ b) (h : n / b * b = n) : upZ n b = n / b := by
  unfold upZ
  have e : n + b - 1 = (b - 1) + b * (n / b) := by rw [Int.mul_comm b]; omega
  rw [e, Int.add_mul_ediv_left _ _ (by omega), Int.ediv_eq_zero_of_lt (by omega) (by omega)]
  omega
theorem up_ne {n b : Int} (hb : 1 ≤ b) (h : ¬ n / b * b = n) : upZ n b = n / b + 1 := by
  have h1 := Int.mul_ediv_add_emod n b
  have h2 := Int.emod_nonneg n (show b ≠ 0 by omega)
  have h3 := Int.emod_lt_of_pos n (show 0 < b by omega)
  have h4 : n / b * b = b * (n / b) := Int.mul_comm _ _
  unfold upZ
  have e : n + b - 1 = (n % b - 1) + b * (n / b + 1) := by rw [Int.mul_add]; omega
  rw [e, Int.add_mul_ediv_left _ _ (by omega), Int.ediv_eq_zero_of_lt (by omega) (by omega)]
  omega
def wgM (g : Gs) : Int := g.o * 1429 + g.h * 179 + (1000 - g.o - g.h) * 1251
def wgK (g : Gs) : Nat → Int
  | 0 => 0
  | 1 => g.o * 1429
  | 2 => g.o * 1429 + g.h * 179
  | _ => wgM g
def denM (g : Gs) (p : Int) : Rg := ⟨wgM g * p / 1013000, upZ (wgM g * p) 1013000⟩
def narM (g : Gs) (sf d : Int) : Rg := ⟨max 0 ((1000 - g.h) * (sf + d) / 1000 - sf), max 0 (upZ ((1000 - g.h) * (sf + d)) 1000 - sf)⟩
theorem wg_fact {g : Gs} {p : Int} (hg : 0 ≤ g.o ∧ 0 ≤ g.h ∧ g.o + g.h ≤ 1000) (hp : 0 ≤ p ∧ p ≤ 100000) : (0 ≤ wgM g ∧ wgM g ≤ 1429000) ∧ 0 ≤ wgM g * p ∧ wgM g * p ≤ 142900000000 := by
  have h1 : 0 ≤ wgM g ∧ wgM g ≤ 1429000 := by unfold wgM; omega
  have := mulB (a := wgM g) (b := p) (A := 1429000) (B := 100000) h1 hp
  exact ⟨h1, by omega⟩
theorem nar_fact {g : Gs} {q : Int} (hg : 0 ≤ g.o ∧ 0 ≤ g.h ∧ g.o + g.h ≤ 1000) (hq : 0 ≤ q ∧ q ≤ 31100) : 0 ≤ (1000 - g.h) * q ∧ (1000 - g.h) * q ≤ 31100000 := by
  have := mulB (a := 1000 - g.h) (b := q) (A := 1000) (B := 31100) (by omega) hq
  omega
/-! ### The first number of which something holds -/
def firstB (p : Nat → Bool) : Nat → Nat
  | 0 => 0
  | n + 1 => if firstB p n < n then firstB p n else if p n then n else n + 1
theorem firstB_le (p : Nat → Bool) : ∀ n, firstB p n ≤ n
  | 0 => Nat.le_refl _
  | n + 1 => by
    unfold firstB
    have := firstB_le p n
    split
    · omega
    · split <;> omega
theorem firstB_spec (p : Nat → Bool) : ∀ n, (∀ i, i < firstB p n → p i = false) ∧ (firstB p n < n → p (firstB p n) = true)
  | 0 => ⟨fun i hi => by unfold firstB at hi; omega, fun h => by unfold firstB at h; omega⟩
  | n + 1 => by
    obtain ⟨h1, h2⟩ := firstB_spec p n
    have h3 := firstB_le p n
    unfold firstB
    by_cases hc : firstB p n < n
    · rw [if_pos hc]
      exact ⟨h1, fun _ => h2 hc⟩
    · rw [if_neg hc]
      have e : firstB p n = n := by omega
      rw [e] at h1
      by_cases hp : p n = true
      · rw [if_pos hp]
        exact ⟨h1, fun _ => hp⟩
      · rw [if_neg hp]
        refine ⟨fun i hi => ?_, fun h => by omega⟩
        rcases Nat.lt_or_eq_of_le (Nat.le_of_lt_succ hi) with h9 | rfl
        · exact h1 i h9
        · simpa using hp
theorem firstB_iff {p : Nat → Bool} (hm : ∀ i j, i ≤ j → p i = true → p j = true) {n i : Nat} (hi : i < n) : p i = decide (firstB p n ≤ i) := by
  obtain ⟨h1, h2⟩ := firstB_spec p n
  by_cases hc : firstB p n ≤ i
  · rw [decide_eq_true hc]
    exact hm _ i hc (h2 (by omega))
  · rw [decide_eq_false hc]
    exact h1 i (by omega)
theorem firstB_eq {p : Nat → Bool} (hm : ∀ i j, i ≤ j → p i = true → p j = true) {n m : Nat} (h0 : m ≤ n) (h1 : m = 0 ∨ p (m - 1) = false) (h2 : m = n ∨ p m = true) : firstB p n = m := by
  obtain ⟨s1, s2⟩ := firstB_spec p n
  have s3 := firstB_le p n
  rcases Nat.lt_trichotomy (firstB p n) m with h | h | h
  · have h9 := hm _ (m - 1) (show firstB p n ≤ m - 1 by omega) (s2 (by omega))
    rcases h1 with h1 | h1
    · omega
    · rw [h9] at h1; cases h1
  · exact h
  · have h9 := s1 m h
    rcases h2 with h2 | h2
    · omega
    · rw [h9] at h2; cases h2
/-! ### The depths for a gas -/
abbrev poorP (g : Gs) (p : Int) (r : Ru) : Prop := g.o * p < 1000 * r.lo
def richB (g : Gs) (p : Int) (r : Ru) : Bool := decide (g.o * p > 1000 * r.hi)
def narcB (g : Gs) (sf p : Int) (r : Ru) : Bool := decide ((narM g sf (p - sf)).hi > r.na)
def denB (g : Gs) (p : Int) (r : Ru) : Bool := decide ((denM g p).hi > r.de)
def heavyB (g : Gs) (sf p : Int) (r : Ru) : Bool := richB g p r || narcB g sf p r || denB g p r
def notPoor (g : Gs) (sf : Int) (r : Ru) (i : Nat) : Bool := decide (¬ poorP g (sf + i) r)
def isHeavy (g : Gs) (sf : Int) (r : Ru) (i : Nat) : Bool := heavyB g sf (sf + i) r
theorem notPoor_mono {g : Gs} {sf : Int} {r : Ru} (hg : 0 ≤ g.o) : ∀ i j, i ≤ j → notPoor g sf r i = true → notPoor g sf r j = true := fun i j h hp => by
  unfold notPoor at hp ⊢
  have h1 := of_decide_eq_true hp
  have h2 := Int.mul_le_mul_of_nonneg_left (show sf + (i : Int) ≤ sf + (j : Int) by omega) hg
  exact decide_eq_true (by omega)
theorem isHeavy_mono {g : Gs} {sf : Int} {r : Ru} (hg : 0 ≤ g.o ∧ 0 ≤ g.h ∧ g.o + g.h ≤ 1000) : ∀ i j, i ≤ j → isHeavy g sf r i = true → isHeavy g sf r j = true := fun i j h hp => by
  unfold isHeavy heavyB at hp ⊢
  simp only [Bool.or_eq_true] at hp ⊢
  have hw : 0 ≤ wgM g := by unfold wgM; omega
  rcases hp with (hp | hp) | hp
  · refine .inl (.inl ?_)
    unfold richB at hp ⊢
    have h1 := of_decide_eq_true hp
    have h2 := Int.mul_le_mul_of_nonneg_left (show sf + (i : Int) ≤ sf + (j : Int) by omega) hg.1
    exact decide_eq_true (by omega)
  · refine .inl (.inr ?_)
    unfold narcB at hp ⊢
    have h1 := of_decide_eq_true hp
    have e : ∀ k : Nat, sf + (sf + (k : Int) - sf) = sf + (k : Int) := fun k => by omega
    unfold narM at h1 ⊢
    simp only [e] at h1 ⊢
    have h2 := upZ_mono (c := 1000) (Int.mul_le_mul_of_nonneg_left (show sf + (i : Int) ≤ sf + (j : Int) by omega) (show 0 ≤ 1000 - g.h by omega)) (by omega)
    exact decide_eq_true (by omega)
  · refine .inr ?_
    unfold denB at hp ⊢
    have h1 := of_decide_eq_true hp
    unfold denM at h1 ⊢
    dsimp only at h1 ⊢
    have h2 := upZ_mono (c := 1013000) (Int.mul_le_mul_of_nonneg_left (show sf + (i : Int) ≤ sf + (j : Int) by omega) hw) (by omega)
    exact decide_eq_true (by omega)
def dLo (g : Gs) (sf : Int) (r : Ru) : Nat := firstB (notPoor g sf r) 30001
def dHi (g : Gs) (sf : Int) (r : Ru) : Nat := firstB (isHeavy g sf r) 30001
def ckGSR (g : Gs) (sf : Int) (r : Ru) : Int := if ckGas g.o g.h ≠ 0 then ckGas g.o g.h else if 400 ≤ sf ∧ sf ≤ 1100 then ckRu r else 2
def dofE (g : Gs) (sf : Int) (r : Ru) : Rg × Int := if ckGSR g sf r ≠ 0 then (⟨0, 0⟩, ckGSR g sf r) else if (dLo g sf r : Int) > dHi g sf r - 1 then (⟨0, 0⟩, 12) else (⟨dLo g sf r, dHi g sf r - 1⟩, 0)
section
variable {g : Gs} {sf : Int} {r : Ru}
theorem ckGSR_1 (h : ckGas g.o g.h ≠ 0) : ckGSR g sf r = ckGas g.o g.h := if_pos h
theorem ckGSR_2 (h : ckGas g.o g.h = 0) (h2 : ¬ (400 ≤ sf ∧ sf ≤ 1100)) : ckGSR g sf r = 2 := by unfold ckGSR; rw [if_neg (fun hh => hh h), if_neg h2]
theorem ckGSR_3 (h : ckGas g.o g.h = 0) (h2 : 400 ≤ sf ∧ sf ≤ 1100) : ckGSR g sf r = ckRu r := by unfold ckGSR; rw [if_neg (fun hh => hh h), if_pos h2]
theorem dofE_1 (h : ckGSR g sf r ≠ 0) : dofE g sf r = (⟨0, 0⟩, ckGSR g sf r) := if_pos h
theorem dofE_2 (h : ckGSR g sf r = 0) (h2 : (dLo g sf r : Int) > dHi g sf r - 1) : dofE g sf r = (⟨0, 0⟩, 12) := by unfold dofE; rw [if_neg (fun hh => hh h), if_pos h2]
theorem dofE_3 (h : ckGSR g sf r = 0) (h2 : ¬ (dLo g sf r : Int) > dHi g sf r - 1) : dofE g sf r = (⟨dLo g sf r, dHi g sf r - 1⟩, 0) := by unfold dofE; rw [if_neg (fun hh => hh h), if_neg h2]
end
end Go.Proofs.YtacndicgpkeobaaGreatDoor
