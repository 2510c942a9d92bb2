/-
  The legs of a divided plan as they lie in memory. Conditions: none; no program in sight.
-/
import Derived.Test.YtdmnejfpbbmcaaaXp12
namespace Go.Proofs.Ytdmnejfpbbmcaaa
theorem upZ_cross {a b c d : Int} (hb : 1 ≤ b) (hd : 1 ≤ d) (e : a * d = c * b) : upZ a b = upZ c d := by
  have e1 : upZ (a * d) (b * d) = upZ a b := upZ_mul hb hd
  have e2 : upZ (c * b) (d * b) = upZ c d := upZ_mul hd hb
  rw [← e1, ← e2, e, Int.mul_comm b d]
theorem upZ_one (a : Int) : upZ a 1 = a := by unfold upZ; omega
section
variable {nm : ByteArray} {sf : Int} {r : Ru} {gs : List Gs} {ls : List Dl} {σ : Nat}
def atR (ls : List Dl) (σ : Nat) : Int × Int :=
  if σ = 0 then (0, 1) else if (σ : Int) = secAt ls (kAt ls σ + 1) then (depAt ls (kAt ls σ + 1), 1) else (depAt ls (kAt ls σ) * (secAt ls (kAt ls σ + 1) - σ) + depAt ls (kAt ls σ + 1) * (σ - secAt ls (kAt ls σ)), secAt ls (kAt ls σ + 1) - secAt ls (kAt ls σ))
theorem atR_1 (h : σ = 0) : atR ls σ = (0, 1) := if_pos h
theorem atR_2 (h : ¬ σ = 0) (h2 : (σ : Int) = secAt ls (kAt ls σ + 1)) : atR ls σ = (depAt ls (kAt ls σ + 1), 1) := by unfold atR; rw [if_neg h, if_pos h2]
theorem atR_3 (h : ¬ σ = 0) (h2 : ¬ (σ : Int) = secAt ls (kAt ls σ + 1)) : atR ls σ = (depAt ls (kAt ls σ) * (secAt ls (kAt ls σ + 1) - σ) + depAt ls (kAt ls σ + 1) * (σ - secAt ls (kAt ls σ)), secAt ls (kAt ls σ + 1) - secAt ls (kAt ls σ)) := by unfold atR; rw [if_neg h, if_neg h2]
def dpL (ls : List Dl) (σ : Nat) : Int := atN ls (kAt ls σ) σ / (dlAt ls (kAt ls σ)).s
def dpH (ls : List Dl) (σ : Nat) : Int := upZ (atN ls (kAt ls σ) σ) (dlAt ls (kAt ls σ)).s
theorem atR_spec (H : okPl sf gs ls) (h : 0 < ls.length) (h1 : (σ : Int) ≤ secAt ls ls.length) : (1 ≤ (atR ls σ).2 ∧ (atR ls σ).2 ≤ 1000000) ∧ (0 ≤ (atR ls σ).1 ∧ (atR ls σ).1 ≤ 30000000000) ∧ (atR ls σ).1 / (atR ls σ).2 = dpL ls σ ∧ upZ (atR ls σ).1 (atR ls σ).2 = dpH ls σ := by
  obtain ⟨a1, a2, a3⟩ := kAt_in H h h1
  have hs := (H.at a1).s
  have hd := H.dep (k := kAt ls σ + 1) (by omega)
  have he := secAt_succ ls (kAt ls σ)
  unfold dpL dpH
  by_cases c1 : σ = 0
  · rw [atR_1 c1]
    subst c1
    have hk : kAt ls 0 = 0 := kAt_eq H h (.inr rfl) (by have := (H.e 1 (by omega)).1; show (0 : Int) ≤ _; omega)
    have e0 : atN ls (kAt ls 0) ((0 : Nat) : Int) = 0 := by
      rw [hk]
      unfold atN
      show 0 * _ + _ * ((0 : Int) - 0) = 0
      omega
    rw [e0]
    dsimp only
    rw [upZ_one, Int.zero_ediv, Int.zero_ediv]
    refine ⟨by omega, by omega, rfl, ?_⟩
    unfold upZ
    exact (Int.ediv_eq_zero_of_lt (by omega) (by omega)).symm
  · have hlo : secAt ls (kAt ls σ) ≤ (σ : Int) := by
      rcases a3 with h9 | h9
      · omega
      · rw [h9]; show (0 : Int) ≤ _; omega
    obtain ⟨b1, b2, b3⟩ := atN_in H a1 hlo a2
    by_cases c2 : (σ : Int) = secAt ls (kAt ls σ + 1)
    · rw [atR_2 c1 c2]
      have e0 : atN ls (kAt ls σ) (σ : Int) = depAt ls (kAt ls σ + 1) * (dlAt ls (kAt ls σ)).s := by
        unfold atN
        rw [c2, he]
        grind
      rw [e0]
      dsimp only
      rw [Int.mul_ediv_cancel _ (by omega), upZ_one]
      refine ⟨by omega, by omega, by rw [Int.ediv_one], ?_⟩
      exact (upZ_one _).symm.trans (upZ_cross (by omega) (by omega) (by omega))
    · rw [atR_3 c1 c2]
      have e0 : depAt ls (kAt ls σ) * (secAt ls (kAt ls σ + 1) - σ) + depAt ls (kAt ls σ + 1) * (σ - secAt ls (kAt ls σ)) = atN ls (kAt ls σ) (σ : Int) := by
        unfold atN
        grind
      dsimp only
      rw [e0, show secAt ls (kAt ls σ + 1) - secAt ls (kAt ls σ) = (dlAt ls (kAt ls σ)).s by omega]
      rw [show secAt ls (kAt ls σ + 1) - secAt ls (kAt ls σ) = (dlAt ls (kAt ls σ)).s by omega] at b3
      exact ⟨hs, by omega, rfl, rfl⟩
/-! ### The plan up to a second -/
section
variable {k : Nat} {x : Dl} {i : Nat}
end
end
section
variable {nm : ByteArray} {sf : Int} {r : Ru} {gs : List Gs} {ls : List Dl} {σ : Nat}
end
end Go.Proofs.Ytdmnejfpbbmcaaa
namespace Go.Proofs.Ytdmnejfpbbmcaaa
section
variable {sf : Int} {r : Ru} {gs : List Gs} {ls : List Dl} {σ k : Nat} {x : Int × Int}
end
end Go.Proofs.Ytdmnejfpbbmcaaa
namespace Go.Proofs.Ytdmnejfpbbmcaaa
end Go.Proofs.Ytdmnejfpbbmcaaa
