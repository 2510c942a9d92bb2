/-
  Small laws of chapter 4 that the statements ask. Conditions: those in front of each theorem; no program in sight.
-/
import Derived.Test.YthilaakeimfedaaGreatDoorPrX
namespace Go.Proofs.YthilaakeimfedaaGreatDoor
open Go.RowKit
section
variable {r : Rl} {a b : Int}
theorem erR_2 (h : erR r [a] ≠ 0) : erR r [a, b] = erR r [a] := by
  unfold erR at h ⊢
  by_cases h1 : ckRl r ≠ 0
  · rw [if_pos h1, if_pos h1]
  · rw [if_neg h1] at h
    rw [if_neg h1, if_neg h1, dep_1, dep_2]
    rw [dep_1] at h
    by_cases h2 : 0 ≤ a ∧ a ≤ 30000
    · rw [if_pos h2] at h; exact absurd rfl h
    · rw [if_neg h2, if_neg (fun hh => h2 hh.1)]
theorem erR_b (h : erR r [a] = 0) (hb : ¬ (0 ≤ b ∧ b ≤ 30000)) : erR r [a, b] = 2 := by
  obtain ⟨h1, _⟩ := erR_ok h
  unfold erR
  rw [if_neg (fun hh => hh h1.ck), dep_2, if_neg (fun hh => hb hh.2)]
theorem erR_c (h : erR r [a] = 0) (hb : 0 ≤ b ∧ b ≤ 30000) : erR r [a, b] = 0 := by
  obtain ⟨h1, h2⟩ := erR_ok h
  unfold erR
  rw [if_neg (fun hh => hh h1.ck), dep_2, if_pos ⟨dep1_ok h2, hb⟩]
end
/-- what is wrong of a task, then of a depth -/
def tkD (x : Asc) (d : Int) : Int := if ckAsc x ≠ 0 then ckAsc x else depE [d]
theorem tkD_bad {x : Asc} {d : Int} (h : tkD x d ≠ 0) : gasE x d = (0, tkD x d) := by
  unfold tkD at h ⊢
  by_cases h1 : ckAsc x ≠ 0
  · rw [if_pos h1, gasE_1 h1]
  · rw [if_neg h1] at h
    rw [if_neg h1, gasE_2 (Decidable.not_not.1 h1) h]
theorem tkD_ok {x : Asc} {d : Int} (h : tkD x d = 0) : ckAsc x = 0 ∧ depE [d] = 0 := by
  unfold tkD at h
  by_cases h1 : ckAsc x ≠ 0
  · rw [if_pos h1] at h; exact absurd h h1
  · rw [if_neg h1] at h
    exact ⟨Decidable.not_not.1 h1, h⟩
end Go.Proofs.YthilaakeimfedaaGreatDoor
