/-
  The mean depth of a plan; the least and the greatest of its points. Conditions: those in front of each theorem; no program in sight.
-/
import Derived.Test.YtdmnejfpbbmcaaaNf
namespace Go.Proofs.Ytdmnejfpbbmcaaa
theorem sameG_l {y g : Gs} : sameG y g ↔ [g.o, g.h] = [y.o, y.h] := by
  constructor
  · rintro ⟨h1, h2⟩
    rw [h1, h2]
  · intro h
    rw [List.cons.injEq, List.cons.injEq] at h
    exact ⟨h.1.symm, h.2.1.symm⟩
theorem gIx_y {y g : Gs} {t : List Gs} (h : sameG y g) : gIx (y :: t) g = 0 := if_pos h
theorem gIx_n {y g : Gs} {t : List Gs} (h : ¬ sameG y g) : gIx (y :: t) g = gIx t g + 1 := if_neg h
def mnK (ls : List Dl) : Nat → Int
  | 0 => 0
  | k + 1 => mnK ls k + (depAt ls k + depAt ls (k + 1)) * (secAt ls (k + 1) - secAt ls k)
def loK (ls : List Dl) : Nat → Int
  | 0 => 30000
  | k + 1 => min (loK ls k) (depAt ls k)
def hiK (ls : List Dl) : Nat → Int
  | 0 => 0
  | k + 1 => max (hiK ls k) (depAt ls k)
section
variable {sf : Int} {gs : List Gs} {ls : List Dl}
theorem loK_le : ∀ {k i : Nat}, i < k → loK ls k ≤ depAt ls i
  | k + 1, i, h => by
    show min (loK ls k) (depAt ls k) ≤ _
    rcases Nat.lt_or_ge i k with h1 | h1
    · have := loK_le h1
      omega
    · obtain rfl : i = k := by omega
      omega
theorem hiK_ge : ∀ {k i : Nat}, i < k → depAt ls i ≤ hiK ls k
  | k + 1, i, h => by
    show _ ≤ max (hiK ls k) (depAt ls k)
    rcases Nat.lt_or_ge i k with h1 | h1
    · have := hiK_ge h1
      omega
    · obtain rfl : i = k := by omega
      omega
theorem mnK_bd (H : okPl sf gs ls) {a b : Int} (ha : ∀ i, i ≤ ls.length → a ≤ depAt ls i ∧ depAt ls i ≤ b) : ∀ k, k ≤ ls.length → 2 * (a * secAt ls k) ≤ mnK ls k ∧ mnK ls k ≤ 2 * (b * secAt ls k)
  | 0, _ => by
    show 2 * (a * 0) ≤ 0 ∧ 0 ≤ 2 * (b * 0)
    simp
  | k + 1, h => by
    obtain ⟨h1, h2⟩ := mnK_bd H ha k (by omega)
    obtain ⟨h3, h4⟩ := ha k (by omega)
    obtain ⟨h5, h6⟩ := ha (k + 1) h
    have hs := (H.at (k := k) (by omega)).s
    have e : secAt ls (k + 1) = secAt ls k + (dlAt ls k).s := rfl
    show 2 * (a * secAt ls (k + 1)) ≤ mnK ls k + (depAt ls k + depAt ls (k + 1)) * (secAt ls (k + 1) - secAt ls k) ∧ mnK ls k + (depAt ls k + depAt ls (k + 1)) * (secAt ls (k + 1) - secAt ls k) ≤ 2 * (b * secAt ls (k + 1))
    rw [e, show secAt ls k + (dlAt ls k).s - secAt ls k = (dlAt ls k).s by omega, Int.mul_add a, Int.mul_add b]
    have q1 : (2 * a) * (dlAt ls k).s ≤ (depAt ls k + depAt ls (k + 1)) * (dlAt ls k).s := Int.mul_le_mul_of_nonneg_right (by omega) (by omega)
    have q2 : (depAt ls k + depAt ls (k + 1)) * (dlAt ls k).s ≤ (2 * b) * (dlAt ls k).s := Int.mul_le_mul_of_nonneg_right (by omega) (by omega)
    rw [Int.mul_assoc] at q1 q2
    omega
theorem mnK_in (H : okPl sf gs ls) {k : Nat} (h : k ≤ ls.length) : 0 ≤ mnK ls k ∧ mnK ls k ≤ 60000 * secAt ls k := by
  obtain ⟨h1, h2⟩ := mnK_bd H (a := 0) (b := 30000) (fun i hi => H.dep hi) k h
  omega
theorem mn_mid (H : okPl sf gs ls) (h0 : 0 < ls.length) : loK ls (ls.length + 1) ≤ mnK ls ls.length / (2 * secAt ls ls.length) ∧ mnK ls ls.length / (2 * secAt ls ls.length) ≤ upZ (mnK ls ls.length) (2 * secAt ls ls.length) ∧ upZ (mnK ls ls.length) (2 * secAt ls ls.length) ≤ hiK ls (ls.length + 1) := by
  obtain ⟨h1, h2⟩ := mnK_bd H (a := loK ls (ls.length + 1)) (b := hiK ls (ls.length + 1)) (fun i hi => ⟨loK_le (by omega), hiK_ge (by omega)⟩) ls.length (Nat.le_refl _)
  have hp := sec_up H.pos (i := 0) ls.length (Nat.zero_le _) (Nat.le_refl _)
  have hs : 1 ≤ secAt ls ls.length := by
    have : secAt ls 0 = 0 := rfl
    omega
  have hd : 0 < 2 * secAt ls ls.length := by omega
  have e1 : 2 * (loK ls (ls.length + 1) * secAt ls ls.length) = loK ls (ls.length + 1) * (2 * secAt ls ls.length) := by rw [Int.mul_left_comm]
  have e2 : 2 * (hiK ls (ls.length + 1) * secAt ls ls.length) = hiK ls (ls.length + 1) * (2 * secAt ls ls.length) := by rw [Int.mul_left_comm]
  rw [e1] at h1
  rw [e2] at h2
  refine ⟨(Int.le_ediv_iff_mul_le hd).2 h1, ?_, ?_⟩
  · unfold upZ
    exact Int.ediv_le_ediv hd (by omega)
  · unfold upZ
    have : (mnK ls ls.length + 2 * secAt ls ls.length - 1) / (2 * secAt ls ls.length) < hiK ls (ls.length + 1) + 1 := Int.ediv_lt_of_lt_mul hd (by rw [Int.add_mul]; omega)
    omega
theorem at_den {g2 : List Gs} {ms : List Dl} {σ : Nat} (H : okPl sf gs ls) (H2 : okPl sf g2 ms) (h0 : 0 < ls.length) (h02 : 0 < ms.length) (hS : secAt ms ms.length = secAt ls ls.length) (h1 : (σ : Int) ≤ secAt ls ls.length) : 1 ≤ (atR ls σ).2 * (atR ms σ).2 ∧ (atR ls σ).2 * (atR ms σ).2 ≤ 1000000000000 := by
  obtain ⟨⟨q1, q2⟩, _⟩ := atR_spec H h0 h1
  obtain ⟨⟨q3, q4⟩, _⟩ := atR_spec H2 h02 (σ := σ) (by omega)
  have h3 := mulB (a := (atR ls σ).2) (b := (atR ms σ).2) (A := 1000000) (B := 1000000) (by omega) (by omega)
  have h4 : 0 < (atR ls σ).2 * (atR ms σ).2 := Int.mul_pos (by omega) (by omega)
  omega
theorem sec_le (H : okPl sf gs ls) {j : Nat} (h : j ≤ ls.length) : secAt ls j ≤ secAt ls ls.length := by
  have := sec_up H.pos (i := j) ls.length h (Nat.le_refl _)
  omega
end
end Go.Proofs.Ytdmnejfpbbmcaaa
