/-
  Plain models of chapter 1: the best gas for an aim, and the depths for a gas. Conditions: none; no program in sight.
-/
import Derived.Test.YtibohfipgjljhaaDoorXp3
namespace Go.Proofs.YtibohfipgjljhaaDoor
structure Aim where
  su : Int
  de : Int
  le : Int
  mo : Int
  na : Int
structure okAim (a : Aim) : Prop where
  su : 400 ≤ a.su ∧ a.su ≤ 1100
  de : 0 ≤ a.de ∧ a.de ≤ 30000
  l : 1 ≤ a.le ∧ a.le ≤ a.mo ∧ a.mo ≤ 4000
  na : 0 ≤ a.na ∧ a.na ≤ 30000
def ckPlc (s d : Int) : Int := if 400 ≤ s ∧ s ≤ 1100 then (if 0 ≤ d ∧ d ≤ 30000 then 0 else 2) else 2
def ckAim (a : Aim) : Int := if ckPlc a.su a.de ≠ 0 then ckPlc a.su a.de else if ckLim a.le a.mo ≠ 0 then ckLim a.le a.mo else if 0 ≤ a.na ∧ a.na ≤ 30000 then 0 else 2
theorem ckPlc_ok {s d : Int} (h : ckPlc s d = 0) : (400 ≤ s ∧ s ≤ 1100) ∧ 0 ≤ d ∧ d ≤ 30000 := by
  unfold ckPlc at h
  by_cases h1 : 400 ≤ s ∧ s ≤ 1100
  · rw [if_pos h1] at h
    by_cases h2 : 0 ≤ d ∧ d ≤ 30000
    · exact ⟨h1, h2⟩
    · rw [if_neg h2] at h; exact absurd h (by decide)
  · rw [if_neg h1] at h; exact absurd h (by decide)
theorem ckAim_1 {a : Aim} (h : ckPlc a.su a.de ≠ 0) : ckAim a = ckPlc a.su a.de := if_pos h
theorem ckAim_2 {a : Aim} (h : ckPlc a.su a.de = 0) (h2 : ckLim a.le a.mo ≠ 0) : ckAim a = ckLim a.le a.mo := by unfold ckAim; rw [if_neg (fun hh => hh h), if_pos h2]
theorem ckAim_3 {a : Aim} (h : ckPlc a.su a.de = 0) (h2 : ckLim a.le a.mo = 0) : ckAim a = if 0 ≤ a.na ∧ a.na ≤ 30000 then 0 else 2 := by unfold ckAim; rw [if_neg (fun hh => hh h), if_neg (fun hh => hh h2)]
theorem ckAim_ok {a : Aim} (h : ckAim a = 0) : okAim a := by
  by_cases h1 : ckPlc a.su a.de = 0
  · by_cases h2 : ckLim a.le a.mo = 0
    · rw [ckAim_3 h1 h2] at h
      by_cases h4 : 0 ≤ a.na ∧ a.na ≤ 30000
      · exact ⟨(ckPlc_ok h1).1, (ckPlc_ok h1).2, ckLim_ok h2, h4⟩
      · rw [if_neg h4] at h; exact absurd h (by decide)
    · rw [ckAim_2 h1 h2] at h; exact absurd h h2
  · rw [ckAim_1 h1] at h; exact absurd h h1
def clrP (a : Aim) (h : Int) : Prop := (1000 - h) * (a.su + a.de) ≤ 1000 * (a.na + a.su)
instance (a : Aim) (h : Int) : Decidable (clrP a h) := by unfold clrP; infer_instance
def hB (a : Aim) : Nat := firstB (fun h => decide (clrP a (h : Int))) 1000
def oB (a : Aim) : Int := min (1000 - (hB a : Int)) (1000 * a.mo / (a.su + a.de))
def meetP (a : Aim) (o h : Int) : Prop := (1000 * a.le ≤ o * (a.su + a.de) ∧ o * (a.su + a.de) ≤ 1000 * a.mo) ∧ clrP a h
instance (a : Aim) (o h : Int) : Decidable (meetP a o h) := by unfold meetP; infer_instance
theorem clr_top {a : Aim} (H : okAim a) : clrP a 1000 := by
  have h1 := H.su; have h2 := H.na
  unfold clrP
  rw [show (1000 : Int) - 1000 = 0 from rfl, Int.zero_mul]
  omega
theorem hB_at {a : Aim} {k : Nat} (hk : k ≤ 1000) (h0 : ∀ i : Nat, i < k → ¬ clrP a (i : Int)) (h1 : clrP a (k : Int) ) : hB a = k := by
  have hs := firstB_spec (fun h : Nat => decide (clrP a (h : Int))) 1000
  have hl := firstB_le (fun h : Nat => decide (clrP a (h : Int))) 1000
  unfold hB
  generalize firstB (fun h : Nat => decide (clrP a (h : Int))) 1000 = m at *
  rcases Nat.lt_trichotomy m k with h | h | h
  · have := hs.2 (by omega)
    exact absurd (of_decide_eq_true this) (h0 m h)
  · exact h
  · have := hs.1 k h
    exact absurd h1 (of_decide_eq_false this)
theorem hB_in (a : Aim) : hB a ≤ 1000 := firstB_le _ _
theorem prod_in {a : Aim} (H : okAim a) {x : Int} (h : 0 ≤ x ∧ x ≤ 1000) : 0 ≤ x * (a.su + a.de) ∧ x * (a.su + a.de) ≤ 31100000 := by
  have h1 := H.su; have h2 := H.de
  have := mulB (a := x) (b := a.su + a.de) (A := 1000) (B := 31100) h (by omega)
  omega
theorem oB_in {a : Aim} (H : okAim a) : 0 ≤ oB a ∧ oB a ≤ 1000 - (hB a : Int) := by
  have h1 := H.su; have h2 := H.de; have h3 := H.l; have h4 := hB_in a
  have := Int.ediv_nonneg (show 0 ≤ 1000 * a.mo by omega) (show 0 ≤ a.su + a.de by omega)
  unfold oB
  omega
/-- the depths at which a gas may be breathed -/
def dfR (o su le mo : Int) : Rg := if o = 0 then ⟨1, 0⟩ else ⟨max 0 (upZ (1000 * le) o - su), min 30000 (1000 * mo / o - su)⟩
theorem df_meet {a : Aim} (H : okAim a) {o h : Int} (ho : 0 ≤ o ∧ o ≤ 1000) (hm : meetP a o h) : o ≠ 0 ∧ (dfR o a.su a.le a.mo).lo ≤ a.de ∧ a.de ≤ (dfR o a.su a.le a.mo).hi := by
  obtain ⟨⟨m1, m2⟩, _⟩ := hm
  have h1 := H.su; have h2 := H.de; have h3 := H.l
  have h0 : o ≠ 0 := by
    rintro rfl
    rw [Int.zero_mul] at m1
    omega
  refine ⟨h0, ?_⟩
  unfold dfR
  rw [if_neg h0]
  have hu : upZ (1000 * a.le) o ≤ a.su + a.de := by
    unfold upZ
    have : (1000 * a.le + o - 1) / o < a.su + a.de + 1 := Int.ediv_lt_of_lt_mul (by omega) (by
      rw [Int.add_mul, Int.mul_comm (a.su + a.de)]
      omega)
    omega
  have hd : a.su + a.de ≤ 1000 * a.mo / o := Int.le_ediv_of_mul_le (by omega) (by rw [Int.mul_comm]; exact m2)
  show max 0 (upZ (1000 * a.le) o - a.su) ≤ a.de ∧ a.de ≤ min 30000 (1000 * a.mo / o - a.su)
  omega
theorem nar_meet {a : Aim} (H : okAim a) {o : Int} {h : Int} (hh : 0 ≤ h ∧ h ≤ 1000) (hc : clrP a h) : (narM ⟨o, h⟩ a.su a.de).hi ≤ a.na := by
  have h1 := H.su; have h2 := H.na
  unfold clrP at hc
  show max 0 (upZ ((1000 - h) * (a.su + a.de)) 1000 - a.su) ≤ a.na
  have hu : upZ ((1000 - h) * (a.su + a.de)) 1000 ≤ a.na + a.su := by
    unfold upZ
    omega
  omega
theorem df_in {o su le mo : Int} (ho : 0 ≤ o ∧ o ≤ 1000) (hs : 400 ≤ su ∧ su ≤ 1100) (hl : 1 ≤ le ∧ le ≤ mo ∧ mo ≤ 4000) (h0 : o ≠ 0) : (0 ≤ upZ (1000 * le) o ∧ upZ (1000 * le) o ≤ 4001000) ∧ 0 ≤ 1000 * mo / o ∧ 1000 * mo / o ≤ 4000000 := by
  have h1 := Int.ediv_nonneg (show 0 ≤ 1000 * mo by omega) (show 0 ≤ o by omega)
  have h2 := Int.ediv_le_self o (show 0 ≤ 1000 * mo by omega)
  have h3 := Int.ediv_nonneg (show 0 ≤ 1000 * le + o - 1 by omega) (show 0 ≤ o by omega)
  have h4 := Int.ediv_le_self o (show 0 ≤ 1000 * le + o - 1 by omega)
  unfold upZ
  omega
def bsE (a : Aim) : Int × Int × Int := if meetP a (oB a) (hB a) then (oB a, (hB a : Int), 0) else (0, 0, 12)
theorem bsE_1 {a : Aim} (h : meetP a (oB a) (hB a)) : bsE a = (oB a, (hB a : Int), 0) := if_pos h
theorem bsE_2 {a : Aim} (h : ¬ meetP a (oB a) (hB a)) : bsE a = (0, 0, 12) := if_neg h
theorem not_meet {a : Aim} (H : okAim a) {h : Int} : ¬ meetP a 0 h := by
  rintro ⟨⟨m1, _⟩, _⟩
  have := H.l
  rw [Int.zero_mul] at m1
  omega
end Go.Proofs.YtibohfipgjljhaaDoor
