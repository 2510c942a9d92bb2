/-
  What the arguments of chapter 1 read as: limits, a gas with limits at a surface, parts of a mixture. Conditions: those in front of each theorem.
-/
import Derived.Test.YtibohfipgjljhaaDoorGa
import Derived.Test.YtibohfipgjljhaaDoorKE
import Derived.Test.YtibohfipgjljhaaDoorArgP
namespace Go.Proofs.YtibohfipgjljhaaDoor
def cAr (g : Gs) (su lo hi : Int) : List Value := [.int .i64 g.o, .int .i64 g.h, .int .i64 su, .int .i64 lo, .int .i64 hi]
section
variable {g : Gs} {s d su lo hi c n b : Int}
def plaC (g : Gs) (s d : Int) : Int := if ckGas g.o g.h = 0 then ckPlc s d else ckGas g.o g.h
theorem pla_first (g : Gs) (s d : Int) : firstE [ckGas g.o g.h, if 400 ≤ s ∧ s ≤ 1100 then 0 else 2, if 0 ≤ d ∧ d ≤ 30000 then 0 else 2] = plaC g s d := by
  rw [first3]; unfold plaC ckPlc; (repeat' split) <;> omega
theorem plaC_ok (h : plaC g s d = 0) : ckGas g.o g.h = 0 ∧ (400 ≤ s ∧ s ≤ 1100) ∧ 0 ≤ d ∧ d ≤ 30000 := by
  unfold plaC at h
  by_cases h1 : ckGas g.o g.h = 0
  · rw [if_pos h1] at h
    have := ckPlc_ok h
    exact ⟨h1, this⟩
  · rw [if_neg h1] at h; exact absurd h h1
theorem plaC_bad (h : ckGas g.o g.h ≠ 0) : plaC g s d = ckGas g.o g.h := if_neg h
theorem plaC_good (h : ckGas g.o g.h = 0) : plaC g s d = ckPlc s d := if_pos h
/-- the error of depths for a gas, but for none -/
def depC (g : Gs) (su lo hi : Int) : Int := if ckGas g.o g.h = 0 then (if 400 ≤ su ∧ su ≤ 1100 then ckLim lo hi else 2) else ckGas g.o g.h
theorem dep_first (g : Gs) (su lo hi : Int) : firstE [ckGas g.o g.h, if 400 ≤ su ∧ su ≤ 1100 then 0 else 2, ckLim lo hi] = depC g su lo hi := by
  rw [first3]; unfold depC; (repeat' split) <;> omega
theorem depC_ok (h : depC g su lo hi = 0) : ckGas g.o g.h = 0 ∧ (400 ≤ su ∧ su ≤ 1100) ∧ 1 ≤ lo ∧ lo ≤ hi ∧ hi ≤ 4000 := by
  unfold depC at h
  by_cases h1 : ckGas g.o g.h = 0
  · rw [if_pos h1] at h
    by_cases h2 : 400 ≤ su ∧ su ≤ 1100
    · rw [if_pos h2] at h
      exact ⟨h1, h2, ckLim_ok h⟩
    · rw [if_neg h2] at h; exact absurd h (by decide)
  · rw [if_neg h1] at h; exact absurd h h1
theorem depC_mk (h : ckGas g.o g.h = 0) (h2 : 400 ≤ su ∧ su ≤ 1100) (h3 : ckLim lo hi = 0) : depC g su lo hi = 0 := by unfold depC; rw [if_pos h, if_pos h2, h3]
def depE (g : Gs) (su lo hi : Int) : Int := if depC g su lo hi = 0 then (if (dfR g.o su lo hi).lo > (dfR g.o su lo hi).hi then 12 else 0) else depC g su lo hi
def depV (g : Gs) (su lo hi : Int) : List Int := [if depE g su lo hi = 0 then (dfR g.o su lo hi).lo else 0, if depE g su lo hi = 0 then (dfR g.o su lo hi).hi else 0]
theorem dep_bad (h : depC g su lo hi ≠ 0) : depE g su lo hi = depC g su lo hi ∧ depV g su lo hi = [0, 0] := by
  have h1 : depE g su lo hi = depC g su lo hi := if_neg h
  refine ⟨h1, ?_⟩
  unfold depV
  rw [h1, if_neg h, if_neg h]
theorem dep_none (h : depC g su lo hi = 0) (h2 : (dfR g.o su lo hi).lo > (dfR g.o su lo hi).hi) : depE g su lo hi = 12 ∧ depV g su lo hi = [0, 0] := by
  have h1 : depE g su lo hi = 12 := by unfold depE; rw [if_pos h, if_pos h2]
  refine ⟨h1, ?_⟩
  unfold depV
  rw [h1, if_neg (by decide), if_neg (by decide)]
theorem dep_ok (h : depC g su lo hi = 0) (h2 : ¬ (dfR g.o su lo hi).lo > (dfR g.o su lo hi).hi) : depE g su lo hi = 0 ∧ depV g su lo hi = [(dfR g.o su lo hi).lo, (dfR g.o su lo hi).hi] := by
  have h1 : depE g su lo hi = 0 := by unfold depE; rw [if_pos h, if_neg h2]
  refine ⟨h1, ?_⟩
  unfold depV
  rw [h1, if_pos rfl, if_pos rfl]
def rfV (g : Gs) (su lo hi : Int) : List Int := [if g.o = 0 then 0 else (dfR g.o su lo hi).lo, if g.o = 0 then 0 else (dfR g.o su lo hi).hi]
theorem rfV_0 (h : g.o = 0) : rfV g su lo hi = [0, 0] := by unfold rfV; rw [if_pos h, if_pos h]
theorem rfV_1 (h : g.o ≠ 0) : rfV g su lo hi = [(dfR g.o su lo hi).lo, (dfR g.o su lo hi).hi] := by unfold rfV; rw [if_neg h, if_neg h]
theorem df_0 (h : g.o = 0) : ¬ (dfR g.o su lo hi).lo ≤ (dfR g.o su lo hi).hi := by unfold dfR; rw [if_pos h]; decide
theorem df_1 (h : g.o ≠ 0) : dfR g.o su lo hi = ⟨max 0 (upZ (1000 * lo) g.o - su), min 30000 (1000 * hi / g.o - su)⟩ := if_neg h
/-- where a gas may be breathed -/
theorem df_iff (h : depC g su lo hi = 0) (hd : 0 ≤ d ∧ d ≤ 30000) : ((dfR g.o su lo hi).lo ≤ d ∧ d ≤ (dfR g.o su lo hi).hi) ↔ (1000 * lo ≤ g.o * (su + d) ∧ g.o * (su + d) ≤ 1000 * hi) := by
  obtain ⟨h1, h2, h3, h4, h5⟩ := depC_ok h
  have hk := ckGas_ok h1
  by_cases h0 : g.o = 0
  · have := df_0 (su := su) (lo := lo) (hi := hi) h0
    rw [h0] at this ⊢
    rw [Int.zero_mul]
    constructor
    · intro hh; exact absurd (Int.le_trans hh.1 hh.2) this
    · intro hh; omega
  · rw [df_1 h0]
    dsimp only
    have ho : 0 < g.o := by omega
    have e1 : upZ (1000 * lo) g.o ≤ su + d ↔ 1000 * lo ≤ g.o * (su + d) := by
      have hu : ∀ x : Int, upZ (1000 * lo) g.o ≤ x ↔ 1000 * lo ≤ g.o * x := fun x => by
        unfold upZ
        rw [Int.ediv_le_iff_le_mul ho, Int.mul_comm x g.o]
        omega
      exact hu _
    have e2 : su + d ≤ 1000 * hi / g.o ↔ g.o * (su + d) ≤ 1000 * hi := by
      rw [Int.le_ediv_iff_mul_le ho, Int.mul_comm]
    omega
/-- equivalent depths -/
def eqV (c n b s : Int) : List Int := [if c = 0 then max 0 (n / b - s) else 0, if c = 0 then max 0 (upZ n b - s) else 0]
theorem eqV_ok (h : c = 0) : eqV c n b s = [max 0 (n / b - s), max 0 (upZ n b - s)] := by unfold eqV; rw [if_pos h, if_pos h]
theorem eqV_bad (h : c ≠ 0) : eqV c n b s = [0, 0] := by unfold eqV; rw [if_neg h, if_neg h]
theorem air_in (h : plaC g s d = 0) : (0 ≤ (1000 - g.o - g.h) * (s + d) ∧ (1000 - g.o - g.h) * (s + d) ≤ 31100000) ∧ (0 ≤ (1000 - g.h) * (s + d) ∧ (1000 - g.h) * (s + d) ≤ 31100000 ∧ (1000 - g.h) * (s + d) ≤ 1000 * (s + d)) := by
  obtain ⟨h1, h2, h3⟩ := plaC_ok h
  have hk := ckGas_ok h1
  have hp : 0 ≤ s + d ∧ s + d ≤ 31100 := by omega
  have a1 := mulB (a := 1000 - g.o - g.h) (A := 1000) (by omega) hp
  have a2 := mulB (a := 1000 - g.h) (A := 1000) (by omega) hp
  have a3 := Int.mul_le_mul_of_nonneg_right (show 1000 - g.h ≤ 1000 by omega) (show 0 ≤ s + d by omega)
  omega
/-- air at the ends of the equivalent air depth; a narcotic depth is no greater than the depth -/
theorem same_facts (h : plaC g s d = 0) {al ah nl nh : Int} (hal : al = max 0 ((1000 - g.o - g.h) * (s + d) / 790 - s)) (hah : ah = max 0 (upZ ((1000 - g.o - g.h) * (s + d)) 790 - s)) (hnl : nl = max 0 ((1000 - g.h) * (s + d) / 1000 - s)) (hnh : nh = max 0 (upZ ((1000 - g.h) * (s + d)) 1000 - s)) :
    (0 ≤ al ∧ al ≤ ah) ∧ ah ≤ 50000 ∧ (0 ≤ nl ∧ nl ≤ nh) ∧ nh ≤ d ∧ (al = 0 ∨ 790 * (s + al) ≤ (1000 - g.o - g.h) * (s + d)) ∧ (1000 - g.o - g.h) * (s + d) ≤ 790 * (s + ah) := by
  obtain ⟨h1, h2, h3⟩ := plaC_ok h
  have ha := air_in h
  generalize (1000 - g.o - g.h) * (s + d) = n at *
  generalize (1000 - g.h) * (s + d) = m at *
  unfold upZ at *
  omega
theorem air_par {p : Int} (h : 0 ≤ p ∧ p ≤ 100000) : parC ⟨210, 0⟩ p = 0 := by unfold parC; rw [if_pos (by decide), if_pos h]
end
end Go.Proofs.YtibohfipgjljhaaDoor
namespace Go.Proofs.YtibohfipgjljhaaDoor
open Go.RowKit

end Go.Proofs.YtibohfipgjljhaaDoor
namespace Go.Proofs.YtibohfipgjljhaaDoor
open Go.RowKit
variable {P : Program} {W : World} {t e : TypeId}
theorem opn_air (h : IT P t 5) : Opn P W t (fun cs => ∃ (g : Gs) (su lo hi : Int), (i64 g.o ∧ i64 g.h ∧ i64 su ∧ i64 lo ∧ i64 hi) ∧ cs = cAr g su lo hi) := (h W).mono fun cs ⟨xs, hl, hq, hc⟩ => by
  match xs, hl with
  | [a, b, c, d, f], _ => exact ⟨⟨a, b⟩, c, d, f, ⟨hq a (by simp), hq b (by simp), hq c (by simp), hq d (by simp), hq f (by simp)⟩, hc⟩
theorem opn_gp (h : IT P t 3) : Opn P W t (fun cs => ∃ c : Gp, (i64 c.o ∧ i64 c.h ∧ i64 c.a) ∧ cs = cGp c) := (h W).mono fun cs ⟨xs, hl, hq, hc⟩ => by
  match xs, hl with
  | [a, b, c], _ => exact ⟨⟨a, b, c⟩, ⟨hq a (by simp), hq b (by simp), hq c (by simp)⟩, hc⟩
theorem opn_gps (ht : P.underlying t = some (.slice e)) (hk : P.cellsOf e = 3) (h : IT P e 3) : Opn P W t (fun cs => ∃ (v : Value) (ls : List Gp), cs = [v] ∧ Rdd W v 3 (ls.map cGp) ∧ ∀ c ∈ ls, i64 c.o ∧ i64 c.h ∧ i64 c.a) := opn_list cGp ht hk (by decide) (opn_gp h)
end Go.Proofs.YtibohfipgjljhaaDoor
