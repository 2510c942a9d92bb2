/-
  Plain models of chapter 1: pressures, weights, cylinders, equivalent depths, with their errors. Conditions: none; no program in sight.
-/
import Derived.Test.YtibohfipgjljhaaDoorArgG
import Derived.Test.YtibohfipgjljhaaDoorShArr3
namespace Go.Proofs.YtibohfipgjljhaaDoor
theorem first2 (a b : Int) : firstE [a, b] = if a = 0 then b else a := by
  by_cases h : a = 0 <;> by_cases h2 : b = 0 <;> simp [firstE, h, h2]
theorem first3 (a b c : Int) : firstE [a, b, c] = if a = 0 then (if b = 0 then c else b) else a := by
  by_cases h : a = 0 <;> by_cases h2 : b = 0 <;> by_cases h3 : c = 0 <;> simp [firstE, h, h2, h3]
theorem first4 (a b c d : Int) : firstE [a, b, c, d] = if a = 0 then (if b = 0 then (if c = 0 then d else c) else b) else a := by
  by_cases h : a = 0 <;> by_cases h2 : b = 0 <;> by_cases h3 : c = 0 <;> by_cases h4 : d = 0 <;> simp [firstE, h, h2, h3, h4]
theorem first5 (a b c d f : Int) : firstE [a, b, c, d, f] = if a = 0 then (if b = 0 then (if c = 0 then (if d = 0 then f else d) else c) else b) else a := by
  by_cases h : a = 0 <;> by_cases h2 : b = 0 <;> by_cases h3 : c = 0 <;> by_cases h4 : d = 0 <;> by_cases h5 : f = 0 <;> simp [firstE, h, h2, h3, h4, h5]
section
variable {g : Gs} {p s d n lo hi : Int}
theorem plc_first (s d : Int) : firstE [if 400 ≤ s ∧ s ≤ 1100 then 0 else 2, if 0 ≤ d ∧ d ≤ 30000 then 0 else 2] = ckPlc s d := by
  rw [first2]; unfold ckPlc; (repeat' split) <;> omega
def parC (g : Gs) (p : Int) : Int := if ckGas g.o g.h = 0 then (if 0 ≤ p ∧ p ≤ 100000 then 0 else 2) else ckGas g.o g.h
theorem par_first (g : Gs) (p : Int) : firstE [ckGas g.o g.h, if 0 ≤ p ∧ p ≤ 100000 then 0 else 2] = parC g p := first2 _ _
theorem parC_ok (h : parC g p = 0) : ckGas g.o g.h = 0 ∧ 0 ≤ p ∧ p ≤ 100000 := by
  unfold parC at h
  by_cases h1 : ckGas g.o g.h = 0
  · rw [if_pos h1] at h
    exact ⟨h1, by omega⟩
  · rw [if_neg h1] at h; exact absurd h h1
def parK (g : Gs) (p : Int) (k : Nat) : List Int := [if 1 ≤ k then g.o * p else g.o, if 2 ≤ k then g.h * p else g.h, if 3 ≤ k then (1000 - g.o - g.h) * p else 1000 - g.o - g.h]
def parV (g : Gs) (p : Int) : List Int := [if parC g p = 0 then g.o * p else 0, if parC g p = 0 then g.h * p else 0, if parC g p = 0 then (1000 - g.o - g.h) * p else 0]
theorem parV_ok (h : parC g p = 0) : parV g p = [g.o * p, g.h * p, (1000 - g.o - g.h) * p] := by unfold parV; rw [if_pos h, if_pos h, if_pos h]
theorem parV_bad (h : parC g p ≠ 0) : parV g p = [0, 0, 0] := by unfold parV; rw [if_neg h, if_neg h, if_neg h]
theorem par_sum (g : Gs) (p : Int) : g.o * p + g.h * p + (1000 - g.o - g.h) * p = 1000 * p := by grind
theorem par_in (h : parC g p = 0) : (0 ≤ g.o * p ∧ g.o * p ≤ 100000000) ∧ (0 ≤ g.h * p ∧ g.h * p ≤ 100000000) ∧ (0 ≤ (1000 - g.o - g.h) * p ∧ (1000 - g.o - g.h) * p ≤ 100000000) := by
  obtain ⟨hg, h1, h2⟩ := parC_ok h
  have hk := ckGas_ok hg
  have hp : 0 ≤ p ∧ p ≤ 100000 := by omega
  exact ⟨mulB (A := 1000) (by omega) hp, mulB (A := 1000) (by omega) hp, mulB (A := 1000) (by omega) hp⟩
theorem wgt_in (hg : ckGas g.o g.h = 0) : 0 ≤ wgM g ∧ wgM g ≤ 1429000 := by
  have hk := ckGas_ok hg
  unfold wgM
  omega
/-- an error of one of two numbers -/
def hldC (sz p m : Int) : Int := if 1 ≤ sz ∧ sz ≤ 100000 then (if 0 ≤ p ∧ p ≤ m then 0 else 2) else 2
theorem hld_first (sz p m : Int) : firstE [if 1 ≤ sz ∧ sz ≤ 100000 then 0 else 2, if 0 ≤ p ∧ p ≤ m then 0 else 2] = hldC sz p m := by
  rw [first2]; unfold hldC; (repeat' split) <;> omega
theorem hldC_ok {sz p m : Int} (h : hldC sz p m = 0) : (1 ≤ sz ∧ sz ≤ 100000) ∧ 0 ≤ p ∧ p ≤ m := by
  unfold hldC at h; (repeat' split at h) <;> omega
theorem hldC_no {sz p m : Int} (h : hldC sz p m ≠ 0) : hldC sz p m = 2 ∧ ¬ ((1 ≤ sz ∧ sz ≤ 100000) ∧ 0 ≤ p ∧ p ≤ m) := by
  unfold hldC at *; (repeat' split at h) <;> (repeat' split) <;> omega
def posV (sz a : Int) : List Int := [if hldC sz a 1000000000 = 0 then 1000 * a / sz else 0, if hldC sz a 1000000000 = 0 then upZ (1000 * a) sz else 0]
theorem posV_ok {sz a : Int} (h : hldC sz a 1000000000 = 0) : posV sz a = [1000 * a / sz, upZ (1000 * a) sz] := by unfold posV; rw [if_pos h, if_pos h]
theorem posV_bad {sz a : Int} (h : hldC sz a 1000000000 ≠ 0) : posV sz a = [0, 0] := by unfold posV; rw [if_neg h, if_neg h]
theorem held_in {sz p : Int} (h : hldC sz p 400000 = 0) : 0 ≤ sz * p ∧ sz * p ≤ 40000000000 ∧ 0 ≤ sz * p / 1000 ∧ sz * p / 1000 ≤ 40000000 := by
  obtain ⟨h1, h2⟩ := hldC_ok h
  have h3 := mulB (A := 100000) (show 0 ≤ sz ∧ sz ≤ 100000 by omega) h2
  omega
/-- what is held has its pressure again -/
theorem held_back {sz p : Int} (h : hldC sz p 400000 = 0) : hldC sz (sz * p / 1000) 1000000000 = 0 ∧ 1000 * (sz * p / 1000) / sz ≤ p ∧ sz * (p - 1000 * (sz * p / 1000) / sz) < 1000 + sz ∧ 0 ≤ 1000 * (sz * p / 1000) / sz ∧ 0 ≤ sz * (p - 1000 * (sz * p / 1000) / sz) := by
  obtain ⟨h1, h2⟩ := hldC_ok h
  obtain ⟨h3, h4, h5, h6⟩ := held_in h
  have hq : hldC sz (sz * p / 1000) 1000000000 = 0 := by unfold hldC; rw [if_pos h1, if_pos (by omega)]
  generalize hn : sz * p / 1000 = n at *
  have hn1 : 1000 * n ≤ sz * p := by omega
  have hn2 : sz * p < 1000 * n + 1000 := by omega
  have d1 := Int.ediv_mul_le (1000 * n) (show sz ≠ 0 by omega)
  have d2 := Int.lt_ediv_add_one_mul_self (1000 * n) (show 0 < sz by omega)
  have d3 := Int.ediv_nonneg (show 0 ≤ 1000 * n by omega) (show 0 ≤ sz by omega)
  generalize 1000 * n / sz = q at *
  have e1 : (q + 1) * sz = q * sz + sz := by grind
  have e2 : sz * (p - q) = sz * p - q * sz := by grind
  have hle : q ≤ p := by
    rcases Int.lt_or_le p q with h9 | h9
    · exfalso
      have h8 : sz * p < q * sz := by
        have h7 : p * sz + sz ≤ q * sz := by
          have := Int.mul_le_mul_of_nonneg_right (show p + 1 ≤ q by omega) (show 0 ≤ sz by omega)
          have e3 : (p + 1) * sz = p * sz + sz := by grind
          omega
        have e4 : sz * p = p * sz := Int.mul_comm _ _
        omega
      omega
    · exact h9
  refine ⟨hq, hle, by omega, d3, by omega⟩
def wgtC (g : Gs) (p m : Int) : Int := if ckGas g.o g.h = 0 then (if 0 ≤ p ∧ p ≤ m then 0 else 2) else ckGas g.o g.h
theorem wgtC_ok {m : Int} (h : wgtC g p m = 0) : ckGas g.o g.h = 0 ∧ 0 ≤ p ∧ p ≤ m := by
  unfold wgtC at h
  by_cases h1 : ckGas g.o g.h = 0
  · rw [if_pos h1] at h
    exact ⟨h1, by omega⟩
  · rw [if_neg h1] at h; exact absurd h h1
def denV (g : Gs) (p m : Int) : List Int := [if wgtC g p m = 0 then wgM g * p / 1013000 else 0, if wgtC g p m = 0 then upZ (wgM g * p) 1013000 else 0]
theorem denV_ok {m : Int} (h : wgtC g p m = 0) : denV g p m = [wgM g * p / 1013000, upZ (wgM g * p) 1013000] := by unfold denV; rw [if_pos h, if_pos h]
theorem denV_bad {m : Int} (h : wgtC g p m ≠ 0) : denV g p m = [0, 0] := by unfold denV; rw [if_neg h, if_neg h]
theorem den_in {m : Int} (h : wgtC g p m = 0) (hm : m ≤ 1000000000) : 0 ≤ wgM g * p ∧ wgM g * p ≤ 1429000000000000 := by
  obtain ⟨hg, h1, h2⟩ := wgtC_ok h
  have hk := wgt_in hg
  exact mulB (A := 1429000) (by omega) (show 0 ≤ p ∧ p ≤ 1000000000 by omega)
end
end Go.Proofs.YtibohfipgjljhaaDoor
