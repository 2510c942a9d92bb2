/-
  A way that the loads really take, second by second, and that it lies in the enclosures: steps and legs. Conditions: none; no program in sight.
-/
import Derived.Test.YtfhfadfnbnliiaaMod5
namespace Go.Proofs.Ytfhfadfnbnliiaa

/-! ### A number just below the root of one half -/
structure Rt (h : Nat) (r η : Rat) : Prop where
  r0 : 0 ≤ r
  e0 : 0 ≤ η
  r1 : r + η ≤ 1
  lo : r ^ h * 2 ≤ 1
  hi : 1 ≤ (r + η) ^ h * 2
theorem half_root {h N : Nat} (hN : 1 ≤ N) : ∃ m : Nat, m < N ∧ 2 * m ^ h ≤ N ^ h + 1 ∧ (1 ≤ h → 2 * m ^ h ≤ N ^ h) ∧ N ^ h ≤ 2 * (m + 1) ^ h := by
  by_cases hh : h = 0
  · subst hh; exact ⟨0, by omega, by simp, by omega, by simp⟩
  have hp : 1 ≤ N ^ h := Nat.one_le_pow _ _ (by omega)
  have key : ∀ k, k ≤ N → (∃ m : Nat, m < N ∧ 2 * m ^ h ≤ N ^ h ∧ N ^ h ≤ 2 * (m + 1) ^ h) ∨ 2 * k ^ h ≤ N ^ h := by
    intro k
    induction k with
    | zero => intro _; right; rw [Nat.zero_pow (by omega)]; omega
    | succ k ih =>
      intro hk
      rcases ih (by omega) with h1 | h1
      · exact .inl h1
      · by_cases h2 : 2 * (k + 1) ^ h ≤ N ^ h
        · exact .inr h2
        · exact .inl ⟨k, by omega, h1, by omega⟩
  rcases key N (Nat.le_refl _) with ⟨m, h1, h2, h3⟩ | h1
  · exact ⟨m, h1, by omega, fun _ => h2, h3⟩
  · omega
theorem rt_ex (h : Nat) (hh : 1 ≤ h) (N : Nat) (hN : 1 ≤ N) : ∃ r η : Rat, Rt h r η ∧ η * (N : Rat) = 1 := by
  obtain ⟨m, h1, _, h2, h3⟩ := half_root (h := h) hN
  have h2 := h2 hh
  have hN0 : (0 : Rat) < (N : Rat) := Rat.natCast_pos.2 (by omega)
  have hne : (N : Rat) ≠ 0 := (Rat.ne_of_lt hN0).symm
  have e1 : (m : Rat) / (N : Rat) * N = m := Rat.div_mul_cancel hne
  have e2 : (1 : Rat) / (N : Rat) * N = 1 := Rat.div_mul_cancel hne
  have hP : (0 : Rat) < (N : Rat) ^ h := Rat.pow_pos hN0
  have c2 : 2 * (m : Rat) ^ h ≤ (N : Rat) ^ h := by
    have := Rat.natCast_le_natCast.2 h2
    rw [Rat.natCast_mul, Rat.natCast_pow, Rat.natCast_pow] at this
    exact this
  have c3 : (N : Rat) ^ h ≤ 2 * ((m : Rat) + 1) ^ h := by
    have := Rat.natCast_le_natCast.2 h3
    rw [Rat.natCast_mul, Rat.natCast_pow, Rat.natCast_pow, Rat.natCast_add] at this
    exact this
  have c4 : (m : Rat) + 1 ≤ (N : Rat) := by
    have := Rat.natCast_le_natCast.2 (show m + 1 ≤ N by omega)
    rw [Rat.natCast_add] at this
    exact this
  refine ⟨(m : Rat) / N, 1 / N, ⟨?_, ?_, ?_, ?_, ?_⟩, e2⟩
  · exact Rat.le_of_mul_le_mul_right (c := (N : Rat)) (by rw [e1, Rat.zero_mul]; exact Rat.natCast_nonneg) hN0
  · exact Rat.le_of_mul_le_mul_right (c := (N : Rat)) (by rw [e2, Rat.zero_mul]; grind) hN0
  · exact Rat.le_of_mul_le_mul_right (c := (N : Rat)) (by rw [Rat.add_mul, e1, e2, Rat.one_mul]; exact c4) hN0
  · refine Rat.le_of_mul_le_mul_right (c := (N : Rat) ^ h) ?_ hP
    have : ((m : Rat) / N) ^ h * (N : Rat) ^ h = (m : Rat) ^ h := by rw [← mul_rpow, e1]
    grind
  · refine Rat.le_of_mul_le_mul_right (c := (N : Rat) ^ h) ?_ hP
    have : ((m : Rat) / N + 1 / N) ^ h * (N : Rat) ^ h = ((m : Rat) + 1) ^ h := by rw [← mul_rpow, Rat.add_mul, e1, e2]
    grind

section
variable {h s : Nat} {r η : Rat} {d : Rg}
theorem Rt.rle (H : Rt h r η) : r ≤ 1 := by have := H.r1; have := H.e0; grind
theorem pow_le1 {x : Rat} (h0 : 0 ≤ x) (h1 : x ≤ 1) (n : Nat) : x ^ n ≤ 1 := by
  have := rpow_le h0 h1 n
  rwa [one_rpow] at this
theorem pow_anti {x : Rat} (h0 : 0 ≤ x) (h1 : x ≤ 1) {m n : Nat} (hmn : m ≤ n) : x ^ n ≤ x ^ m := by
  rw [show n = m + (n - m) by omega, rpow_add]
  have h2 := pow_le1 h0 h1 (n - m)
  have h3 : (0 : Rat) ≤ x ^ m := Rat.pow_nonneg h0
  have := Rat.mul_le_mul_of_nonneg_left h2 h3
  grind
theorem Rt.up (H : Rt h r η) : ∀ n : Nat, (r + η) ^ n ≤ r ^ n + (n : Rat) * η
  | 0 => by rw [Rat.pow_zero, Rat.pow_zero]; have : ((0 : Nat) : Rat) = 0 := rfl; grind
  | n + 1 => by
    have ih := H.up n
    have h0 := H.r0
    have h1 := H.r1
    have h2 := H.e0
    have hc : ((n + 1 : Nat) : Rat) = (n : Rat) + 1 := Rat.natCast_add n 1
    rw [Rat.pow_succ, Rat.pow_succ, hc]
    have h3 : (r + η) ^ n * (r + η) ≤ (r ^ n + (n : Rat) * η) * (r + η) := Rat.mul_le_mul_of_nonneg_right ih (by grind)
    have h4 : r ^ n * η ≤ 1 * η := Rat.mul_le_mul_of_nonneg_right (pow_le1 h0 H.rle n) h2
    have h5 : ((n : Rat) * η) * (r + η) ≤ ((n : Rat) * η) * 1 := Rat.mul_le_mul_of_nonneg_left h1 (Rat.mul_nonneg Rat.natCast_nonneg h2)
    grind
theorem Rt.dlo (H : Rt h r η) (hh : 1 ≤ h) (hd : Enc d h s) (_ : inD d) : fr d.lo ≤ r ^ s + (s : Rat) * η := by
  have h0 := H.r0
  have h2 := H.e0
  refine Rat.le_trans (rroot_le (n := h) hh (Rat.pow_nonneg (by grind)) ?_) (H.up s)
  have h3 : (1 : Rat) ≤ ((r + η) ^ s) ^ h * 2 ^ s := by
    rw [← rpow_mul, Nat.mul_comm, rpow_mul, ← mul_rpow]
    have := rpow_le (x := 1) (y := (r + η) ^ h * 2) (by decide) H.hi s
    rwa [one_rpow] at this
  have t := two_rpow_ge s
  exact Rat.le_of_mul_le_mul_right (Rat.le_trans hd.1 h3) (show (0 : Rat) < 2 ^ s by grind)
theorem Rt.dhi (H : Rt h r η) (hh : 1 ≤ h) (hd : Enc d h s) (hin : inD d) : r ^ s ≤ fr d.hi := by
  refine rroot_le (n := h) hh (fr_nn hin.c) ?_
  have h3 : (r ^ s) ^ h * 2 ^ s ≤ 1 := by
    rw [← rpow_mul, Nat.mul_comm, rpow_mul, ← mul_rpow]
    have := rpow_le (x := r ^ h * 2) (y := 1) (Rat.mul_nonneg (Rat.pow_nonneg H.r0) (by decide)) H.lo s
    rwa [one_rpow] at this
  have t := two_rpow_ge s
  exact Rat.le_of_mul_le_mul_right (Rat.le_trans h3 hd.2) (show (0 : Rat) < 2 ^ s by grind)

/-! ### The way -/
def traj (q : Nat → Rat) (r x0 : Rat) : Nat → Rat
  | 0 => x0
  | t + 1 => q t + (traj q r x0 t - q t) * r
variable {q : Nat → Rat} {x0 : Rat} {t0 : Nat}
theorem traj_ge (h0 : 0 ≤ r) (h1 : r ≤ 1) {a : Rat} : ∀ n : Nat, (∀ t, t0 ≤ t → t < t0 + n → a ≤ q t) → a + (traj q r x0 t0 - a) * r ^ n ≤ traj q r x0 (t0 + n)
  | 0, _ => by rw [Rat.pow_zero, Nat.add_zero]; grind
  | n + 1, hq => by
    have ih := traj_ge h0 h1 n (fun t ht hlt => hq t ht (by omega))
    have h2 := hq (t0 + n) (by omega) (by omega)
    rw [← Nat.add_assoc, Rat.pow_succ]
    show _ ≤ q (t0 + n) + (traj q r x0 (t0 + n) - q (t0 + n)) * r
    have h3 : (a + (traj q r x0 t0 - a) * r ^ n) * r ≤ traj q r x0 (t0 + n) * r := Rat.mul_le_mul_of_nonneg_right ih h0
    have h4 : a * (1 - r) ≤ q (t0 + n) * (1 - r) := Rat.mul_le_mul_of_nonneg_right h2 (by grind)
    grind
theorem traj_le (h0 : 0 ≤ r) (h1 : r ≤ 1) {b : Rat} : ∀ n : Nat, (∀ t, t0 ≤ t → t < t0 + n → q t ≤ b) → traj q r x0 (t0 + n) ≤ b + (traj q r x0 t0 - b) * r ^ n
  | 0, _ => by rw [Rat.pow_zero, Nat.add_zero]; grind
  | n + 1, hq => by
    have ih := traj_le h0 h1 n (fun t ht hlt => hq t ht (by omega))
    have h2 := hq (t0 + n) (by omega) (by omega)
    rw [← Nat.add_assoc, Rat.pow_succ]
    show q (t0 + n) + (traj q r x0 (t0 + n) - q (t0 + n)) * r ≤ _
    have h3 : traj q r x0 (t0 + n) * r ≤ (b + (traj q r x0 t0 - b) * r ^ n) * r := Rat.mul_le_mul_of_nonneg_right ih h0
    have h4 : q (t0 + n) * (1 - r) ≤ b * (1 - r) := Rat.mul_le_mul_of_nonneg_right h2 (by grind)
    grind

/-! ### One step -/
def MX : Rat := 100000000
theorem cst {a b : Int} : ((a - b : Int) : Rat) = (a : Rat) - (b : Rat) := Rat.intCast_sub a b
theorem le_MX {a : Int} (h : a ≤ 100000000) : (a : Rat) ≤ MX := cle h
theorem c_nn {a : Int} (h : 0 ≤ a) : (0 : Rat) ≤ (a : Rat) := cle h
theorem quo_le {x d : Int} : ((x * d / 1000000000 : Int) : Rat) ≤ (x : Rat) * fr d := by
  have h1 := fr_mul d
  have h3 := quo_down (m := x * d) (b := 1000000000) (by decide)
  rw [Rat.intCast_mul, ← h1] at h3
  have h4 : ((1000000000 : Int) : Rat) = 1000000000 := rfl
  rw [h4] at h3
  grind
theorem quo_ge {x d : Int} : (x : Rat) * fr d ≤ ((upZ (x * d) 1000000000 : Int) : Rat) := by
  have h1 := fr_mul d
  have h3 := quo_up (m := x * d) (b := 1000000000) (by decide)
  rw [Rat.intCast_mul, ← h1] at h3
  have h4 : ((1000000000 : Int) : Rat) = 1000000000 := rfl
  rw [h4] at h3
  grind
variable {l : Rg} {a b : Int} {ε : Rat}
theorem near_lo (H : Rt h r η) (hh : 1 ≤ h) (hd : Enc d h s) (hin : inD d) (hl : inX l) (ha : 0 ≤ a ∧ a ≤ 100000000) (he : 0 ≤ ε) (hq : ∀ t, t0 ≤ t → t < t0 + s → (a : Rat) ≤ q t)
    (hx : (l.lo : Rat) ≤ traj q r x0 t0 + ε) : ((nearM l a b d).lo : Rat) ≤ traj q r x0 (t0 + s) + (ε + MX * ((s : Rat) * η)) := by
  have g1 := traj_ge (x0 := x0) H.r0 H.rle s hq
  have p0 : (0 : Rat) ≤ r ^ s := Rat.pow_nonneg H.r0
  have p1 := pow_le1 H.r0 H.rle s
  have u0 : (0 : Rat) ≤ (s : Rat) * η := Rat.mul_nonneg Rat.natCast_nonneg H.e0
  have u1 : (0 : Rat) ≤ MX * ((s : Rat) * η) := Rat.mul_nonneg (by unfold MX; decide) u0
  have k1 : ((l.lo : Rat) - (a : Rat)) * r ^ s ≤ (traj q r x0 t0 + ε - (a : Rat)) * r ^ s := Rat.mul_le_mul_of_nonneg_right (by grind) p0
  have k2 : ε * r ^ s ≤ ε * 1 := Rat.mul_le_mul_of_nonneg_left p1 he
  unfold nearM
  dsimp only
  by_cases hc : l.lo ≥ a
  · rw [if_pos hc]
    have h1 := quo_le (x := l.lo - a) (d := d.lo)
    have h2 := H.dlo hh hd hin
    have h3 : (0 : Rat) ≤ ((l.lo - a : Int) : Rat) := c_nn (by omega)
    have h4 : ((l.lo - a : Int) : Rat) ≤ MX := le_MX (by have := hl.b; omega)
    have h5 : ((l.lo - a : Int) : Rat) * fr d.lo ≤ ((l.lo - a : Int) : Rat) * (r ^ s + (s : Rat) * η) := Rat.mul_le_mul_of_nonneg_left h2 h3
    have h6 : ((l.lo - a : Int) : Rat) * ((s : Rat) * η) ≤ MX * ((s : Rat) * η) := Rat.mul_le_mul_of_nonneg_right h4 u0
    rw [Rat.intCast_add]
    rw [cst] at h1 h5 h6
    grind
  · rw [if_neg hc]
    have h1 := quo_ge (x := a - l.lo) (d := d.hi)
    have h2 := H.dhi hh hd hin
    have h3 : (0 : Rat) ≤ ((a - l.lo : Int) : Rat) := c_nn (by omega)
    have h5 : ((a - l.lo : Int) : Rat) * r ^ s ≤ ((a - l.lo : Int) : Rat) * fr d.hi := Rat.mul_le_mul_of_nonneg_left h2 h3
    rw [Rat.intCast_sub]
    rw [cst] at h1 h5
    grind
theorem near_hi (H : Rt h r η) (hh : 1 ≤ h) (hd : Enc d h s) (hin : inD d) (hl : inX l) (hb : 0 ≤ b ∧ b ≤ 100000000) (he : 0 ≤ ε) (hq : ∀ t, t0 ≤ t → t < t0 + s → q t ≤ (b : Rat))
    (hx : traj q r x0 t0 ≤ (l.hi : Rat) + ε) : traj q r x0 (t0 + s) ≤ ((nearM l a b d).hi : Rat) + (ε + MX * ((s : Rat) * η)) := by
  have g1 := traj_le (x0 := x0) H.r0 H.rle s hq
  have p0 : (0 : Rat) ≤ r ^ s := Rat.pow_nonneg H.r0
  have p1 := pow_le1 H.r0 H.rle s
  have u0 : (0 : Rat) ≤ (s : Rat) * η := Rat.mul_nonneg Rat.natCast_nonneg H.e0
  have u1 : (0 : Rat) ≤ MX * ((s : Rat) * η) := Rat.mul_nonneg (by unfold MX; decide) u0
  have k1 : (traj q r x0 t0 - (b : Rat)) * r ^ s ≤ ((l.hi : Rat) + ε - (b : Rat)) * r ^ s := Rat.mul_le_mul_of_nonneg_right (by grind) p0
  have k2 : ε * r ^ s ≤ ε * 1 := Rat.mul_le_mul_of_nonneg_left p1 he
  unfold nearM
  dsimp only
  by_cases hc : l.hi ≥ b
  · rw [if_pos hc]
    have h1 := quo_ge (x := l.hi - b) (d := d.hi)
    have h2 := H.dhi hh hd hin
    have h3 : (0 : Rat) ≤ ((l.hi - b : Int) : Rat) := c_nn (by omega)
    have h5 : ((l.hi - b : Int) : Rat) * r ^ s ≤ ((l.hi - b : Int) : Rat) * fr d.hi := Rat.mul_le_mul_of_nonneg_left h2 h3
    rw [Rat.intCast_add]
    rw [cst] at h1 h5
    grind
  · rw [if_neg hc]
    have h1 := quo_le (x := b - l.hi) (d := d.lo)
    have h2 := H.dlo hh hd hin
    have h3 : (0 : Rat) ≤ ((b - l.hi : Int) : Rat) := c_nn (by omega)
    have h4 : ((b - l.hi : Int) : Rat) ≤ MX := le_MX (by have := hl.c; omega)
    have h5 : ((b - l.hi : Int) : Rat) * fr d.lo ≤ ((b - l.hi : Int) : Rat) * (r ^ s + (s : Rat) * η) := Rat.mul_le_mul_of_nonneg_left h2 h3
    have h6 : ((b - l.hi : Int) : Rat) * ((s : Rat) * η) ≤ MX * ((s : Rat) * η) := Rat.mul_le_mul_of_nonneg_right h4 u0
    rw [Rat.intCast_sub]
    rw [cst] at h1 h5 h6
    grind
/-- Within a step the way stays below the greater of both upper ends. -/
theorem near_mid (H : Rt h r η) (hh : 1 ≤ h) (hd : Enc d h s) (hin : inD d) (hl : inX l) (hb : 0 ≤ b ∧ b ≤ 100000000) (he : 0 ≤ ε) {j : Nat} (hj : j ≤ s) (hq : ∀ t, t0 ≤ t → t < t0 + s → q t ≤ (b : Rat))
    (hx : traj q r x0 t0 ≤ (l.hi : Rat) + ε) : traj q r x0 (t0 + j) ≤ ((max l.hi (nearM l a b d).hi : Int) : Rat) + (ε + MX * ((s : Rat) * η)) := by
  have g1 := traj_le (x0 := x0) H.r0 H.rle j (fun t ht hlt => hq t ht (by omega))
  have p0 : (0 : Rat) ≤ r ^ j := Rat.pow_nonneg H.r0
  have p1 := pow_le1 H.r0 H.rle j
  have p2 := pow_anti H.r0 H.rle hj
  have u0 : (0 : Rat) ≤ (s : Rat) * η := Rat.mul_nonneg Rat.natCast_nonneg H.e0
  have u1 : (0 : Rat) ≤ MX * ((s : Rat) * η) := Rat.mul_nonneg (by unfold MX; decide) u0
  have k1 : (traj q r x0 t0 - (b : Rat)) * r ^ j ≤ ((l.hi : Rat) + ε - (b : Rat)) * r ^ j := Rat.mul_le_mul_of_nonneg_right (by grind) p0
  have k2 : ε * r ^ j ≤ ε * 1 := Rat.mul_le_mul_of_nonneg_left p1 he
  by_cases hc : l.hi ≥ b
  · have h3 : (0 : Rat) ≤ ((l.hi - b : Int) : Rat) := c_nn (by omega)
    have h5 : ((l.hi - b : Int) : Rat) * r ^ j ≤ ((l.hi - b : Int) : Rat) * 1 := Rat.mul_le_mul_of_nonneg_left p1 h3
    have h6 : (l.hi : Rat) ≤ ((max l.hi (nearM l a b d).hi : Int) : Rat) := cle (by omega)
    rw [cst] at h5
    grind
  · have h6 : ((nearM l a b d).hi : Rat) ≤ ((max l.hi (nearM l a b d).hi : Int) : Rat) := cle (by omega)
    have h7 : (b : Rat) - ((b - l.hi : Int) : Rat) * (r ^ s + (s : Rat) * η) ≤ ((nearM l a b d).hi : Rat) := by
      unfold nearM
      dsimp only
      rw [if_neg hc]
      have h1 := quo_le (x := b - l.hi) (d := d.lo)
      have h2 := H.dlo hh hd hin
      have h3 : (0 : Rat) ≤ ((b - l.hi : Int) : Rat) := c_nn (by omega)
      have h5 : ((b - l.hi : Int) : Rat) * fr d.lo ≤ ((b - l.hi : Int) : Rat) * (r ^ s + (s : Rat) * η) := Rat.mul_le_mul_of_nonneg_left h2 h3
      rw [Rat.intCast_sub]
      grind
    have h3 : (0 : Rat) ≤ ((b - l.hi : Int) : Rat) := c_nn (by omega)
    have h4 : ((b - l.hi : Int) : Rat) ≤ MX := le_MX (by have := hl.c; omega)
    have h8 : ((b - l.hi : Int) : Rat) * ((s : Rat) * η) ≤ MX * ((s : Rat) * η) := Rat.mul_le_mul_of_nonneg_right h4 u0
    have h9 : ((b - l.hi : Int) : Rat) * r ^ s ≤ ((b - l.hi : Int) : Rat) * r ^ j := Rat.mul_le_mul_of_nonneg_left p2 h3
    rw [cst] at h7 h8 h9
    grind
end
end Go.Proofs.Ytfhfadfnbnliiaa
