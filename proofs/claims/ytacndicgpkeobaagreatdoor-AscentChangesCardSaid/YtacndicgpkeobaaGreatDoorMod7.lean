/-
  Plain models of chapter 3: ceilings and what they promise; the legs of a plan. Conditions: none; no program in sight.
-/
import Derived.Test.YtacndicgpkeobaaGreatDoorEx
namespace Go.Proofs.YtacndicgpkeobaaGreatDoor

/-! ### A number just below the root of one half -/
structure Rt (h : Nat) (r η : Rat) : Prop where
  r0 : 0 ≤ r
  e0 : 0 ≤ η
  r1 : r + η ≤ 1
  lo : r ^ h * 2 ≤ 1
  hi : 1 ≤ (r + η) ^ h * 2
theorem half_root {h N : Nat} (hN : 1 ≤ N) : ∃ m : Nat, m < N ∧ 2 * m ^ h ≤ N ^ h + 1 ∧ (1 ≤ h → 2 * m ^ h ≤ N ^ h) ∧ N ^ h ≤ 2 * (m + 1) ^ h := by
  by_cases hh : h = 0
  · subst hh; exact ⟨0, by omega, by simp, by omega, by simp⟩
  have hp : 1 ≤ N ^ h := Nat.one_le_pow _ _ (by omega)
  have key : ∀ k, k ≤ N → (∃ m : Nat, m < N ∧ 2 * m ^ h ≤ N ^ h ∧ N ^ h ≤ 2 * (m + 1) ^ h) ∨ 2 * k ^ h ≤ N ^ h := by
    intro k
    induction k with
    | zero => intro _; right; rw [Nat.zero_pow (by omega)]; omega
    | succ k ih =>
      intro hk
      rcases ih (by omega) with h1 | h1
      · exact .inl h1
      · by_cases h2 : 2 * (k + 1) ^ h ≤ N ^ h
        · exact .inr h2
        · exact .inl ⟨k, by omega, h1, by omega⟩
  rcases key N (Nat.le_refl _) with ⟨m, h1, h2, h3⟩ | h1
  · exact ⟨m, h1, by omega, fun _ => h2, h3⟩
  · omega
theorem rt_ex (h : Nat) (hh : 1 ≤ h) (N : Nat) (hN : 1 ≤ N) : ∃ r η : Rat, Rt h r η ∧ η * (N : Rat) = 1 := by
  obtain ⟨m, h1, _, h2, h3⟩ := half_root (h := h) hN
  have h2 := h2 hh
  have hN0 : (0 : Rat) < (N : Rat) := Rat.natCast_pos.2 (by omega)
  have hne : (N : Rat) ≠ 0 := (Rat.ne_of_lt hN0).symm
  have e1 : (m : Rat) / (N : Rat) * N = m := Rat.div_mul_cancel hne
  have e2 : (1 : Rat) / (N : Rat) * N = 1 := Rat.div_mul_cancel hne
  have hP : (0 : Rat) < (N : Rat) ^ h := Rat.pow_pos hN0
  have c2 : 2 * (m : Rat) ^ h ≤ (N : Rat) ^ h := by
    have := Rat.natCast_le_natCast.2 h2
    rw [Rat.natCast_mul, Rat.natCast_pow, Rat.natCast_pow] at this
    exact this
  have c3 : (N : Rat) ^ h ≤ 2 * ((m : Rat) + 1) ^ h := by
    have := Rat.natCast_le_natCast.2 h3
    rw [Rat.natCast_mul, Rat.natCast_pow, Rat.natCast_pow, Rat.natCast_add] at this
    exact this
  have c4 : (m : Rat) + 1 ≤ (N : Rat) := by
    have := Rat.natCast_le_natCast.2 (show m + 1 ≤ N by omega)
    rw [Rat.natCast_add] at this
    exact this
  refine ⟨(m : Rat) / N, 1 / N, ⟨?_, ?_, ?_, ?_, ?_⟩, e2⟩
  · exact Rat.le_of_mul_le_mul_right (c := (N : Rat)) (by rw [e1, Rat.zero_mul]; exact Rat.natCast_nonneg) hN0
  · exact Rat.le_of_mul_le_mul_right (c := (N : Rat)) (by rw [e2, Rat.zero_mul]; grind) hN0
  · exact Rat.le_of_mul_le_mul_right (c := (N : Rat)) (by rw [Rat.add_mul, e1, e2, Rat.one_mul]; exact c4) hN0
  · refine Rat.le_of_mul_le_mul_right (c := (N : Rat) ^ h) ?_ hP
    have : ((m : Rat) / N) ^ h * (N : Rat) ^ h = (m : Rat) ^ h := by rw [← mul_rpow, e1]
    grind
  · refine Rat.le_of_mul_le_mul_right (c := (N : Rat) ^ h) ?_ hP
    have : ((m : Rat) / N + 1 / N) ^ h * (N : Rat) ^ h = ((m : Rat) + 1) ^ h := by rw [← mul_rpow, Rat.add_mul, e1, e2]
    grind

section
variable {h s : Nat} {r η : Rat} {d : Rg}
theorem Rt.rle (H : Rt h r η) : r ≤ 1 := by have := H.r1; have := H.e0; grind
theorem pow_le1 {x : Rat} (h0 : 0 ≤ x) (h1 : x ≤ 1) (n : Nat) : x ^ n ≤ 1 := by
  have := rpow_le h0 h1 n
  rwa [one_rpow] at this
theorem pow_anti {x : Rat} (h0 : 0 ≤ x) (h1 : x ≤ 1) {m n : Nat} (hmn : m ≤ n) : x ^ n ≤ x ^ m := by
  rw [show n = m + (n - m) by omega, rpow_add]
  have h2 := pow_le1 h0 h1 (n - m)
  have h3 : (0 : Rat) ≤ x ^ m := Rat.pow_nonneg h0
  have := Rat.mul_le_mul_of_nonneg_left h2 h3
  grind
theorem Rt.up (H : Rt h r η) : ∀ n : Nat, (r + η) ^ n ≤ r ^ n + (n : Rat) * η
  | 0 => by rw [Rat.pow_zero, Rat.pow_zero]; have : ((0 : Nat) : Rat) = 0 := rfl; grind
  | n + 1 => by
    have ih := H.up n
    have h0 := H.r0
    have h1 := H.r1
    have h2 := H.e0
    have hc : ((n + 1 : Nat) : Rat) = (n : Rat) + 1 := Rat.natCast_add n 1
    rw [Rat.pow_succ, Rat.pow_succ, hc]
    have h3 : (r + η) ^ n * (r + η) ≤ (r ^ n + (n : Rat) * η) * (r + η) := Rat.mul_le_mul_of_nonneg_right ih (by grind)
    have h4 : r ^ n * η ≤ 1 * η := Rat.mul_le_mul_of_nonneg_right (pow_le1 h0 H.rle n) h2
    have h5 : ((n : Rat) * η) * (r + η) ≤ ((n : Rat) * η) * 1 := Rat.mul_le_mul_of_nonneg_left h1 (Rat.mul_nonneg Rat.natCast_nonneg h2)
    grind
theorem Rt.dlo (H : Rt h r η) (hh : 1 ≤ h) (hd : Enc d h s) (_ : inD d) : fr d.lo ≤ r ^ s + (s : Rat) * η := by
  have h0 := H.r0
  have h2 := H.e0
  refine Rat.le_trans (rroot_le (n := h) hh (Rat.pow_nonneg (by grind)) ?_) (H.up s)
  have h3 : (1 : Rat) ≤ ((r + η) ^ s) ^ h * 2 ^ s := by
    rw [← rpow_mul, Nat.mul_comm, rpow_mul, ← mul_rpow]
    have := rpow_le (x := 1) (y := (r + η) ^ h * 2) (by decide) H.hi s
    rwa [one_rpow] at this
  have t := two_rpow_ge s
  exact Rat.le_of_mul_le_mul_right (Rat.le_trans hd.1 h3) (show (0 : Rat) < 2 ^ s by grind)
theorem Rt.dhi (H : Rt h r η) (hh : 1 ≤ h) (hd : Enc d h s) (hin : inD d) : r ^ s ≤ fr d.hi := by
  refine rroot_le (n := h) hh (fr_nn hin.c) ?_
  have h3 : (r ^ s) ^ h * 2 ^ s ≤ 1 := by
    rw [← rpow_mul, Nat.mul_comm, rpow_mul, ← mul_rpow]
    have := rpow_le (x := r ^ h * 2) (y := 1) (Rat.mul_nonneg (Rat.pow_nonneg H.r0) (by decide)) H.lo s
    rwa [one_rpow] at this
  have t := two_rpow_ge s
  exact Rat.le_of_mul_le_mul_right (Rat.le_trans h3 hd.2) (show (0 : Rat) < 2 ^ s by grind)

/-! ### The way -/
def traj (q : Nat → Rat) (r x0 : Rat) : Nat → Rat
  | 0 => x0
  | t + 1 => q t + (traj q r x0 t - q t) * r
variable {q : Nat → Rat} {x0 : Rat} {t0 : Nat}
theorem traj_ge (h0 : 0 ≤ r) (h1 : r ≤ 1) {a : Rat} : ∀ n : Nat, (∀ t, t0 ≤ t → t < t0 + n → a ≤ q t) → a + (traj q r x0 t0 - a) * r ^ n ≤ traj q r x0 (t0 + n)
  | 0, _ => by rw [Rat.pow_zero, Nat.add_zero]; grind
  | n + 1, hq => by
    have ih := traj_ge h0 h1 n (fun t ht hlt => hq t ht (by omega))
    have h2 := hq (t0 + n) (by omega) (by omega)
    rw [← Nat.add_assoc, Rat.pow_succ]
    show _ ≤ q (t0 + n) + (traj q r x0 (t0 + n) - q (t0 + n)) * r
    have h3 : (a + (traj q r x0 t0 - a) * r ^ n) * r ≤ traj q r x0 (t0 + n) * r := Rat.mul_le_mul_of_nonneg_right ih h0
    have h4 : a * (1 - r) ≤ q (t0 + n) * (1 - r) := Rat.mul_le_mul_of_nonneg_right h2 (by grind)
    grind
theorem traj_le (h0 : 0 ≤ r) (h1 : r ≤ 1) {b : Rat} : ∀ n : Nat, (∀ t, t0 ≤ t → t < t0 + n → q t ≤ b) → traj q r x0 (t0 + n) ≤ b + (traj q r x0 t0 - b) * r ^ n
  | 0, _ => by rw [Rat.pow_zero, Nat.add_zero]; grind
  | n + 1, hq => by
    have ih := traj_le h0 h1 n (fun t ht hlt => hq t ht (by omega))
    have h2 := hq (t0 + n) (by omega) (by omega)
    rw [← Nat.add_assoc, Rat.pow_succ]
    show q (t0 + n) + (traj q r x0 (t0 + n) - q (t0 + n)) * r ≤ _
    have h3 : traj q r x0 (t0 + n) * r ≤ (b + (traj q r x0 t0 - b) * r ^ n) * r := Rat.mul_le_mul_of_nonneg_right ih h0
    have h4 : q (t0 + n) * (1 - r) ≤ b * (1 - r) := Rat.mul_le_mul_of_nonneg_right h2 (by grind)
    grind

/-! ### One step -/
def MX : Rat := 100000000
theorem cst {a b : Int} : ((a - b : Int) : Rat) = (a : Rat) - (b : Rat) := Rat.intCast_sub a b
theorem le_MX {a : Int} (h : a ≤ 100000000) : (a : Rat) ≤ MX := cle h
theorem c_nn {a : Int} (h : 0 ≤ a) : (0 : Rat) ≤ (a : Rat) := cle h
theorem quo_le {x d : Int} : ((x * d / 1000000000 : Int) : Rat) ≤ (x : Rat) * fr d := by
  have h1 := fr_mul d
  have h3 := quo_down (m := x * d) (b := 1000000000) (by decide)
  rw [Rat.intCast_mul, ← h1] at h3
  have h4 : ((1000000000 : Int) : Rat) = 1000000000 := rfl
  rw [h4] at h3
  grind
theorem quo_ge {x d : Int} : (x : Rat) * fr d ≤ ((upZ (x * d) 1000000000 : Int) : Rat) := by
  have h1 := fr_mul d
  have h3 := quo_up (m := x * d) (b := 1000000000) (by decide)
  rw [Rat.intCast_mul, ← h1] at h3
  have h4 : ((1000000000 : Int) : Rat) = 1000000000 := rfl
  rw [h4] at h3
  grind
variable {l : Rg} {a b : Int} {ε : Rat}
theorem near_lo (H : Rt h r η) (hh : 1 ≤ h) (hd : Enc d h s) (hin : inD d) (hl : inX l) (ha : 0 ≤ a ∧ a ≤ 100000000) (he : 0 ≤ ε) (hq : ∀ t, t0 ≤ t → t < t0 + s → (a : Rat) ≤ q t)
    (hx : (l.lo : Rat) ≤ traj q r x0 t0 + ε) : ((nearM l a b d).lo : Rat) ≤ traj q r x0 (t0 + s) + (ε + MX * ((s : Rat) * η)) := by
  have g1 := traj_ge (x0 := x0) H.r0 H.rle s hq
  have p0 : (0 : Rat) ≤ r ^ s := Rat.pow_nonneg H.r0
  have p1 := pow_le1 H.r0 H.rle s
  have u0 : (0 : Rat) ≤ (s : Rat) * η := Rat.mul_nonneg Rat.natCast_nonneg H.e0
  have u1 : (0 : Rat) ≤ MX * ((s : Rat) * η) := Rat.mul_nonneg (by unfold MX; decide) u0
  have k1 : ((l.lo : Rat) - (a : Rat)) * r ^ s ≤ (traj q r x0 t0 + ε - (a : Rat)) * r ^ s := Rat.mul_le_mul_of_nonneg_right (by grind) p0
  have k2 : ε * r ^ s ≤ ε * 1 := Rat.mul_le_mul_of_nonneg_left p1 he
  unfold nearM
  dsimp only
  by_cases hc : l.lo ≥ a
  · rw [if_pos hc]
    have h1 := quo_le (x := l.lo - a) (d := d.lo)
    have h2 := H.dlo hh hd hin
    have h3 : (0 : Rat) ≤ ((l.lo - a : Int) : Rat) := c_nn (by omega)
    have h4 : ((l.lo - a : Int) : Rat) ≤ MX := le_MX (by have := hl.b; omega)
    have h5 : ((l.lo - a : Int) : Rat) * fr d.lo ≤ ((l.lo - a : Int) : Rat) * (r ^ s + (s : Rat) * η) := Rat.mul_le_mul_of_nonneg_left h2 h3
    have h6 : ((l.lo - a : Int) : Rat) * ((s : Rat) * η) ≤ MX * ((s : Rat) * η) := Rat.mul_le_mul_of_nonneg_right h4 u0
    rw [Rat.intCast_add]
    rw [cst] at h1 h5 h6
    grind
  · rw [if_neg hc]
    have h1 := quo_ge (x := a - l.lo) (d := d.hi)
    have h2 := H.dhi hh hd hin
    have h3 : (0 : Rat) ≤ ((a - l.lo : Int) : Rat) := c_nn (by omega)
    have h5 : ((a - l.lo : Int) : Rat) * r ^ s ≤ ((a - l.lo : Int) : Rat) * fr d.hi := Rat.mul_le_mul_of_nonneg_left h2 h3
    rw [Rat.intCast_sub]
    rw [cst] at h1 h5
    grind
theorem near_hi (H : Rt h r η) (hh : 1 ≤ h) (hd : Enc d h s) (hin : inD d) (hl : inX l) (hb : 0 ≤ b ∧ b ≤ 100000000) (he : 0 ≤ ε) (hq : ∀ t, t0 ≤ t → t < t0 + s → q t ≤ (b : Rat))
    (hx : traj q r x0 t0 ≤ (l.hi : Rat) + ε) : traj q r x0 (t0 + s) ≤ ((nearM l a b d).hi : Rat) + (ε + MX * ((s : Rat) * η)) := by
  have g1 := traj_le (x0 := x0) H.r0 H.rle s hq
  have p0 : (0 : Rat) ≤ r ^ s := Rat.pow_nonneg H.r0
  have p1 := pow_le1 H.r0 H.rle s
  have u0 : (0 : Rat) ≤ (s : Rat) * η := Rat.mul_nonneg Rat.natCast_nonneg H.e0
  have u1 : (0 : Rat) ≤ MX * ((s : Rat) * η) := Rat.mul_nonneg (by unfold MX; decide) u0
  have k1 : (traj q r x0 t0 - (b : Rat)) * r ^ s ≤ ((l.hi : Rat) + ε - (b : Rat)) * r ^ s := Rat.mul_le_mul_of_nonneg_right (by grind) p0
  have k2 : ε * r ^ s ≤ ε * 1 := Rat.mul_le_mul_of_nonneg_left p1 he
  unfold nearM
  dsimp only
  by_cases hc : l.hi ≥ b
  · rw [if_pos hc]
    have h1 := quo_ge (x := l.hi - b) (d := d.hi)
    have h2 := H.dhi hh hd hin
    have h3 : (0 : Rat) ≤ ((l.hi - b : Int) : Rat) := c_nn (by omega)
    have h5 : ((l.hi - b : Int) : Rat) * r ^ s ≤ ((l.hi - b : Int) : Rat) * fr d.hi := Rat.mul_le_mul_of_nonneg_left h2 h3
    rw [Rat.intCast_add]
    rw [cst] at h1 h5
    grind
  · rw [if_neg hc]
    have h1 := quo_le (x := b - l.hi) (d := d.lo)
    have h2 := H.dlo hh hd hin
    have h3 : (0 : Rat) ≤ ((b - l.hi : Int) : Rat) := c_nn (by omega)
    have h4 : ((b - l.hi : Int) : Rat) ≤ MX := le_MX (by have := hl.c; omega)
    have h5 : ((b - l.hi : Int) : Rat) * fr d.lo ≤ ((b - l.hi : Int) : Rat) * (r ^ s + (s : Rat) * η) := Rat.mul_le_mul_of_nonneg_left h2 h3
    have h6 : ((b - l.hi : Int) : Rat) * ((s : Rat) * η) ≤ MX * ((s : Rat) * η) := Rat.mul_le_mul_of_nonneg_right h4 u0
    rw [Rat.intCast_sub]
    rw [cst] at h1 h5 h6
    grind
theorem near_mid (H : Rt h r η) (hh : 1 ≤ h) (hd : Enc d h s) (hin : inD d) (hl : inX l) (hb : 0 ≤ b ∧ b ≤ 100000000) (he : 0 ≤ ε) {j : Nat} (hj : j ≤ s) (hq : ∀ t, t0 ≤ t → t < t0 + s → q t ≤ (b : Rat))
    (hx : traj q r x0 t0 ≤ (l.hi : Rat) + ε) : traj q r x0 (t0 + j) ≤ ((max l.hi (nearM l a b d).hi : Int) : Rat) + (ε + MX * ((s : Rat) * η)) := by
  have g1 := traj_le (x0 := x0) H.r0 H.rle j (fun t ht hlt => hq t ht (by omega))
  have p0 : (0 : Rat) ≤ r ^ j := Rat.pow_nonneg H.r0
  have p1 := pow_le1 H.r0 H.rle j
  have p2 := pow_anti H.r0 H.rle hj
  have u0 : (0 : Rat) ≤ (s : Rat) * η := Rat.mul_nonneg Rat.natCast_nonneg H.e0
  have u1 : (0 : Rat) ≤ MX * ((s : Rat) * η) := Rat.mul_nonneg (by unfold MX; decide) u0
  have k1 : (traj q r x0 t0 - (b : Rat)) * r ^ j ≤ ((l.hi : Rat) + ε - (b : Rat)) * r ^ j := Rat.mul_le_mul_of_nonneg_right (by grind) p0
  have k2 : ε * r ^ j ≤ ε * 1 := Rat.mul_le_mul_of_nonneg_left p1 he
  by_cases hc : l.hi ≥ b
  · have h3 : (0 : Rat) ≤ ((l.hi - b : Int) : Rat) := c_nn (by omega)
    have h5 : ((l.hi - b : Int) : Rat) * r ^ j ≤ ((l.hi - b : Int) : Rat) * 1 := Rat.mul_le_mul_of_nonneg_left p1 h3
    have h6 : (l.hi : Rat) ≤ ((max l.hi (nearM l a b d).hi : Int) : Rat) := cle (by omega)
    rw [cst] at h5
    grind
  · have h6 : ((nearM l a b d).hi : Rat) ≤ ((max l.hi (nearM l a b d).hi : Int) : Rat) := cle (by omega)
    have h7 : (b : Rat) - ((b - l.hi : Int) : Rat) * (r ^ s + (s : Rat) * η) ≤ ((nearM l a b d).hi : Rat) := by
      unfold nearM
      dsimp only
      rw [if_neg hc]
      have h1 := quo_le (x := b - l.hi) (d := d.lo)
      have h2 := H.dlo hh hd hin
      have h3 : (0 : Rat) ≤ ((b - l.hi : Int) : Rat) := c_nn (by omega)
      have h5 : ((b - l.hi : Int) : Rat) * fr d.lo ≤ ((b - l.hi : Int) : Rat) * (r ^ s + (s : Rat) * η) := Rat.mul_le_mul_of_nonneg_left h2 h3
      rw [Rat.intCast_sub]
      grind
    have h3 : (0 : Rat) ≤ ((b - l.hi : Int) : Rat) := c_nn (by omega)
    have h4 : ((b - l.hi : Int) : Rat) ≤ MX := le_MX (by have := hl.c; omega)
    have h8 : ((b - l.hi : Int) : Rat) * ((s : Rat) * η) ≤ MX * ((s : Rat) * η) := Rat.mul_le_mul_of_nonneg_right h4 u0
    have h9 : ((b - l.hi : Int) : Rat) * r ^ s ≤ ((b - l.hi : Int) : Rat) * r ^ j := Rat.mul_le_mul_of_nonneg_left p2 h3
    rw [cst] at h7 h8 h9
    grind
end
end Go.Proofs.YtacndicgpkeobaaGreatDoor
namespace Go.Proofs.YtacndicgpkeobaaGreatDoor

/-! ### Pressures of a leg -/
def prs (x : Lg) (t : Int) : Rat := (sumM x t : Rat) / (x.s : Rat)
theorem prs_mul {x : Lg} (h : x.s > 0) (t : Int) : prs x t * (x.s : Rat) = (sumM x t : Rat) := Rat.div_mul_cancel (Rat.ne_of_lt (Rat.intCast_pos.2 h)).symm
theorem sum_mono {x : Lg} (h : x.f ≤ x.t) {a b : Int} (hab : a ≤ b) : sumM x a ≤ sumM x b := by
  rw [← sum_alt, ← sum_alt]
  have := Int.mul_le_mul_of_nonneg_left hab (show 0 ≤ x.t - x.f by omega)
  omega
theorem sum_anti {x : Lg} (h : x.t ≤ x.f) {a b : Int} (hab : a ≤ b) : sumM x b ≤ sumM x a := by
  rw [← sum_alt, ← sum_alt]
  have h1 := Int.mul_le_mul_of_nonneg_left hab (show 0 ≤ x.f - x.t by omega)
  have h2 : (x.t - x.f) * b = -((x.f - x.t) * b) := by grind
  have h3 : (x.t - x.f) * a = -((x.f - x.t) * a) := by grind
  omega
theorem prs_le {x : Lg} (h : x.s > 0) {t : Int} {m : Int} (hm : sumM x t ≤ m) : prs x t ≤ ((upZ m x.s : Int) : Rat) := by
  have hp : (0 : Rat) < (x.s : Rat) := Rat.intCast_pos.2 h
  refine Rat.le_of_mul_le_mul_right (c := (x.s : Rat)) ?_ hp
  rw [prs_mul h]
  exact Rat.le_trans (cle hm) (quo_up h)
theorem le_prs {x : Lg} (h : x.s > 0) {t : Int} {m : Int} (hm : m ≤ sumM x t) : ((m / x.s : Int) : Rat) ≤ prs x t := by
  have hp : (0 : Rat) < (x.s : Rat) := Rat.intCast_pos.2 h
  refine Rat.le_of_mul_le_mul_right (c := (x.s : Rat)) ?_ hp
  rw [prs_mul h]
  exact Rat.le_trans (quo_down h) (cle hm)
def stLo (x : Lg) (n k : Nat) : Int := min (mkM x n k).p.lo (mkM x n ((k : Int) + 1)).p.lo
def stHi (x : Lg) (n k : Nat) : Int := max (mkM x n k).p.hi (mkM x n ((k : Int) + 1)).p.hi
theorem mk_pos {x : Lg} (h : x.s > 0) (n j : Int) : (mkM x n j).p = ⟨sumM x (mkM x n j).s / x.s, upZ (sumM x (mkM x n j).s) x.s⟩ := by
  unfold mkM
  dsimp only
  rw [if_pos h]
theorem prs_in {x : Lg} (h : x.s > 0) {n k : Nat} {t : Int} (h1 : (mkM x n k).s ≤ t) (h2 : t ≤ (mkM x n ((k : Int) + 1)).s) : (stLo x n k : Rat) ≤ prs x t ∧ prs x t ≤ (stHi x n k : Rat) := by
  unfold stLo stHi
  rw [mk_pos h, mk_pos h]
  dsimp only
  by_cases hd : x.f ≤ x.t
  · have a1 := le_prs h (sum_mono hd h1)
    have a2 := prs_le h (sum_mono hd h2)
    exact ⟨Rat.le_trans (cle (Int.min_le_left _ _)) a1, Rat.le_trans a2 (cle (Int.le_max_right _ _))⟩
  · have a1 := le_prs h (sum_anti (show x.t ≤ x.f by omega) h2)
    have a2 := prs_le h (sum_anti (show x.t ≤ x.f by omega) h1)
    exact ⟨Rat.le_trans (cle (Int.min_le_right _ _)) a1, Rat.le_trans a2 (cle (Int.le_max_left _ _))⟩

/-! ### One part of one compartment -/
def seqR (f : Nat) (x : Lg) (n : Nat) (part half : Int) (l : Rg) : Nat → Rg
  | 0 => l
  | k + 1 => nearM (seqR f x n part half l k) (part * (stLo x n k - 63)) (part * (stHi x n k - 63)) (decM ((mkM x n ((k : Int) + 1)).s - (mkM x n k).s) half (8 + 2 * f))
theorem stM_get {f : Nat} {ts : List Cp} {ls : List Ld} {x : Lg} {n i : Nat} {c : Cp} {z : Ld} (hc : ts[i]? = some c) (hz : ls[i]? = some z) : ∀ k, (stM f ts ls x n k)[i]? = some ⟨seqR f x n (1000 - x.g.o - x.g.h) c.n z.n k, seqR f x n x.g.h c.h z.h k⟩
  | 0 => hz
  | k + 1 => by
    have ih := stM_get (f := f) (x := x) (n := n) hc hz k
    unfold stM stepM
    rw [List.getElem?_zipWith, hc, ih]
    rfl
structure onLeg (x : Lg) (n : Nat) (part half : Int) : Prop where
  x : okLg x
  n : 1 ≤ n ∧ n ≤ 64
  p : 0 ≤ part ∧ part ≤ 1000
  h : 1 ≤ half ∧ half ≤ 100000
theorem st_in {x : Lg} {n k : Nat} (hx : okLg x) (hn : 1 ≤ n ∧ n ≤ 64) (hk : k < n) : 400 ≤ stLo x n k ∧ stLo x n k ≤ stHi x n k ∧ stHi x n k ≤ 31100 := by
  have h1 := mk_in (j := (k : Int)) hx (n := (n : Int)) (by omega) (by omega)
  have h2 := mk_in (j := (k : Int) + 1) hx (n := (n : Int)) (by omega) (by omega)
  unfold stLo stHi
  omega
theorem seqR_in {f : Nat} {x : Lg} {n : Nat} {part half : Int} {l : Rg} (H : onLeg x n part half) (hl : inX l) : ∀ k, k ≤ n → inX (seqR f x n part half l k)
  | 0, _ => hl
  | k + 1, hk => by
    have h1 := st_in (k := k) H.x H.n (by omega)
    exact near_in (seqR_in H hl k (by omega)) (breath_in H.p (by omega)) (breath_in H.p (by omega)) (decM_in _ _ _)
theorem mks_nat {x : Lg} {n k : Nat} (hx : okLg x) (hn : 1 ≤ n ∧ n ≤ 64) (hk : k < n) : ∃ a s : Nat, (mkM x n k).s = (a : Int) ∧ (mkM x n ((k : Int) + 1)).s = ((a + s : Nat) : Int) := by
  have h1 := mk_in (j := (k : Int)) hx (n := (n : Int)) (by omega) (by omega)
  have h2 := mk_mono hx hn.1 k
  exact ⟨(mkM x n k).s.toNat, ((mkM x n ((k : Int) + 1)).s - (mkM x n k).s).toNat, by omega, by omega⟩
section
variable {f n : Nat} {x : Lg} {part : Int} {h : Nat} {l : Rg} {r η : Rat} {q : Nat → Rat} {x0 ε : Rat} {t0 : Nat}
def goes (q : Nat → Rat) (t0 : Nat) (x : Lg) (part : Int) : Prop := ∀ t : Nat, (t : Int) ≤ x.s → q (t0 + t) = (part : Rat) * (prs x t - 63)
theorem part_le {part : Int} (hp : 0 ≤ part) {a : Int} {b : Rat} (h : (a : Rat) ≤ b) : ((part * (a - 63) : Int) : Rat) ≤ (part : Rat) * (b - 63) := by
  rw [Rat.intCast_mul, cst]
  have : ((63 : Int) : Rat) = 63 := rfl
  exact Rat.mul_le_mul_of_nonneg_left (by grind) (c_nn hp)
theorem le_part {part : Int} (hp : 0 ≤ part) {a : Int} {b : Rat} (h : b ≤ (a : Rat)) : (part : Rat) * (b - 63) ≤ ((part * (a - 63) : Int) : Rat) := by
  rw [Rat.intCast_mul, cst]
  have : ((63 : Int) : Rat) = 63 := rfl
  exact Rat.mul_le_mul_of_nonneg_left (by grind) (c_nn hp)
def ex (ε η : Rat) (t : Int) : Rat := ε + MX * ((t : Rat) * η)
theorem ex_add {a s : Nat} (ε η : Rat) : ex ε η ((a + s : Nat) : Int) = ex ε η (a : Int) + MX * ((s : Rat) * η) := by
  unfold ex
  have h1 : (((a + s : Nat) : Int) : Rat) = (a : Rat) + (s : Rat) := by rw [Rat.intCast_natCast, Rat.natCast_add]
  have h2 : (((a : Nat) : Int) : Rat) = (a : Rat) := Rat.intCast_natCast a
  rw [h1, h2]
  grind
theorem ex_nn {ε η : Rat} (he : 0 ≤ ε) (h0 : 0 ≤ η) {t : Int} (ht : 0 ≤ t) : 0 ≤ ex ε η t := by
  have u : (0 : Rat) ≤ MX * ((t : Rat) * η) := Rat.mul_nonneg (by unfold MX; decide) (Rat.mul_nonneg (c_nn ht) h0)
  unfold ex
  grind
theorem leg_enc (H : Rt h r η) (hO : onLeg x n part (h : Int)) (hs : x.s > 0) (hl : inX l) (he : 0 ≤ ε) (hq : goes q t0 x part) (h1 : (l.lo : Rat) ≤ traj q r x0 t0 + ε) (h2 : traj q r x0 t0 ≤ (l.hi : Rat) + ε) :
    ∀ k, k ≤ n → ((seqR f x n part h l k).lo : Rat) ≤ traj q r x0 (t0 + (mkM x n k).s.toNat) + ex ε η (mkM x n k).s ∧ traj q r x0 (t0 + (mkM x n k).s.toNat) ≤ ((seqR f x n part h l k).hi : Rat) + ex ε η (mkM x n k).s
  | 0, _ => by
    have e0 : (mkM x n (0 : Nat)).s = 0 := by unfold mkM; simp
    rw [e0]
    have : ex ε η 0 = ε := by unfold ex; have : ((0 : Int) : Rat) = 0 := rfl; grind
    rw [this]
    exact ⟨h1, h2⟩
  | k + 1, hk => by
    obtain ⟨i1, i2⟩ := leg_enc H hO hs hl he hq h1 h2 k (by omega)
    obtain ⟨a, s, ea, es⟩ := mks_nat (k := k) hO.x hO.n (by omega)
    have hst := st_in (k := k) hO.x hO.n (by omega)
    have hin := seqR_in (f := f) hO hl k (by omega)
    have ek : (mkM x n ((k + 1 : Nat) : Int)).s = ((a + s : Nat) : Int) := es
    have hle := mk_in (j := (k : Int) + 1) hO.x (n := (n : Int)) (by omega) (by have := hO.n; omega)
    have hd : (mkM x n ((k : Int) + 1)).s - (mkM x n k).s = (s : Int) := by omega
    rw [ek, ex_add]
    rw [ea] at i1 i2
    simp only [Int.toNat_natCast] at i1 i2 ⊢
    rw [← Nat.add_assoc]
    have hen := decM_enc (s := s) (h := h) (8 + 2 * f) (by have := hO.h; omega)
    have hqa : ∀ t, t0 + a ≤ t → t < t0 + a + s → ((part * (stLo x n k - 63) : Int) : Rat) ≤ q t ∧ q t ≤ ((part * (stHi x n k - 63) : Int) : Rat) := fun t ht hlt => by
      have h3 := prs_in hs (n := n) (k := k) (t := ((t - t0 : Nat) : Int)) (by omega) (by omega)
      have h4 := hq (t - t0) (by omega)
      rw [show t0 + (t - t0) = t by omega] at h4
      rw [h4]
      exact ⟨part_le hO.p.1 h3.1, le_part hO.p.1 h3.2⟩
    have hh : 1 ≤ h := by have := hO.h; omega
    have en := ex_nn he H.e0 (show (0 : Int) ≤ (a : Int) by omega)
    unfold seqR
    rw [hd]
    exact ⟨near_lo H hh hen (decM_in _ _ _) hin (breath_in hO.p (by omega)) en (fun t ht hlt => (hqa t ht hlt).1) i1, near_hi H hh hen (decM_in _ _ _) hin (breath_in hO.p (by omega)) en (fun t ht hlt => (hqa t ht hlt).2) i2⟩
theorem leg_mid (H : Rt h r η) (hO : onLeg x n part (h : Int)) (hs : x.s > 0) (hl : inX l) (he : 0 ≤ ε) (hq : goes q t0 x part) (h1 : (l.lo : Rat) ≤ traj q r x0 t0 + ε) (h2 : traj q r x0 t0 ≤ (l.hi : Rat) + ε)
    {k t : Nat} (hk : k < n) (ht1 : (mkM x n k).s ≤ (t : Int)) (ht2 : (t : Int) ≤ (mkM x n ((k : Int) + 1)).s) :
    traj q r x0 (t0 + t) ≤ ((max (seqR f x n part h l k).hi (seqR f x n part h l (k + 1)).hi : Int) : Rat) + ex ε η (mkM x n ((k : Int) + 1)).s := by
  obtain ⟨_, i2⟩ := leg_enc (f := f) H hO hs hl he hq h1 h2 k (by omega)
  obtain ⟨a, s, ea, es⟩ := mks_nat (k := k) hO.x hO.n hk
  have hst := st_in (k := k) hO.x hO.n hk
  have hin := seqR_in (f := f) hO hl k (by omega)
  have hle := mk_in (j := (k : Int) + 1) hO.x (n := (n : Int)) (by omega) (by have := hO.n; omega)
  have hd : (mkM x n ((k : Int) + 1)).s - (mkM x n k).s = (s : Int) := by omega
  rw [es, ex_add]
  rw [ea] at i2
  simp only [Int.toNat_natCast] at i2
  have hen := decM_enc (s := s) (h := h) (8 + 2 * f) (by have := hO.h; omega)
  have hqa : ∀ u, t0 + a ≤ u → u < t0 + a + s → q u ≤ ((part * (stHi x n k - 63) : Int) : Rat) := fun u hu hlt => by
    have h3 := prs_in hs (n := n) (k := k) (t := ((u - t0 : Nat) : Int)) (by omega) (by omega)
    have h4 := hq (u - t0) (by omega)
    rw [show t0 + (u - t0) = u by omega] at h4
    rw [h4]
    exact le_part hO.p.1 h3.2
  have hh : 1 ≤ h := by have := hO.h; omega
  have en := ex_nn he H.e0 (show (0 : Int) ≤ (a : Int) by omega)
  have key := near_mid (a := part * (stLo x n k - 63)) H hh hen (decM_in _ _ _) hin (breath_in hO.p (by omega)) en (j := t - a) (by omega) hqa i2
  rw [show t0 + a + (t - a) = t0 + t by omega] at key
  have e9 : seqR f x n part h l (k + 1) = nearM (seqR f x n part h l k) (part * (stLo x n k - 63)) (part * (stHi x n k - 63)) (decM (s : Int) h (8 + 2 * f)) := by
    conv => lhs; unfold seqR
    rw [hd]
  rw [e9]
  exact key
end

/-! ### What is less than one apart -/
theorem small_ex {η : Rat} (h0 : 0 ≤ η) (h : η * ((800000000000000 : Nat) : Rat) = 1) {t : Int} (ht : t ≤ 1000000) : ex 0 η t ≤ 1 / 8 := by
  unfold ex
  have h1 : (t : Rat) ≤ ((1000000 : Int) : Rat) := cle ht
  have h2 : ((1000000 : Int) : Rat) = 1000000 := rfl
  have h3 : ((800000000000000 : Nat) : Rat) = 800000000000000 := rfl
  rw [h2] at h1
  rw [h3] at h
  have h4 : (t : Rat) * η ≤ 1000000 * η := Rat.mul_le_mul_of_nonneg_right h1 h0
  have h5 : MX = 100000000 := rfl
  rw [h5]
  grind
theorem int_le {a b : Int} {x ε : Rat} (h1 : (a : Rat) ≤ x + ε) (h2 : x ≤ (b : Rat) + ε) (he : ε ≤ 1 / 4) : a ≤ b := by
  have h3 : (a : Rat) < (b : Rat) + 1 := by grind
  have h4 : ((b + 1 : Int) : Rat) = (b : Rat) + 1 := by rw [Rat.intCast_add]; rfl
  rw [← h4] at h3
  have := Rat.intCast_lt_intCast.1 h3
  omega
/-! ### The enclosures of one leg meet -/
theorem mk_end {x : Lg} {n : Nat} (hn : 1 ≤ n) : (mkM x n n).s = x.s := by
  unfold mkM
  dsimp only
  exact sec_end (by omega)
theorem onLeg_n {x : Lg} {n : Nat} {c : Cp} (hx : okLg x) (hn : 1 ≤ n ∧ n ≤ 64) (hc : okCp c) : onLeg x n (1000 - x.g.o - x.g.h) c.n := ⟨hx, hn, by have := hx.g.a; have := hx.g.b; have := hx.g.c; omega, ⟨hc.1, hc.2.1⟩⟩
theorem onLeg_h {x : Lg} {n : Nat} {c : Cp} (hx : okLg x) (hn : 1 ≤ n ∧ n ≤ 64) (hc : okCp c) : onLeg x n x.g.h c.h := ⟨hx, hn, by have := hx.g.a; have := hx.g.b; have := hx.g.c; omega, ⟨hc.2.2.1, hc.2.2.2.1⟩⟩
theorem get_both {ts : List Cp} {ls : List Ld} (hlen : ls.length = ts.length) {i : Nat} {y : Ld} {f : Nat} {x : Lg} {n k : Nat} (hy : (stM f ts ls x n k)[i]? = some y) : ∃ c z, ts[i]? = some c ∧ ls[i]? = some z ∧ y = ⟨seqR f x n (1000 - x.g.o - x.g.h) c.n z.n k, seqR f x n x.g.h c.h z.h k⟩ := by
  have hi := (List.getElem?_eq_some_iff.1 hy).1
  rw [stM_len hlen] at hi
  obtain ⟨c, hc⟩ := get_some ts hi
  obtain ⟨z, hz⟩ := get_some ls (show i < ls.length by omega)
  refine ⟨c, z, hc, hz, ?_⟩
  rw [stM_get hc hz] at hy
  injection hy with hy
  exact hy.symm
end Go.Proofs.YtacndicgpkeobaaGreatDoor
namespace Go.Proofs.YtacndicgpkeobaaGreatDoor

/-! ### A rest as a leg -/
/-! ### Loads that lie in others -/
end Go.Proofs.YtacndicgpkeobaaGreatDoor
namespace Go.Proofs.YtacndicgpkeobaaGreatDoor

/-! ### Modulo -/
/-! ### Products of decays -/
/-! ### Rests -/
structure okRest (ts : List Cp) (ls : List Ld) (p s : Int) : Prop where
  k : okTL ts ls
  ct : ckLoads ts ls = 0
  r : 400 ≤ p ∧ p ≤ 1100 ∧ 0 ≤ s ∧ s ≤ 1000000
  e : restE ts ls p s = (restM ts ls p s, 0)
/-! ### Single numbers out of loads -/
/-! ### Limits kept -/
def lw1 (p f : Int) (c : Cp) (x : Ld) : Prop := 1000 * (x.n.lo + x.h.lo) ≤ limM c p f
instance (p f : Int) (c : Cp) (x : Ld) : Decidable (lw1 p f c x) := by unfold lw1; infer_instance
def up1 (p f : Int) (c : Cp) (x : Ld) : Prop := 1000 * (x.n.hi + x.h.hi) ≤ limM c p f
instance (p f : Int) (c : Cp) (x : Ld) : Decidable (up1 p f c x) := by unfold up1; infer_instance
abbrev lowP (p f : Int) := all2 (lw1 p f)
abbrev holdP (p f : Int) := all2 (up1 p f)
def keptM (ts : List Cp) (ls : List Ld) (p f : Int) : Int := if ¬ lowP p f ts ls then 0 else if holdP p f ts ls then 2 else 1
theorem hold_low {ts : List Cp} {ls : List Ld} {p f : Int} (ho : ∀ y ∈ ls, ordLd y) (h : holdP p f ts ls) : lowP p f ts ls := all2_get fun k c x hc hx => by
  have h1 := all2_at h k c x hc hx
  have h2 := ho x (List.mem_of_getElem? hx)
  unfold up1 at h1
  unfold ordLd at h2
  unfold lw1
  omega
theorem keptM_prog {ts : List Cp} {ls : List Ld} {p f : Int} (ho : ∀ y ∈ ls, ordLd y) : (if decide (holdP p f ts ls) = true then (2 : Int) else if decide (¬ lowP p f ts ls) = true then 0 else 1) = keptM ts ls p f := by
  unfold keptM
  by_cases h : holdP p f ts ls
  · have := hold_low ho h
    simp [h, this]
  · by_cases h2 : lowP p f ts ls <;> simp [h, h2]
def keptE (ts : List Cp) (ls : List Ld) (p f : Int) : Int × Int := if ckLoads ts ls ≠ 0 then (0, ckLoads ts ls) else if okPr p ∧ 0 ≤ f ∧ f ≤ 1000 then (keptM ts ls p f, 0) else (0, 2)
theorem keptE_1 {ts : List Cp} {ls : List Ld} {p f : Int} (h : ckLoads ts ls ≠ 0) : keptE ts ls p f = (0, ckLoads ts ls) := if_pos h
theorem keptE_2 {ts : List Cp} {ls : List Ld} {p f : Int} (h : ¬ ckLoads ts ls ≠ 0) (h2 : ¬ (okPr p ∧ 0 ≤ f ∧ f ≤ 1000)) : keptE ts ls p f = (0, 2) := by unfold keptE; rw [if_neg h, if_neg h2]
theorem keptE_3 {ts : List Cp} {ls : List Ld} {p f : Int} (h : ¬ ckLoads ts ls ≠ 0) (h2 : okPr p ∧ 0 ≤ f ∧ f ≤ 1000) : keptE ts ls p f = (keptM ts ls p f, 0) := by unfold keptE; rw [if_neg h, if_pos h2]
end Go.Proofs.YtacndicgpkeobaaGreatDoor
namespace Go.Proofs.YtacndicgpkeobaaGreatDoor

/-! ### Ceilings -/
theorem lim_line (c : Cp) (p f : Int) : limM c p f = limM c 0 f + p * (1000000 + f * (c.s - 1000)) := by unfold limM; grind
structure okFa (ts : List Cp) (ls : List Ld) (f : Int) : Prop where
  k : okTL ts ls
  ct : ckLoads ts ls = 0
  fb : 0 ≤ f ∧ f ≤ 1000
  e : ceilE ts ls f = (ceilF f ts ls ⟨0, 0⟩, 0)
/-! ### The legs of a plan -/
structure Dl where
  s : Int
  d : Int
  g : Int
end Go.Proofs.YtacndicgpkeobaaGreatDoor
