/-
  A stay draws each load nearer to what is breathed: the plain law of TopNearer. Conditions: none; no program in sight.
-/
import Derived.Test.YtfhfadfnbnliiaaTraj5
namespace Go.Proofs.Ytfhfadfnbnliiaa

theorem near_btw {l d : Rg} {a : Int} {z : Int} (hd : inD d) (h1 : min z a ≤ l.lo) (h2 : l.lo ≤ l.hi) (h3 : l.hi ≤ max z a) : min z a ≤ (nearM l a a d).lo ∧ (nearM l a a d).hi ≤ max z a := by
  obtain ⟨d1, d2, d3, d4⟩ := hd
  unfold nearM
  dsimp only
  constructor
  · by_cases hc : l.lo ≥ a
    · rw [if_pos hc]
      have : 0 ≤ (l.lo - a) * d.lo := Int.mul_nonneg (by omega) d1
      omega
    · rw [if_neg hc]
      have p := Int.mul_le_mul_of_nonneg_left d4 (show 0 ≤ a - l.lo by omega)
      unfold upZ
      omega
  · by_cases hc : l.hi ≥ a
    · rw [if_pos hc]
      have p := Int.mul_le_mul_of_nonneg_left d4 (show 0 ≤ l.hi - a by omega)
      unfold upZ
      omega
    · rw [if_neg hc]
      have : 0 ≤ (a - l.hi) * d.lo := Int.mul_nonneg (by omega) d1
      omega
theorem sum_flat {x : Lg} (h : x.f = x.t) (t : Int) : sumM x t = x.f * x.s := by rw [← sum_alt, h]; grind
theorem st_flat {x : Lg} {n k : Nat} (hs : x.s > 0) (h : x.f = x.t) : stLo x n k = x.f ∧ stHi x n k = x.f := by
  have e1 : x.f * x.s / x.s = x.f := Int.mul_ediv_cancel _ (by omega)
  have e2 : upZ (x.f * x.s) x.s = x.f := by
    unfold upZ
    have e : x.f * x.s + x.s - 1 = (x.s - 1) + x.s * x.f := by grind
    rw [e, Int.add_mul_ediv_left _ _ (by omega), Int.ediv_eq_zero_of_lt (by omega) (by omega)]
    omega
  unfold stLo stHi
  rw [mk_pos hs, mk_pos hs, sum_flat h, sum_flat h]
  dsimp only
  rw [e1, e2]
  omega
theorem seqR_btw {f n : Nat} {x : Lg} {part half : Int} {l : Rg} (hO : onLeg x n part half) (hs : x.s > 0) (hf : x.f = x.t) (hone : l.lo = l.hi) : ∀ k, k ≤ n →
    min l.lo (part * (x.f - 63)) ≤ (seqR f x n part half l k).lo ∧ (seqR f x n part half l k).lo ≤ (seqR f x n part half l k).hi ∧ (seqR f x n part half l k).hi ≤ max l.lo (part * (x.f - 63))
  | 0, _ => by
    show min l.lo _ ≤ l.lo ∧ l.lo ≤ l.hi ∧ l.hi ≤ max l.lo _
    omega
  | k + 1, hk => by
    obtain ⟨i1, i2, i3⟩ := seqR_btw (f := f) hO hs hf hone k (by omega)
    obtain ⟨e1, e2⟩ := st_flat (n := n) (k := k) hs hf
    have hm := mk_mono hO.x hO.n.1 k
    have hdd := decM_ord (s := (mkM x n ((k : Int) + 1)).s - (mkM x n k).s) (h := half) (8 + 2 * f) (by omega) (by have := hO.h; omega)
    have hd := decM_in ((mkM x n ((k : Int) + 1)).s - (mkM x n k).s) half (8 + 2 * f)
    show min l.lo _ ≤ (nearM (seqR f x n part half l k) (part * (stLo x n k - 63)) (part * (stHi x n k - 63)) _).lo ∧ (nearM _ _ _ _).lo ≤ (nearM _ _ _ _).hi ∧ (nearM _ _ _ _).hi ≤ _
    rw [e1, e2]
    have h1 := near_btw (z := l.lo) hd i1 i2 i3
    have h2 := near_ord i2 (Int.le_refl (part * (x.f - 63))) hd hdd
    exact ⟨h1.1, h2, h1.2⟩
/-- twice the time never brings it back -/
theorem seqR_twice {f n : Nat} {x y : Lg} {part half : Int} {l : Rg} (hO : onLeg x n part half) (hP : onLeg y n part half) (hs : x.s > 0) (hf : x.f = x.t) (hf2 : y.f = x.f) (ht2 : y.t = x.f) (h2 : y.s = 2 * x.s) (hl : inX l) (hone : l.lo = l.hi) :
    (l.lo ≥ part * (x.f - 63) → (seqR f y n part half l n).lo ≤ (seqR f x n part half l n).hi) ∧ (l.lo < part * (x.f - 63) → (seqR f x n part half l n).lo ≤ (seqR f y n part half l n).hi) := by
  obtain ⟨h, rfl⟩ := Int.eq_ofNat_of_zero_le (show 0 ≤ half by have := hO.h; omega)
  obtain ⟨r, η, H, hη⟩ := rt_ex h (by have := hO.h; omega) 800000000000000 (by decide)
  have hys : y.s > 0 := by omega
  have hq : goes (fun _ => (part : Rat) * ((x.f : Rat) - 63)) 0 x part := fun t _ => by
    rw [prs_flat hs hf]
  have hqy : goes (fun _ => (part : Rat) * ((x.f : Rat) - 63)) 0 y part := fun t _ => by
    rw [prs_flat hys (by rw [hf2, ht2]), hf2]
  have e : traj (fun _ => (part : Rat) * ((x.f : Rat) - 63)) r (l.lo : Rat) 0 = (l.lo : Rat) := rfl
  have p1 : (l.lo : Rat) ≤ traj (fun _ => (part : Rat) * ((x.f : Rat) - 63)) r (l.lo : Rat) 0 + 0 := by rw [e]; grind
  have p2 : traj (fun _ => (part : Rat) * ((x.f : Rat) - 63)) r (l.lo : Rat) 0 ≤ (l.hi : Rat) + 0 := by rw [e, ← hone]; grind
  have a := leg_enc (f := f) (ε := 0) H hO hs hl (Rat.le_refl) hq p1 p2 n (Nat.le_refl _)
  have b := leg_enc (f := f) (ε := 0) H hP hys hl (Rat.le_refl) hqy p1 p2 n (Nat.le_refl _)
  rw [mk_end hO.n.1] at a
  rw [mk_end hP.n.1, h2] at b
  obtain ⟨t, ht⟩ := Int.eq_ofNat_of_zero_le (show 0 ≤ x.s by omega)
  have hxs := hO.x.s
  have hps := hP.x.s
  have s1 := small_ex H.e0 hη (show x.s ≤ 1000000 by omega)
  have s2 := small_ex H.e0 hη (show 2 * x.s ≤ 1000000 by omega)
  have et : (2 * x.s).toNat = t + t := by omega
  have et1 : x.s.toNat = t := by omega
  rw [et1] at a
  rw [et] at b
  have hqa : ((part * (x.f - 63) : Int) : Rat) = (part : Rat) * ((x.f : Rat) - 63) := by rw [Rat.intCast_mul, cst]; rfl
  have p0 : (0 : Rat) ≤ r ^ t := Rat.pow_nonneg H.r0
  have pl := pow_le1 H.r0 H.rle t
  constructor
  · intro hge
    have hge' := cle hge
    rw [hqa] at hge'
    have g1 := traj_ge (q := fun _ => (part : Rat) * ((x.f : Rat) - 63)) (x0 := (l.lo : Rat)) (t0 := 0) H.r0 H.rle t (a := (part : Rat) * ((x.f : Rat) - 63)) (fun _ _ _ => Rat.le_refl)
    have g2 := traj_le (q := fun _ => (part : Rat) * ((x.f : Rat) - 63)) (x0 := (l.lo : Rat)) (t0 := t) H.r0 H.rle t (b := (part : Rat) * ((x.f : Rat) - 63)) (fun _ _ _ => Rat.le_refl)
    rw [e] at g1
    rw [Nat.zero_add] at a b g1
    have a2 := a.2
    have b1 := b.1
    revert g1 g2 a2 b1
    generalize traj _ r _ t = T
    generalize traj _ r _ (t + t) = U
    generalize (part : Rat) * ((x.f : Rat) - 63) = A at *
    intro g1 g2 a2 b1
    have n1 : 0 ≤ ((l.lo : Rat) - A) * r ^ t := Rat.mul_nonneg (by grind) p0
    have n2 : (T - A) * r ^ t ≤ (T - A) * 1 := Rat.mul_le_mul_of_nonneg_left pl (by grind)
    exact int_le (x := T) (ε := 1 / 8) (by grind) (by grind) (by grind)
  · intro hlt
    have hle' := cle (show l.lo ≤ part * (x.f - 63) by omega)
    rw [hqa] at hle'
    have g1 := traj_le (q := fun _ => (part : Rat) * ((x.f : Rat) - 63)) (x0 := (l.lo : Rat)) (t0 := 0) H.r0 H.rle t (b := (part : Rat) * ((x.f : Rat) - 63)) (fun _ _ _ => Rat.le_refl)
    have g2 := traj_ge (q := fun _ => (part : Rat) * ((x.f : Rat) - 63)) (x0 := (l.lo : Rat)) (t0 := t) H.r0 H.rle t (a := (part : Rat) * ((x.f : Rat) - 63)) (fun _ _ _ => Rat.le_refl)
    rw [e] at g1
    rw [Nat.zero_add] at a b g1
    have a1 := a.1
    have b2 := b.2
    revert g1 g2 a1 b2
    generalize traj _ r _ t = T
    generalize traj _ r _ (t + t) = U
    generalize (part : Rat) * ((x.f : Rat) - 63) = A at *
    intro g1 g2 a1 b2
    have n1 : 0 ≤ (A - (l.lo : Rat)) * r ^ t := Rat.mul_nonneg (by grind) p0
    have n2 : (A - T) * r ^ t ≤ (A - T) * 1 := Rat.mul_le_mul_of_nonneg_left pl (by grind)
    exact int_le (x := T) (ε := 1 / 8) (by grind) (by grind) (by grind)
/-! ### Loads out of numbers -/
def numL (ns : List Int) (i : Nat) : Ld := ⟨⟨(ns[2 * i]?.getD 0) % 5000000, (ns[2 * i]?.getD 0) % 5000000⟩, ⟨(ns[2 * i + 1]?.getD 0) % 5000000, (ns[2 * i + 1]?.getD 0) % 5000000⟩⟩
def numLs (ns : List Int) (k : Nat) : List Ld := (List.range k).map (numL ns)
theorem numLs_len (ns : List Int) (k : Nat) : (numLs ns k).length = k := by simp [numLs]
theorem numLs_get {ns : List Int} {k i : Nat} (h : i < k) : (numLs ns k)[i]? = some (numL ns i) := by simp [numLs, h]
theorem numLs_succ (ns : List Int) (k : Nat) : numLs ns (k + 1) = numLs ns k ++ [numL ns k] := by
  unfold numLs
  rw [List.range_succ, List.map_append]
  rfl
theorem numL_in (ns : List Int) (i : Nat) : inLd (numL ns i) ∧ ordLd (numL ns i) := by
  have h1 := Int.emod_nonneg (ns[2 * i]?.getD 0) (show (5000000 : Int) ≠ 0 by decide)
  have h2 := Int.emod_lt_of_pos (ns[2 * i]?.getD 0) (show (0 : Int) < 5000000 by decide)
  have h3 := Int.emod_nonneg (ns[2 * i + 1]?.getD 0) (show (5000000 : Int) ≠ 0 by decide)
  have h4 := Int.emod_lt_of_pos (ns[2 * i + 1]?.getD 0) (show (0 : Int) < 5000000 by decide)
  unfold numL
  exact ⟨⟨⟨h1, by dsimp only; omega, h1, by dsimp only; omega⟩, ⟨h3, by dsimp only; omega, h3, by dsimp only; omega⟩⟩, ⟨Int.le_refl _, Int.le_refl _⟩⟩
theorem num_ok {ts : List Cp} (ns : List Int) (h : 1 ≤ ts.length ∧ ts.length ≤ 16) (hc : ∀ c ∈ ts, okCp c) : okTL ts (numLs ns ts.length) :=
  ⟨h.1, h.2, numLs_len _ _, hc, fun y hy => by
    obtain ⟨i, _, rfl⟩ := List.mem_map.1 hy
    exact (numL_in ns i).1, fun y hy => by
    obtain ⟨i, _, rfl⟩ := List.mem_map.1 hy
    exact (numL_in ns i).2⟩
theorem ckTab_yes {ts : List Cp} (h : ckTab ts = 0) : (1 ≤ ts.length ∧ ts.length ≤ 16) ∧ ckCps ts = 0 := by
  unfold ckTab at h
  by_cases h1 : 1 ≤ ts.length ∧ ts.length ≤ 16
  · rw [if_pos h1] at h; exact ⟨h1, h⟩
  · rw [if_neg h1] at h; cases h
theorem ckLeg_flat {y : Lg} (h : okLg y) (hs : y.f = y.t) : ckLeg y = 0 := by
  have h1 := h.f
  have h2 := h.t
  have h3 := h.s
  have a := h.g.a
  have b := h.g.b
  have c := h.g.c
  unfold ckLeg
  rw [if_neg (fun hh => hh ⟨h1, h2, h3⟩)]
  have hg : ckGas y.g.o y.g.h = 0 := by
    unfold ckGas
    rw [if_neg (by omega), if_neg (by omega)]
  rw [hg, if_neg (by omega), if_neg (by omega)]
/-- the promise: a stay draws each load nearer, twice the time never brings it back -/
theorem near_stay {ts : List Cp} {ls : List Ld} {x y : Lg} {i : Nat} {z a b : Ld} (hk : okTL ts ls) (hx : okLg x) (hy : okLg y) (hf : x.f = x.t) (hf2 : y.f = x.f) (ht2 : y.t = x.f) (h2 : y.s = 2 * x.s) (hg : y.g = x.g) (hz : ls[i]? = some z) (hone : z.n.lo = z.n.hi ∧ z.h.lo = z.h.hi)
    (ha : (loadedM ts ls x 3)[i]? = some a) (hb : (loadedM ts ls y 3)[i]? = some b) :
    (a.n.lo ≤ a.n.hi ∧ min z.n.lo ((1000 - x.g.o - x.g.h) * (x.f - 63)) ≤ a.n.lo ∧ a.n.hi ≤ max z.n.lo ((1000 - x.g.o - x.g.h) * (x.f - 63))) ∧ (a.h.lo ≤ a.h.hi ∧ min z.h.lo (x.g.h * (x.f - 63)) ≤ a.h.lo ∧ a.h.hi ≤ max z.h.lo (x.g.h * (x.f - 63))) ∧
    (b.n.lo ≤ b.n.hi ∧ min z.n.lo ((1000 - x.g.o - x.g.h) * (x.f - 63)) ≤ b.n.lo ∧ b.n.hi ≤ max z.n.lo ((1000 - x.g.o - x.g.h) * (x.f - 63))) ∧ (b.h.lo ≤ b.h.hi ∧ min z.h.lo (x.g.h * (x.f - 63)) ≤ b.h.lo ∧ b.h.hi ≤ max z.h.lo (x.g.h * (x.f - 63))) ∧
    (z.n.lo ≥ (1000 - x.g.o - x.g.h) * (x.f - 63) → b.n.lo ≤ a.n.hi) ∧ (z.n.lo < (1000 - x.g.o - x.g.h) * (x.f - 63) → a.n.lo ≤ b.n.hi) := by
  by_cases h0 : x.s = 0
  · rw [loadedM_zero h0, hz] at ha
    rw [loadedM_zero (by omega), hz] at hb
    injection ha with ha
    injection hb with hb
    subst ha; subst hb
    omega
  · have hs : x.s > 0 := by have := hx.s; omega
    have n1 := two_f (show 3 ≤ 6 by decide) rfl
    rw [loadedM_pos h0 rfl] at ha
    rw [loadedM_pos (by omega) rfl] at hb
    obtain ⟨c, w, hc, hw, rfl⟩ := get_both hk.len ha
    obtain ⟨c', w', hc', hw', rfl⟩ := get_both hk.len hb
    rw [hc] at hc'
    rw [hw] at hw'
    rw [hz] at hw
    injection hc' with hc'
    injection hw' with hw'
    injection hw with hw
    subst hc'; subst hw'; subst hw
    have hck := hk.c c (List.mem_of_getElem? hc)
    have hzi := hk.x z (List.mem_of_getElem? hz)
    have o1 := onLeg_n hx n1 hck
    have o2 := onLeg_h hx n1 hck
    have p1 := onLeg_n hy n1 hck
    have p2 := onLeg_h hy n1 hck
    rw [hg] at p1 p2 ⊢
    have a1 := seqR_btw (f := 3) o1 hs hf hone.1 _ (Nat.le_refl _)
    have a2 := seqR_btw (f := 3) o2 hs hf hone.2 _ (Nat.le_refl _)
    have b1 := seqR_btw (f := 3) p1 (show y.s > 0 by omega) (by rw [hf2, ht2]) hone.1 _ (Nat.le_refl _)
    have b2 := seqR_btw (f := 3) p2 (show y.s > 0 by omega) (by rw [hf2, ht2]) hone.2 _ (Nat.le_refl _)
    rw [hf2] at b1 b2
    have t := seqR_twice (f := 3) o1 p1 hs hf hf2 ht2 h2 hzi.1 hone.1
    exact ⟨⟨a1.2.1, a1.1, a1.2.2⟩, ⟨a2.2.1, a2.1, a2.2.2⟩, ⟨b1.2.1, b1.1, b1.2.2⟩, ⟨b2.2.1, b2.1, b2.2.2⟩, t.1, t.2⟩
end Go.Proofs.Ytfhfadfnbnliiaa
