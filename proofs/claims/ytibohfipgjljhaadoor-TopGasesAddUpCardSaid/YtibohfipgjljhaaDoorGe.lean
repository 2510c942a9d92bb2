/-
  Plain models of chapter 1: mixtures: what is checked, the sums, lowest terms, the nearest gas. Conditions: none; no program in sight.
-/
import Derived.Test.YtibohfipgjljhaaDoorGa
import Derived.Test.YtibohfipgjljhaaDoorArgG
namespace Go.Proofs.YtibohfipgjljhaaDoor
variable {l : List Gp} {k : Nat} {x : Gp}
/-! ### What is checked -/
def ckPt (x : Gp) : Int := if ckGas x.o x.h = 0 then (if 0 ≤ x.a ∧ x.a ≤ 1000000000 then 0 else 2) else ckGas x.o x.h
theorem pt_first (x : Gp) : firstE [ckGas x.o x.h, if 0 ≤ x.a ∧ x.a ≤ 1000000000 then 0 else 2] = ckPt x := first2 _ _
theorem pt_1 (h : ckGas x.o x.h ≠ 0) : ckPt x = ckGas x.o x.h := if_neg h
theorem pt_2 (h : ckGas x.o x.h = 0) (h2 : ¬ (0 ≤ x.a ∧ x.a ≤ 1000000000)) : ckPt x = 2 := by unfold ckPt; rw [if_pos h, if_neg h2]
theorem pt_3 (h : ckGas x.o x.h = 0) (h2 : 0 ≤ x.a ∧ x.a ≤ 1000000000) : ckPt x = 0 := by unfold ckPt; rw [if_pos h, if_pos h2]
theorem pt_ok (h : ckPt x = 0) : okGp x := by
  unfold ckPt at h
  by_cases h1 : ckGas x.o x.h = 0
  · rw [if_pos h1] at h
    by_cases h2 : 0 ≤ x.a ∧ x.a ≤ 1000000000
    · exact ⟨h1, h2⟩
    · rw [if_neg h2] at h; exact absurd h (by decide)
  · rw [if_neg h1] at h; exact absurd h h1
def ckPs : List Gp → Int
  | [] => 0
  | x :: t => if ckPt x ≠ 0 then ckPt x else ckPs t
theorem ps_yes (h : l[k]? = some x) (hx : ckPt x ≠ 0) : ckPs (l.drop k) = ckPt x := by rw [drop_cons h]; exact if_pos hx
theorem ps_no (h : l[k]? = some x) (hx : ¬ ckPt x ≠ 0) : ckPs (l.drop k) = ckPs (l.drop (k + 1)) := by rw [drop_cons h]; exact if_neg hx
theorem ps_end (h : l.length ≤ k) : ckPs (l.drop k) = 0 := by rw [drop_all h]; rfl
theorem ps_ok : ∀ {l : List Gp}, ckPs l = 0 → ∀ x ∈ l, okGp x
  | [], _, x, hx => by cases hx
  | d :: t, h, x, hx => by
    unfold ckPs at h
    split at h
    · rename_i hd; exact absurd h hd
    · rename_i hd
      rcases List.mem_cons.1 hx with rfl | hx
      · exact pt_ok (Decidable.not_not.1 hd)
      · exact ps_ok h x hx
def ckPa (l : List Gp) : Int := if l.length > 12 then 8 else if ckPs l = 0 then (if smA l l.length = 0 then 11 else 0) else ckPs l
theorem pa_1 (h : l.length > 12) : ckPa l = 8 := if_pos h
theorem pa_2 (h : ¬ l.length > 12) (h2 : ckPs l ≠ 0) : ckPa l = ckPs l := by unfold ckPa; rw [if_neg h, if_neg h2]
theorem pa_3 (h : ¬ l.length > 12) (h2 : ckPs l = 0) (h3 : smA l l.length = 0) : ckPa l = 11 := by unfold ckPa; rw [if_neg h, if_pos h2, if_pos h3]
theorem pa_4 (h : ¬ l.length > 12) (h2 : ckPs l = 0) (h3 : smA l l.length ≠ 0) : ckPa l = 0 := by unfold ckPa; rw [if_neg h, if_pos h2, if_neg h3]
structure okPa (l : List Gp) : Prop where
  le : l.length ≤ 12
  ok : ∀ x ∈ l, okGp x
  a0 : 1 ≤ smA l l.length
theorem pa_ok (h : ckPa l = 0) : okPa l := by
  unfold ckPa at h
  by_cases h1 : l.length > 12
  · rw [if_pos h1] at h; exact absurd h (by decide)
  · rw [if_neg h1] at h
    by_cases h2 : ckPs l = 0
    · rw [if_pos h2] at h
      by_cases h3 : smA l l.length = 0
      · rw [if_pos h3] at h; exact absurd h (by decide)
      · have := (sm_in (ps_ok h2) l.length (Nat.le_refl _)).1
        exact ⟨by omega, ps_ok h2, by omega⟩
    · rw [if_neg h2] at h; exact absurd h h2
theorem okPa.ck9 (h : okPa l) : ckPa l = 0 := by
  have h1 := h.le; have h2 := h.a0
  have hp : ckPs l = 0 := by
    have : ∀ {m : List Gp}, (∀ x ∈ m, okGp x) → ckPs m = 0 := by
      intro m
      induction m with
      | nil => exact fun _ => rfl
      | cons x t ih =>
        intro hm
        have hx := hm x (List.mem_cons_self ..)
        unfold ckPs
        rw [if_neg (fun hh => hh (pt_3 hx.1 hx.2))]
        exact ih fun y hy => hm y (List.mem_cons_of_mem _ hy)
    exact this h.ok
  exact pa_4 (by omega) hp (by omega)
theorem smN_eq (l : List Gp) : ∀ k, smN l k = 1000 * smA l k - smO l k - smH l k
  | 0 => rfl
  | k + 1 => by
    have h := smN_eq l k
    show smN l k + (1000 - (gpAt l k).o - (gpAt l k).h) * (gpAt l k).a = 1000 * (smA l k + (gpAt l k).a) - (smO l k + (gpAt l k).o * (gpAt l k).a) - (smH l k + (gpAt l k).h * (gpAt l k).a)
    rw [h]
    grind
/-! ### Lowest terms -/
def gcdI (x y : Int) : Int := (Nat.gcd x.toNat y.toNat : Nat)
theorem gcdI_dvd {x y : Int} (hx : 0 ≤ x) (hy : 0 ≤ y) : gcdI x y ∣ x ∧ gcdI x y ∣ y := by
  obtain ⟨m, rfl⟩ := Int.eq_ofNat_of_zero_le hx
  obtain ⟨n, rfl⟩ := Int.eq_ofNat_of_zero_le hy
  exact ⟨Int.natCast_dvd_natCast.2 (Nat.gcd_dvd_left m n), Int.natCast_dvd_natCast.2 (Nat.gcd_dvd_right m n)⟩
theorem gcdI_pos {x y : Int} (hy : 1 ≤ y) : 1 ≤ gcdI x y := by
  have := Nat.gcd_pos_of_pos_right x.toNat (show 0 < y.toNat by omega)
  unfold gcdI
  omega
theorem gcdI_nn (x y : Int) : 0 ≤ gcdI x y := Int.natCast_nonneg _
theorem gcdI_zero {x : Int} (hx : 0 ≤ x) : gcdI x 0 = x := by
  obtain ⟨m, rfl⟩ := Int.eq_ofNat_of_zero_le hx
  exact congrArg Int.ofNat (Nat.gcd_zero_right m)
theorem gcdI_step {x y : Int} (hx : 0 ≤ x) (hy : 0 ≤ y) : gcdI y (x % y) = gcdI x y := by
  obtain ⟨m, rfl⟩ := Int.eq_ofNat_of_zero_le hx
  obtain ⟨n, rfl⟩ := Int.eq_ofNat_of_zero_le hy
  exact congrArg Int.ofNat (gcd_step m n)
theorem gcdI_mul {x y c : Int} (hx : 0 ≤ x) (hy : 0 ≤ y) (hc : 0 ≤ c) : gcdI (c * x) (c * y) = c * gcdI x y := by
  obtain ⟨m, rfl⟩ := Int.eq_ofNat_of_zero_le hx
  obtain ⟨n, rfl⟩ := Int.eq_ofNat_of_zero_le hy
  obtain ⟨d, rfl⟩ := Int.eq_ofNat_of_zero_le hc
  exact congrArg Int.ofNat (Nat.gcd_mul_left d m n)
def lwN (x y : Int) : Int := x / gcdI x y
def lwD (x y : Int) : Int := y / gcdI x y
theorem lw_mul {x y : Int} (hx : 0 ≤ x) (hy : 1 ≤ y) : x = lwN x y * gcdI x y ∧ y = lwD x y * gcdI x y := by
  have h := gcdI_dvd hx (show 0 ≤ y by omega)
  exact ⟨(Int.ediv_mul_cancel h.1).symm, (Int.ediv_mul_cancel h.2).symm⟩
theorem lw_in {x y : Int} (hx : 0 ≤ x) (hy : 1 ≤ y) : (0 ≤ lwN x y ∧ lwN x y ≤ x) ∧ 1 ≤ lwD x y ∧ lwD x y ≤ y := by
  have hg := gcdI_pos (x := x) hy
  have hm := (lw_mul hx hy).2
  refine ⟨⟨Int.ediv_nonneg hx (by omega), Int.ediv_le_self _ hx⟩, ?_, Int.ediv_le_self _ (by omega)⟩
  have h0 : 0 ≤ lwD x y := Int.ediv_nonneg (by omega) (by omega)
  rcases Int.lt_or_eq_of_le h0 with h | h
  · omega
  · rw [← h, Int.zero_mul] at hm; omega
theorem lw_eq {x y x' y' : Int} (hx : 0 ≤ x) (hy : 1 ≤ y) (hx' : 0 ≤ x') (hy' : 1 ≤ y') (h : x * y' = x' * y) : lwN x y = lwN x' y' ∧ lwD x y = lwD x' y' := by
  have e1 := gcdI_mul hx (show 0 ≤ y by omega) (show 0 ≤ y' by omega)
  have e2 := gcdI_mul hx' (show 0 ≤ y' by omega) (show 0 ≤ y by omega)
  rw [show y' * x = y * x' by rw [Int.mul_comm y' x, h, Int.mul_comm], show y' * y = y * y' from Int.mul_comm _ _, e2] at e1
  have hg := gcdI_pos (x := x) hy; have hg' := gcdI_pos (x := x') hy'
  obtain ⟨m1, m2⟩ := lw_mul hx hy; obtain ⟨m3, m4⟩ := lw_mul hx' hy'
  obtain ⟨⟨b1, _⟩, b2, _⟩ := lw_in hx hy; obtain ⟨⟨b3, _⟩, b4, _⟩ := lw_in hx' hy'
  generalize lwN x y = m at *; generalize lwD x y = e at *; generalize lwN x' y' = m' at *; generalize lwD x' y' = e' at *
  generalize gcdI x y = g at *; generalize gcdI x' y' = g' at *
  subst m1 m2 m3 m4
  have hp : g * g' ≠ 0 := Int.mul_ne_zero (by omega) (by omega)
  have he : e = e' := Int.eq_of_mul_eq_mul_right hp (by rw [← Int.mul_assoc, e1]; grind)
  subst he
  refine ⟨?_, rfl⟩
  have hq : e * (g * g') ≠ 0 := Int.mul_ne_zero (by omega) hp
  exact Int.eq_of_mul_eq_mul_right hq (by grind)
/-! ### Mixtures -/
def mxX (l : List Gp) : Nat → Int
  | 0 => smO l l.length
  | 1 => smH l l.length
  | _ => smN l l.length
def alM (l : List Gp) : Int := 1000 * smA l l.length
theorem mx_in (H : okPa l) : (1000 ≤ alM l ∧ alM l ≤ 12000000000000) ∧ (0 ≤ smO l l.length ∧ smO l l.length ≤ alM l) ∧ (0 ≤ smH l l.length ∧ smH l l.length ≤ alM l) ∧ (0 ≤ smN l l.length ∧ smN l l.length ≤ alM l) := by
  obtain ⟨⟨h1, h2⟩, ⟨h3, _⟩, ⟨h4, _⟩, h5, _⟩ := sm_in H.ok l.length (Nat.le_refl _)
  have h6 := smN_eq l l.length; have h7 := H.a0; have h8 := H.le
  unfold alM
  omega
theorem mxX_in (H : okPa l) (i : Nat) : 0 ≤ mxX l i ∧ mxX l i ≤ alM l := by
  obtain ⟨_, h1, h2, h3⟩ := mx_in H
  unfold mxX
  split <;> assumption
def mnI (l : List Gp) (i : Nat) : Int := lwN (mxX l i) (alM l)
def mdI (l : List Gp) (i : Nat) : Int := lwD (mxX l i) (alM l)
theorem mi_in (H : okPa l) (i : Nat) : (0 ≤ mnI l i ∧ mnI l i ≤ 12000000000000) ∧ 1 ≤ mdI l i ∧ mdI l i ≤ 12000000000000 := by
  have h1 := mxX_in H i; have h2 := (mx_in H).1
  have h3 := lw_in h1.1 (show 1 ≤ alM l by omega)
  unfold mnI mdI
  omega
/-- one of the three is too big -/
def mbg (l : List Gp) (i : Nat) : Prop := mnI l i > 1000000000 ∨ mdI l i > 1000000000
instance (l : List Gp) (i : Nat) : Decidable (mbg l i) := by unfold mbg; infer_instance
def mall (l : List Gp) : Prop := ¬ mbg l 0 ∧ ¬ mbg l 1 ∧ ¬ mbg l 2
instance (l : List Gp) : Decidable (mall l) := by unfold mall; infer_instance
def mixC (l : List Gp) : Int := if ckPa l = 0 then (if mall l then 0 else 8) else ckPa l
def mxP (l : List Gp) (k : Nat) : List Int := [if 1 ≤ k then mnI l 0 else 0, if 1 ≤ k then mdI l 0 else 0, if 2 ≤ k then mnI l 1 else 0, if 2 ≤ k then mdI l 1 else 0, if 3 ≤ k then mnI l 2 else 0, if 3 ≤ k then mdI l 2 else 0]
def mixV (l : List Gp) : List Int := mxP l (if mixC l = 0 then 3 else 0)
theorem mix_1 (h : ckPa l ≠ 0) : mixC l = ckPa l ∧ mixV l = [0, 0, 0, 0, 0, 0] := by
  have e : mixC l = ckPa l := if_neg h
  refine ⟨e, ?_⟩
  unfold mixV
  rw [e, if_neg h]; rfl
theorem mix_2 (h : ckPa l = 0) (h2 : ¬ mall l) : mixC l = 8 ∧ mixV l = [0, 0, 0, 0, 0, 0] := by
  have e : mixC l = 8 := by unfold mixC; rw [if_pos h, if_neg h2]
  refine ⟨e, ?_⟩
  unfold mixV
  rw [e]; rfl
theorem mix_3 (h : ckPa l = 0) (h2 : mall l) : mixC l = 0 ∧ mixV l = [mnI l 0, mdI l 0, mnI l 1, mdI l 1, mnI l 2, mdI l 2] := by
  have e : mixC l = 0 := by unfold mixC; rw [if_pos h, if_pos h2]
  refine ⟨e, ?_⟩
  unfold mixV
  rw [e]; rfl
/-- none of the first is too big -/
def mgd (l : List Gp) (k : Nat) : Prop := ∀ i, i < k → ¬ mbg l i
theorem mgd_0 (l : List Gp) : mgd l 0 := fun _ h => absurd h (Nat.not_lt_zero _)
theorem mgd_s (h : mgd l k) (h2 : ¬ mbg l k) : mgd l (k + 1) := fun i hi => by
  rcases Nat.lt_or_ge i k with h3 | h3
  · exact h i h3
  · rw [show i = k by omega]; exact h2
theorem mgd_all (h : mgd l 3) : mall l := ⟨h 0 (by omega), h 1 (by omega), h 2 (by omega)⟩
theorem not_all {i : Nat} (hi : i < 3) (h : mbg l i) : ¬ mall l := by
  rintro ⟨h0, h1, h2⟩
  match i, hi with
  | 0, _ => exact h0 h
  | 1, _ => exact h1 h
  | 2, _ => exact h2 h
/-! ### The nearest gas -/
def nrR (l : List Gp) (x : Int) : Int := (2 * x + smA l l.length) / (2 * smA l l.length)
def nrO (l : List Gp) : Int := nrR l (smO l l.length)
def nrH (l : List Gp) : Int := min (nrR l (smH l l.length)) (1000 - nrO l)
theorem nrR_in (H : okPa l) {x : Int} (h0 : 0 ≤ x) (h1 : x ≤ alM l) : 0 ≤ nrR l x ∧ nrR l x ≤ 1000 := by
  have ha := H.a0
  unfold nrR alM at *
  generalize smA l l.length = a at *
  refine ⟨Int.ediv_nonneg (by omega) (by omega), ?_⟩
  have : (2 * x + a) / (2 * a) < 1001 := Int.ediv_lt_of_lt_mul (by omega) (by omega)
  omega
theorem nr_in (H : okPa l) : (0 ≤ nrO l ∧ nrO l ≤ 1000) ∧ (0 ≤ nrR l (smH l l.length) ∧ nrR l (smH l l.length) ≤ 1000) ∧ ckGas (nrO l) (nrH l) = 0 := by
  obtain ⟨_, ⟨h1, h2⟩, ⟨h3, h4⟩, _⟩ := mx_in H
  have h5 := nrR_in H h1 h2; have h6 := nrR_in H h3 h4
  have h7 : 0 ≤ nrO l ∧ nrO l ≤ 1000 := h5
  refine ⟨h7, h6, ?_⟩
  have e : nrH l = min (nrR l (smH l l.length)) (1000 - nrO l) := rfl
  unfold ckGas
  rw [if_neg (by omega), if_neg (by omega)]
def nrV (l : List Gp) : List Int := [if ckPa l = 0 then nrO l else 0, if ckPa l = 0 then nrH l else 0]
theorem nrV_1 (h : ckPa l ≠ 0) : nrV l = [0, 0] := by unfold nrV; rw [if_neg h, if_neg h]
theorem nrV_2 (h : ckPa l = 0) : nrV l = [nrO l, nrH l] := by unfold nrV; rw [if_pos h, if_pos h]
theorem one_gp (l : List Gp) : ∀ c ∈ (l.map cGp).flatten, c.oneCell' = true := one_map cGp (fun _ _ h => by simp only [cGp, List.mem_cons, List.not_mem_nil, or_false] at h; rcases h with rfl | rfl | rfl <;> rfl) l
end Go.Proofs.YtibohfipgjljhaaDoor
