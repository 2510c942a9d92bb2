/-
  Plain laws of chapter 4: the stops of a schedule that is found; a surely kept leg at every instant; what rests leave. Conditions: those in front of each theorem; no program in sight.
-/
import Derived.Test.YthilaakeimfedaaGreatDoorAs7
import Derived.Test.YthilaakeimfedaaGreatDoorAs9
namespace Go.Proofs.YthilaakeimfedaaGreatDoor

/-- y is a beginning of x -/
structure begins (x y : Lg) : Prop where
  f : y.f = x.f
  g : y.g = x.g
  s : 1 ≤ y.s ∧ y.s ≤ x.s
  line : (y.t - x.f) * x.s = (x.t - x.f) * y.s
theorem begins.ok {x y : Lg} (h : begins x y) (hx : okLg x) : okLg y := by
  have h1 := hx.f
  have h2 := hx.t
  have h3 := hx.s
  have h4 := h.s
  have h5 := h.line
  unfold okPr at h1 h2
  have a1 : 0 ≤ (x.f - 400) * (x.s - y.s) := Int.mul_nonneg (by omega) (by omega)
  have a2 : 0 ≤ (x.t - 400) * y.s := Int.mul_nonneg (by omega) (by omega)
  have a3 : 0 ≤ (31100 - x.f) * (x.s - y.s) := Int.mul_nonneg (by omega) (by omega)
  have a4 : 0 ≤ (31100 - x.t) * y.s := Int.mul_nonneg (by omega) (by omega)
  have e1 : (y.t - 400) * x.s = (x.f - 400) * (x.s - y.s) + (x.t - 400) * y.s := by grind
  have e2 : (31100 - y.t) * x.s = (31100 - x.f) * (x.s - y.s) + (31100 - x.t) * y.s := by grind
  have b1 : 0 ≤ y.t - 400 := Int.nonneg_of_mul_nonneg_left (by rw [e1]; omega) (show 0 < x.s by omega)
  have b2 : 0 ≤ 31100 - y.t := Int.nonneg_of_mul_nonneg_left (by rw [e2]; omega) (show 0 < x.s by omega)
  exact ⟨by unfold okPr; rw [h.f]; exact h1, by unfold okPr; omega, by omega, by rw [h.g]; exact hx.g⟩
theorem prs_beg {x y : Lg} (h : begins x y) (t : Int) : prs y t = prs x t := by
  have h4 := h.s
  have hx : x.s > 0 := by omega
  have hy : y.s > 0 := by omega
  have e : sumM y t * x.s = sumM x t * y.s := by
    rw [← sum_alt, ← sum_alt, h.f]
    have := h.line
    grind
  have e2 : ((sumM y t * x.s : Int) : Rat) = ((sumM x t * y.s : Int) : Rat) := by rw [e]
  rw [Rat.intCast_mul, Rat.intCast_mul, ← prs_mul hx, ← prs_mul hy] at e2
  have px : (0 : Rat) < (x.s : Rat) := Rat.intCast_pos.2 hx
  have py : (0 : Rat) < (y.s : Rat) := Rat.intCast_pos.2 hy
  have pp : (0 : Rat) < (x.s : Rat) * (y.s : Rat) := Rat.mul_pos px py
  have e3 : prs y t * ((x.s : Rat) * (y.s : Rat)) = prs x t * ((x.s : Rat) * (y.s : Rat)) := by grind
  have c1 := Rat.le_of_mul_le_mul_right (a := prs y t) (b := prs x t) (by rw [e3]; exact Rat.le_refl) pp
  have c2 := Rat.le_of_mul_le_mul_right (a := prs x t) (b := prs y t) (by rw [e3]; exact Rat.le_refl) pp
  exact Rat.le_antisymm c1 c2
theorem begins.mid {f g n m k : Nat} {x y : Lg} {part half : Int} {l : Rg} (h : begins x y) (hO : onLeg x n part half) (hP : onLeg y m part half) (hl : inX l) (ho : l.lo ≤ l.hi) (hk : k < n)
    (h1 : (mkM x n k).s ≤ y.s) (h2 : y.s ≤ (mkM x n ((k : Int) + 1)).s) : (seqR g y m part half l m).lo ≤ max (seqR f x n part half l k).hi (seqR f x n part half l (k + 1)).hi := by
  have h4 := h.s
  have hs : x.s > 0 := by omega
  have hsy : y.s > 0 := by omega
  obtain ⟨h, rfl⟩ := Int.eq_ofNat_of_zero_le (show 0 ≤ half by have := hO.h; omega)
  obtain ⟨r, η, H, hη⟩ := rt_ex h (by have := hO.h; omega) 800000000000000 (by decide)
  have hq : goes (fun t => (part : Rat) * (prs x t - 63)) 0 x part := fun t _ => by simp
  have hqy : goes (fun t => (part : Rat) * (prs x t - 63)) 0 y part := fun t _ => by
    rw [prs_beg ‹begins x y›]
    simp
  have e : traj (fun t => (part : Rat) * (prs x t - 63)) r (l.lo : Rat) 0 = (l.lo : Rat) := rfl
  have p1 : (l.lo : Rat) ≤ traj (fun t => (part : Rat) * (prs x t - 63)) r (l.lo : Rat) 0 + 0 := by rw [e]; grind
  have p2 : traj (fun t => (part : Rat) * (prs x t - 63)) r (l.lo : Rat) 0 ≤ (l.hi : Rat) + 0 := by rw [e]; have := cle ho; grind
  have a := (leg_enc (f := g) (ε := 0) H hP hsy hl (Rat.le_refl) hqy p1 p2 m (Nat.le_refl _)).1
  rw [mk_end hP.n.1] at a
  obtain ⟨t, ht⟩ := Int.eq_ofNat_of_zero_le (show 0 ≤ y.s by omega)
  rw [ht] at a h1 h2
  rw [Int.toNat_natCast] at a
  have b := leg_mid (f := f) (ε := 0) H hO hs hl (Rat.le_refl) hq p1 p2 hk h1 h2
  have hmk := mk_in (j := (k : Int) + 1) hO.x (n := (n : Int)) (by omega) (by have := hO.n; omega)
  have hxs := hO.x.s
  have s1 := small_ex H.e0 hη (show (t : Int) ≤ 1000000 by omega)
  have s2 := small_ex H.e0 hη (show (mkM x n ((k : Int) + 1)).s ≤ 1000000 by omega)
  revert a b
  generalize traj _ r _ (0 + t) = T
  intro a b
  exact int_le (x := T) (ε := 1 / 8) (by grind) (by grind) (by grind)
/-- each load behind a beginning is below a peak of its part -/
theorem begins.peak {ts : List Cp} {ls : List Ld} {x y : Lg} {f g i : Nat} {c : Cp} {w : Ld} (hb : begins x y) (hk : okTL ts ls) (hx : okLg x) (hf : f ≤ 6) (hg : g ≤ 6) (hc : ts[i]? = some c) (hw : (loadedM ts ls y g)[i]? = some w) :
    ∃ k, k < 2 ^ f ∧ stLo x (2 ^ f) k ≤ y.t ∧ ∃ a b, (stM f ts ls x (2 ^ f) k)[i]? = some a ∧ (stM f ts ls x (2 ^ f) (k + 1))[i]? = some b ∧ w.n.lo + w.h.lo ≤ peakL a b := by
  have n1 := two_f hf rfl
  have n2 := two_f hg rfl
  have h4 := hb.s
  have hs : x.s > 0 := by omega
  have hy := hb.ok hx
  rw [loadedM_pos (by omega) rfl] at hw
  generalize hn : 2 ^ f = n at *
  generalize hm : 2 ^ g = m at *
  obtain ⟨c', z, hc', hz, rfl⟩ := get_both hk.len hw
  rw [hc] at hc'
  injection hc' with hc'
  subst hc'
  have hck := hk.c c (List.mem_of_getElem? hc)
  have hzi := hk.x z (List.mem_of_getElem? hz)
  have hzo := hk.o z (List.mem_of_getElem? hz)
  obtain ⟨k, hkn, k1, k2⟩ := mk_find (n := n) hx n1.1 (t := y.s) (by omega) (by omega)
  have o1 := onLeg_n hy n2 hck
  have o2 := onLeg_h hy n2 hck
  rw [hb.g] at o1 o2
  have a := hb.mid (f := f) (g := g) (onLeg_n hx n1 hck) o1 hzi.1 hzo.1 hkn k1 k2
  have b := hb.mid (f := f) (g := g) (onLeg_h hx n1 hck) o2 hzi.2 hzo.2 hkn k1 k2
  have hp := prs_in hs k1 k2
  have ht : prs x y.s = (y.t : Rat) := by
    rw [← prs_beg hb]
    have e1 := prs_mul (x := y) (by omega) y.s
    have e2 : sumM y y.s = y.t * y.s := by rw [← sum_alt]; grind
    rw [e2, Rat.intCast_mul] at e1
    have py : (0 : Rat) < (y.s : Rat) := Rat.intCast_pos.2 (by omega)
    exact Rat.le_antisymm (Rat.le_of_mul_le_mul_right (by rw [e1]; exact Rat.le_refl) py) (Rat.le_of_mul_le_mul_right (by rw [e1]; exact Rat.le_refl) py)
  rw [ht] at hp
  refine ⟨k, hkn, Rat.intCast_le_intCast.1 hp.1, _, _, stM_get hc hz k, stM_get hc hz (k + 1), ?_⟩
  rw [hb.g]
  unfold peakL
  dsimp only
  omega
theorem peaks_grow {f : Nat} {ts : List Cp} {ls : List Ld} {x : Lg} {n i j : Nat} {a b : Ld} (ha : (prevM f ts ls x n j)[i]? = some a) (hb : (stM f ts ls x n j)[i]? = some b) : ∀ (k : Nat) (z : Int), j < k → (peaksK f ts ls x n k)[i]? = some z → peakL a b ≤ z
  | 0, _, h, _ => by omega
  | k + 1, z, h, hz => by
    have h1 : (List.zipWith max (peaksK f ts ls x n k) (pkL (prevM f ts ls x n k) (stM f ts ls x n k)))[i]? = some z := hz
    rw [List.getElem?_zipWith] at h1
    cases hp : (peaksK f ts ls x n k)[i]? with
    | none => rw [hp] at h1; simp at h1
    | some v =>
      rw [hp] at h1
      cases hq : (pkL (prevM f ts ls x n k) (stM f ts ls x n k))[i]? with
      | none => rw [hq] at h1; simp at h1
      | some u =>
        rw [hq] at h1
        have h2 : max v u = z := by simpa using h1
        rcases Nat.lt_succ_iff_lt_or_eq.1 h with hj | rfl
        · have := peaks_grow ha hb k v hj hp
          omega
        · unfold pkL at hq
          rw [List.getElem?_zipWith, ha, hb] at hq
          injection hq with hq
          omega
/-- no load behind a beginning is above its peak -/
theorem begins.peaks {ts : List Cp} {ls : List Ld} {x y : Lg} {f g i : Nat} {w : Ld} {z : Int} (hb : begins x y) (hk : okTL ts ls) (hx : okLg x) (hf : f ≤ 6) (hg : g ≤ 6) (hw : (loadedM ts ls y g)[i]? = some w) (hz : (peaksT ts ls x f)[i]? = some z) : w.n.lo + w.h.lo ≤ z := by
  have hi : i < ts.length := by
    have := (List.getElem?_eq_some_iff.1 hw).1
    rw [loadedM_len hk.len] at this
    exact this
  obtain ⟨c, hc⟩ := get_some ts hi
  obtain ⟨k, hkn, _, a, b, ha, hb', hle⟩ := hb.peak hk hx hf hg hc hw
  have h4 := hb.s
  unfold peaksT rmkN at hz
  rw [if_neg (by omega)] at hz
  have := peaks_grow (j := k + 1) (show (prevM f ts ls x (2 ^ f) (k + 1))[i]? = some a from ha) hb' (2 ^ f + 1) z (by omega) hz
  omega
/-- what is surely kept is not surely broken behind a beginning -/
theorem begins.kept {ts : List Cp} {ls : List Ld} {x y : Lg} {fa : Int} {f g : Nat} (hb : begins x y) (H : okTask ts ls x fa) (hf : f ≤ 6) (hg : g ≤ 6) (h2 : keptT ts ls x fa f = 2) : keptM ts (loadedM ts ls y g) y.t fa ≠ 0 := by
  rw [Ne, kept_no, Decidable.not_not]
  have hy : yesB fa f ts ls x (2 ^ f) (rmkN x (2 ^ f)) = true := by
    unfold keptT ansM at h2
    by_cases hy : yesB fa f ts ls x (2 ^ f) (rmkN x (2 ^ f)) = true
    · exact hy
    · rw [if_neg hy] at h2
      split at h2 <;> cases h2
  rw [yesB_iff] at hy
  have h4 := hb.s
  unfold rmkN at hy
  rw [if_neg (by omega)] at hy
  refine all2_get fun i c w hc hw => ?_
  obtain ⟨k, hkn, hle, a, b, ha, hb', hw9⟩ := hb.peak H.k H.xx hf hg hc hw
  have h1 := all2_at (hy (k + 1) (by omega)) i c _ hc (zip_get (show (prevM f ts ls x (2 ^ f) (k + 1))[i]? = some a from ha) hb')
  have hlim := lim_up (H.k.c c (List.mem_of_getElem? hc)) H.fa hle
  unfold pk1 at h1
  dsimp only at h1
  have e3 : lowM x (2 ^ f) (k + 1) = stLo x (2 ^ f) k := rfl
  rw [e3] at h1
  unfold lw1
  omega
end Go.Proofs.YthilaakeimfedaaGreatDoor
namespace Go.Proofs.YthilaakeimfedaaGreatDoor

/-! ### Loads out of numbers -/
end Go.Proofs.YthilaakeimfedaaGreatDoor
namespace Go.Proofs.YthilaakeimfedaaGreatDoor
/-! ### Stops of a schedule that is found -/
/-! ### How many seconds stops have -/
/-! ### A surely kept leg, at every instant -/
/-! ### The direct ascent as a schedule -/
theorem drE_yes {x : Asc} (h : (drE x).1 = 2) : ckAsc x = 0 ∧ (dirA x).1 = 2 := by
  by_cases h1 : ckAsc x ≠ 0
  · rw [drE_1 h1] at h
    exact absurd (show (0 : Int) = 2 from h) (by decide)
  · have h2 := Decidable.not_not.1 h1
    rw [drE_2 h2] at h
    exact ⟨h2, h⟩
theorem dir_ok9 {x : Asc} {y : Dl} {k : Nat} (hz : ckAsc x = 0) (H : okAsc x) (h : ckAl x y = 0) (hd : y.d = 0) (hk : k ≤ fnA x) (h9 : (csE x [y] [(k : Int)]).2 = 0) : csE x [y] [(k : Int)] = (y.s, 0) := by
  rw [csE_2 hz, dir_chk H h hd hk] at h9 ⊢
  split at h9
  · exact absurd h9 (by decide)
  · rename_i h8
    rw [if_neg h8]
theorem dir_no9 {x : Asc} {y : Dl} {k : Nat} (hz : ckAsc x = 0) (H : okAsc x) (h : ckAl x y = 0) (hd : y.d = 0) (hk : k ≤ fnA x) (h9 : ¬ (csE x [y] [(k : Int)]).2 = 0) : keptT x.ts x.ls (lgA x y) (faA x) k ≠ 2 := by
  intro h8
  rw [csE_2 hz, dir_chk H h hd hk, if_neg (fun hh => hh h8)] at h9
  exact h9 rfl
end Go.Proofs.YthilaakeimfedaaGreatDoor
