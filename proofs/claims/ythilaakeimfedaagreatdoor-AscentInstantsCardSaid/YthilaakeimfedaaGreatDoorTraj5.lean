/-
  The beginning of a leg: what is surely kept is not surely broken at any instant. Conditions: none; no program in sight.
-/
import Derived.Test.YthilaakeimfedaaGreatDoorMod8
namespace Go.Proofs.YthilaakeimfedaaGreatDoor

theorem mk_find {x : Lg} {n : Nat} (hx : okLg x) (hn : 1 ≤ n) {t : Int} (h0 : 0 ≤ t) (h1 : t ≤ x.s) : ∃ k : Nat, k < n ∧ (mkM x n k).s ≤ t ∧ t ≤ (mkM x n ((k : Int) + 1)).s := by
  have key : ∀ j : Nat, j ≤ n → (∃ k : Nat, k < n ∧ (mkM x n k).s ≤ t ∧ t ≤ (mkM x n ((k : Int) + 1)).s) ∨ (mkM x n j).s ≤ t := by
    intro j
    induction j with
    | zero =>
      intro _
      have e0 : (mkM x n ((0 : Nat) : Int)).s = 0 := by unfold mkM; simp
      exact .inr (by rw [e0]; exact h0)
    | succ j ih =>
      intro hj
      rcases ih (by omega) with h | h
      · exact .inl h
      · by_cases h2 : t ≤ (mkM x n ((j : Int) + 1)).s
        · exact .inl ⟨j, by omega, h, h2⟩
        · refine .inr ?_
          rw [show (((j + 1 : Nat) : Int)) = (j : Int) + 1 by omega]
          omega
  rcases key n (Nat.le_refl _) with h | h
  · exact h
  · rw [mk_end hn] at h
    have h3 := mk_mono hx hn (n - 1)
    have e : ((n - 1 : Nat) : Int) + 1 = (n : Int) := by omega
    rw [e, mk_end hn] at h3
    exact ⟨n - 1, by omega, by omega, by rw [e, mk_end hn]; exact h1⟩
theorem meet_mid {f g n m k j : Nat} {x : Lg} {part half : Int} {l : Rg} (hO : onLeg x n part half) (hP : onLeg x m part half) (hs : x.s > 0) (hl : inX l) (ho : l.lo ≤ l.hi) (hk : k < n) (hj : j ≤ m)
    (h1 : (mkM x n k).s ≤ (mkM x m j).s) (h2 : (mkM x m j).s ≤ (mkM x n ((k : Int) + 1)).s) : (seqR g x m part half l j).lo ≤ max (seqR f x n part half l k).hi (seqR f x n part half l (k + 1)).hi := by
  obtain ⟨h, rfl⟩ := Int.eq_ofNat_of_zero_le (show 0 ≤ half by have := hO.h; omega)
  obtain ⟨r, η, H, hη⟩ := rt_ex h (by have := hO.h; omega) 800000000000000 (by decide)
  have hq : goes (fun t => (part : Rat) * (prs x t - 63)) 0 x part := fun t _ => by simp
  have e : traj (fun t => (part : Rat) * (prs x t - 63)) r (l.lo : Rat) 0 = (l.lo : Rat) := rfl
  have p1 : (l.lo : Rat) ≤ traj (fun t => (part : Rat) * (prs x t - 63)) r (l.lo : Rat) 0 + 0 := by rw [e]; grind
  have p2 : traj (fun t => (part : Rat) * (prs x t - 63)) r (l.lo : Rat) 0 ≤ (l.hi : Rat) + 0 := by rw [e]; have := cle ho; grind
  have a := (leg_enc (f := g) (ε := 0) H hP hs hl (Rat.le_refl) hq p1 p2 j hj).1
  have hmj := mk_in (j := (j : Int)) hO.x (n := (m : Int)) (by omega) (by have := hP.n; omega)
  obtain ⟨t, ht⟩ := Int.eq_ofNat_of_zero_le hmj.1.1
  rw [ht] at a h1 h2
  rw [Int.toNat_natCast] at a
  have b := leg_mid (f := f) (ε := 0) H hO hs hl (Rat.le_refl) hq p1 p2 hk h1 h2
  have hmk := mk_in (j := (k : Int) + 1) hO.x (n := (n : Int)) (by omega) (by have := hO.n; omega)
  have hxs := hO.x.s
  have s1 := small_ex H.e0 hη (show (t : Int) ≤ 1000000 by omega)
  have s2 := small_ex H.e0 hη (show (mkM x n ((k : Int) + 1)).s ≤ 1000000 by omega)
  revert a b
  generalize traj _ r _ (0 + t) = T
  intro a b
  exact int_le (x := T) (ε := 1 / 8) (by grind) (by grind) (by grind)
theorem kept_low {ts : List Cp} {ls : List Ld} {x : Lg} {fa : Int} {f g : Nat} (H : okTask ts ls x fa) (hf : f ≤ 6) (hg : g ≤ 6) (h : yesB fa f ts ls x (2 ^ f) (rmkN x (2 ^ f)) = true) {j : Nat} (hj : j < rmkN x (2 ^ g)) :
    lowP (mkM x (2 ^ g : Nat) j).p.hi fa ts (stM g ts ls x (2 ^ g) j) := by
  have n1 := two_f hf rfl
  have n2 := two_f hg rfl
  generalize hn : 2 ^ f = n at *
  generalize hm : 2 ^ g = m at *
  rw [yesB_iff] at h
  unfold rmkN at h hj
  by_cases h0 : x.s = 0
  · rw [if_pos h0] at h hj
    have hj0 : j = 0 := by omega
    subst hj0
    have h1 := h 0 (by omega)
    have e : ∀ n : Nat, (mkM x n ((0 : Nat) : Int)).p = ⟨x.f, x.f⟩ := fun n => by unfold mkM; dsimp only; rw [if_neg (by omega)]
    have e2 : lowM x n 0 = (mkM x n ((0 : Nat) : Int)).p.lo := rfl
    exact pk_low H.k.c H.fa (by rw [e2, e, e]; exact Int.le_refl _) H.k.o rfl h1
  · rw [if_neg h0] at h hj
    have hs : x.s > 0 := by have := H.xx.s; omega
    refine all2_get fun i c y hc hy => ?_
    obtain ⟨c', z, hc', hz, rfl⟩ := get_both H.k.len hy
    rw [hc] at hc'
    injection hc' with hc'
    subst hc'
    have hck := H.k.c c (List.mem_of_getElem? hc)
    have hzi := H.k.x z (List.mem_of_getElem? hz)
    have hzo := H.k.o z (List.mem_of_getElem? hz)
    have hmj := mk_in (j := (j : Int)) H.xx (n := (m : Int)) (by omega) (by omega)
    obtain ⟨k, hk, k1, k2⟩ := mk_find (n := n) H.xx n1.1 hmj.1.1 hmj.1.2
    have h1 := all2_at (h (k + 1) (by omega)) i c _ hc (zip_get (stM_get hc hz k) (stM_get hc hz (k + 1)))
    have a := meet_mid (f := f) (g := g) (onLeg_n H.xx n1 hck) (onLeg_n H.xx n2 hck) hs hzi.1 hzo.1 hk (show j ≤ m by omega) k1 k2
    have b := meet_mid (f := f) (g := g) (onLeg_h H.xx n1 hck) (onLeg_h H.xx n2 hck) hs hzi.2 hzo.2 hk (show j ≤ m by omega) k1 k2
    have hp := prs_in hs k1 k2
    have hq := prs_le (x := x) hs (t := (mkM x m j).s) (Int.le_refl _)
    have e : (mkM x m j).p.hi = upZ (sumM x (mkM x m j).s) x.s := by rw [mk_pos hs]
    rw [← e] at hq
    have hle : stLo x n k ≤ (mkM x m j).p.hi := Rat.intCast_le_intCast.1 (Rat.le_trans hp.1 hq)
    have hlim := lim_up hck H.fa hle
    unfold pk1 peakL at h1
    dsimp only at h1
    have e3 : lowM x n (k + 1) = stLo x n k := rfl
    rw [e3] at h1
    unfold lw1
    dsimp only
    omega
theorem kept_two {ts : List Cp} {ls : List Ld} {x : Lg} {fa : Int} {f g : Nat} (H : okTask ts ls x fa) (hf : f ≤ 6) (hg : g ≤ 6) (h2 : keptT ts ls x fa f = 2) (h0 : keptT ts ls x fa g = 0) : False := by
  unfold keptT ansM at h2 h0
  by_cases hy : yesB fa f ts ls x (2 ^ f) (rmkN x (2 ^ f)) = true
  · by_cases hb : noB fa g ts ls x (2 ^ g) (rmkN x (2 ^ g)) = true
    · obtain ⟨j, hj, hb⟩ := noB_iff.1 hb
      exact hb (kept_low H hf hg hy hj)
    · rw [if_neg hb] at h0
      split at h0 <;> cases h0
  · rw [if_neg hy] at h2
    split at h2 <;> cases h2
theorem keptT_in {ts : List Cp} {ls : List Ld} {x : Lg} {fa : Int} {f : Nat} : keptT ts ls x fa f = 0 ∨ keptT ts ls x fa f = 1 ∨ keptT ts ls x fa f = 2 := by
  unfold keptT ansM
  split
  · exact .inr (.inr rfl)
  · split
    · exact .inl rfl
    · exact .inr (.inl rfl)
theorem decF_in {ts : List Cp} {ls : List Ld} {x : Lg} {fa : Int} {m : Nat} : ∀ j : Nat, j ≤ m + 1 → (decF ts ls x fa m j).1 = 1 ∨ ∃ g : Nat, g ≤ m ∧ (decF ts ls x fa m j).1 = keptT ts ls x fa g
  | 0, _ => .inl rfl
  | j + 1, hj => by
    unfold decF
    by_cases h : keptT ts ls x fa (m - j) ≠ 1
    · rw [if_pos h]; exact .inr ⟨m - j, by omega, rfl⟩
    · rw [if_neg h]; exact decF_in j (by omega)
theorem dec_other {ts : List Cp} {ls : List Ld} {x : Lg} {fa : Int} {m g : Nat} (H : okTask ts ls x fa) (hm : m ≤ 6) (hg : g ≤ 6) : keptT ts ls x fa g = (decT ts ls x fa m).1 ∨ keptT ts ls x fa g = 1 ∨ (decT ts ls x fa m).1 = 1 := by
  rcases decF_in (ts := ts) (ls := ls) (x := x) (fa := fa) (m := m) (m + 1) (Nat.le_refl _) with h | ⟨k, hk, h⟩
  · exact .inr (.inr h)
  · have e : (decT ts ls x fa m).1 = keptT ts ls x fa k := h
    rw [e]
    have a := @keptT_in ts ls x fa g
    have b := @keptT_in ts ls x fa k
    have c : ¬ (keptT ts ls x fa g = 2 ∧ keptT ts ls x fa k = 0) := fun h => kept_two H hg (by omega) h.1 h.2
    have d : ¬ (keptT ts ls x fa k = 2 ∧ keptT ts ls x fa g = 0) := fun h => kept_two H (by omega) hg h.1 h.2
    omega
end Go.Proofs.YthilaakeimfedaaGreatDoor
namespace Go.Proofs.YthilaakeimfedaaGreatDoor

structure begins (x y : Lg) : Prop where
  f : y.f = x.f
  g : y.g = x.g
  s : 1 ≤ y.s ∧ y.s ≤ x.s
  line : (y.t - x.f) * x.s = (x.t - x.f) * y.s
theorem begins.ok {x y : Lg} (h : begins x y) (hx : okLg x) : okLg y := by
  have h1 := hx.f
  have h2 := hx.t
  have h3 := hx.s
  have h4 := h.s
  have h5 := h.line
  unfold okPr at h1 h2
  have a1 : 0 ≤ (x.f - 400) * (x.s - y.s) := Int.mul_nonneg (by omega) (by omega)
  have a2 : 0 ≤ (x.t - 400) * y.s := Int.mul_nonneg (by omega) (by omega)
  have a3 : 0 ≤ (31100 - x.f) * (x.s - y.s) := Int.mul_nonneg (by omega) (by omega)
  have a4 : 0 ≤ (31100 - x.t) * y.s := Int.mul_nonneg (by omega) (by omega)
  have e1 : (y.t - 400) * x.s = (x.f - 400) * (x.s - y.s) + (x.t - 400) * y.s := by grind
  have e2 : (31100 - y.t) * x.s = (31100 - x.f) * (x.s - y.s) + (31100 - x.t) * y.s := by grind
  have b1 : 0 ≤ y.t - 400 := Int.nonneg_of_mul_nonneg_left (by rw [e1]; omega) (show 0 < x.s by omega)
  have b2 : 0 ≤ 31100 - y.t := Int.nonneg_of_mul_nonneg_left (by rw [e2]; omega) (show 0 < x.s by omega)
  exact ⟨by unfold okPr; rw [h.f]; exact h1, by unfold okPr; omega, by omega, by rw [h.g]; exact hx.g⟩
theorem prs_beg {x y : Lg} (h : begins x y) (t : Int) : prs y t = prs x t := by
  have h4 := h.s
  have hx : x.s > 0 := by omega
  have hy : y.s > 0 := by omega
  have e : sumM y t * x.s = sumM x t * y.s := by
    rw [← sum_alt, ← sum_alt, h.f]
    have := h.line
    grind
  have e2 : ((sumM y t * x.s : Int) : Rat) = ((sumM x t * y.s : Int) : Rat) := by rw [e]
  rw [Rat.intCast_mul, Rat.intCast_mul, ← prs_mul hx, ← prs_mul hy] at e2
  have px : (0 : Rat) < (x.s : Rat) := Rat.intCast_pos.2 hx
  have py : (0 : Rat) < (y.s : Rat) := Rat.intCast_pos.2 hy
  have pp : (0 : Rat) < (x.s : Rat) * (y.s : Rat) := Rat.mul_pos px py
  have e3 : prs y t * ((x.s : Rat) * (y.s : Rat)) = prs x t * ((x.s : Rat) * (y.s : Rat)) := by grind
  have c1 := Rat.le_of_mul_le_mul_right (a := prs y t) (b := prs x t) (by rw [e3]; exact Rat.le_refl) pp
  have c2 := Rat.le_of_mul_le_mul_right (a := prs x t) (b := prs y t) (by rw [e3]; exact Rat.le_refl) pp
  exact Rat.le_antisymm c1 c2
theorem begins.mid {f g n m k : Nat} {x y : Lg} {part half : Int} {l : Rg} (h : begins x y) (hO : onLeg x n part half) (hP : onLeg y m part half) (hl : inX l) (ho : l.lo ≤ l.hi) (hk : k < n)
    (h1 : (mkM x n k).s ≤ y.s) (h2 : y.s ≤ (mkM x n ((k : Int) + 1)).s) : (seqR g y m part half l m).lo ≤ max (seqR f x n part half l k).hi (seqR f x n part half l (k + 1)).hi := by
  have h4 := h.s
  have hs : x.s > 0 := by omega
  have hsy : y.s > 0 := by omega
  obtain ⟨h, rfl⟩ := Int.eq_ofNat_of_zero_le (show 0 ≤ half by have := hO.h; omega)
  obtain ⟨r, η, H, hη⟩ := rt_ex h (by have := hO.h; omega) 800000000000000 (by decide)
  have hq : goes (fun t => (part : Rat) * (prs x t - 63)) 0 x part := fun t _ => by simp
  have hqy : goes (fun t => (part : Rat) * (prs x t - 63)) 0 y part := fun t _ => by
    rw [prs_beg ‹begins x y›]
    simp
  have e : traj (fun t => (part : Rat) * (prs x t - 63)) r (l.lo : Rat) 0 = (l.lo : Rat) := rfl
  have p1 : (l.lo : Rat) ≤ traj (fun t => (part : Rat) * (prs x t - 63)) r (l.lo : Rat) 0 + 0 := by rw [e]; grind
  have p2 : traj (fun t => (part : Rat) * (prs x t - 63)) r (l.lo : Rat) 0 ≤ (l.hi : Rat) + 0 := by rw [e]; have := cle ho; grind
  have a := (leg_enc (f := g) (ε := 0) H hP hsy hl (Rat.le_refl) hqy p1 p2 m (Nat.le_refl _)).1
  rw [mk_end hP.n.1] at a
  obtain ⟨t, ht⟩ := Int.eq_ofNat_of_zero_le (show 0 ≤ y.s by omega)
  rw [ht] at a h1 h2
  rw [Int.toNat_natCast] at a
  have b := leg_mid (f := f) (ε := 0) H hO hs hl (Rat.le_refl) hq p1 p2 hk h1 h2
  have hmk := mk_in (j := (k : Int) + 1) hO.x (n := (n : Int)) (by omega) (by have := hO.n; omega)
  have hxs := hO.x.s
  have s1 := small_ex H.e0 hη (show (t : Int) ≤ 1000000 by omega)
  have s2 := small_ex H.e0 hη (show (mkM x n ((k : Int) + 1)).s ≤ 1000000 by omega)
  revert a b
  generalize traj _ r _ (0 + t) = T
  intro a b
  exact int_le (x := T) (ε := 1 / 8) (by grind) (by grind) (by grind)
theorem ckLeg_yes {y : Lg} (h : okLg y) (hs : 1 ≤ y.s) : ckLeg y = 0 := by
  have h1 := h.f
  have h2 := h.t
  have h3 := h.s
  have a := h.g.a
  have b := h.g.b
  have c := h.g.c
  unfold ckLeg
  rw [if_neg (fun hh => hh ⟨h1, h2, h3⟩)]
  have hg : ckGas y.g.o y.g.h = 0 := by
    unfold ckGas
    rw [if_neg (by omega), if_neg (by omega)]
  rw [hg, if_neg (by omega), if_neg (by omega)]
theorem begin_mk {x : Lg} {s d : Int} (hs : 1 ≤ s ∧ s ≤ x.s) (hd : (x.t - x.f) * s = x.s * d) : begins x ⟨x.f, x.f + d, s, x.g⟩ := ⟨rfl, rfl, hs, by dsimp only; rw [show x.f + d - x.f = d by omega, hd, Int.mul_comm]⟩
theorem ckAt_yes {ts : List Cp} {ls : List Ld} {p fa : Int} (h : okTL ts ls) (hp : okPr p) (hf : 0 ≤ fa ∧ fa ≤ 1000) : ckAt ts ls p fa = 0 := by
  unfold ckAt
  rw [ckLoads_mk h, if_neg (fun hh => hh rfl), if_pos ⟨hp, hf⟩]
theorem rise_bd {a s : Int} (ha : -30700 ≤ a ∧ a ≤ 30700) (hs : 0 ≤ s ∧ s ≤ 100000) : -3070000000 ≤ a * s ∧ a * s ≤ 3070000000 := by
  have h1 := Int.mul_le_mul_of_nonneg_right ha.1 hs.1
  have h2 := Int.mul_le_mul_of_nonneg_right ha.2 hs.1
  omega
theorem quo_ex {b d : Int} (hb : b ≠ 0) : (b * d).tdiv b = d := Int.mul_tdiv_cancel_left d hb
theorem begins.peak {ts : List Cp} {ls : List Ld} {x y : Lg} {f g i : Nat} {c : Cp} {w : Ld} (hb : begins x y) (hk : okTL ts ls) (hx : okLg x) (hf : f ≤ 6) (hg : g ≤ 6) (hc : ts[i]? = some c) (hw : (loadedM ts ls y g)[i]? = some w) :
    ∃ k, k < 2 ^ f ∧ stLo x (2 ^ f) k ≤ y.t ∧ ∃ a b, (stM f ts ls x (2 ^ f) k)[i]? = some a ∧ (stM f ts ls x (2 ^ f) (k + 1))[i]? = some b ∧ w.n.lo + w.h.lo ≤ peakL a b := by
  have n1 := two_f hf rfl
  have n2 := two_f hg rfl
  have h4 := hb.s
  have hs : x.s > 0 := by omega
  have hy := hb.ok hx
  rw [loadedM_pos (by omega) rfl] at hw
  generalize hn : 2 ^ f = n at *
  generalize hm : 2 ^ g = m at *
  obtain ⟨c', z, hc', hz, rfl⟩ := get_both hk.len hw
  rw [hc] at hc'
  injection hc' with hc'
  subst hc'
  have hck := hk.c c (List.mem_of_getElem? hc)
  have hzi := hk.x z (List.mem_of_getElem? hz)
  have hzo := hk.o z (List.mem_of_getElem? hz)
  obtain ⟨k, hkn, k1, k2⟩ := mk_find (n := n) hx n1.1 (t := y.s) (by omega) (by omega)
  have o1 := onLeg_n hy n2 hck
  have o2 := onLeg_h hy n2 hck
  rw [hb.g] at o1 o2
  have a := hb.mid (f := f) (g := g) (onLeg_n hx n1 hck) o1 hzi.1 hzo.1 hkn k1 k2
  have b := hb.mid (f := f) (g := g) (onLeg_h hx n1 hck) o2 hzi.2 hzo.2 hkn k1 k2
  have hp := prs_in hs k1 k2
  have ht : prs x y.s = (y.t : Rat) := by
    rw [← prs_beg hb]
    have e1 := prs_mul (x := y) (by omega) y.s
    have e2 : sumM y y.s = y.t * y.s := by rw [← sum_alt]; grind
    rw [e2, Rat.intCast_mul] at e1
    have py : (0 : Rat) < (y.s : Rat) := Rat.intCast_pos.2 (by omega)
    exact Rat.le_antisymm (Rat.le_of_mul_le_mul_right (by rw [e1]; exact Rat.le_refl) py) (Rat.le_of_mul_le_mul_right (by rw [e1]; exact Rat.le_refl) py)
  rw [ht] at hp
  refine ⟨k, hkn, Rat.intCast_le_intCast.1 hp.1, _, _, stM_get hc hz k, stM_get hc hz (k + 1), ?_⟩
  rw [hb.g]
  unfold peakL
  dsimp only
  omega
theorem peaks_grow {f : Nat} {ts : List Cp} {ls : List Ld} {x : Lg} {n i j : Nat} {a b : Ld} (ha : (prevM f ts ls x n j)[i]? = some a) (hb : (stM f ts ls x n j)[i]? = some b) : ∀ (k : Nat) (z : Int), j < k → (peaksK f ts ls x n k)[i]? = some z → peakL a b ≤ z
  | 0, _, h, _ => by omega
  | k + 1, z, h, hz => by
    have h1 : (List.zipWith max (peaksK f ts ls x n k) (pkL (prevM f ts ls x n k) (stM f ts ls x n k)))[i]? = some z := hz
    rw [List.getElem?_zipWith] at h1
    cases hp : (peaksK f ts ls x n k)[i]? with
    | none => rw [hp] at h1; simp at h1
    | some v =>
      rw [hp] at h1
      cases hq : (pkL (prevM f ts ls x n k) (stM f ts ls x n k))[i]? with
      | none => rw [hq] at h1; simp at h1
      | some u =>
        rw [hq] at h1
        have h2 : max v u = z := by simpa using h1
        rcases Nat.lt_succ_iff_lt_or_eq.1 h with hj | rfl
        · have := peaks_grow ha hb k v hj hp
          omega
        · unfold pkL at hq
          rw [List.getElem?_zipWith, ha, hb] at hq
          injection hq with hq
          omega
theorem begins.peaks {ts : List Cp} {ls : List Ld} {x y : Lg} {f g i : Nat} {w : Ld} {z : Int} (hb : begins x y) (hk : okTL ts ls) (hx : okLg x) (hf : f ≤ 6) (hg : g ≤ 6) (hw : (loadedM ts ls y g)[i]? = some w) (hz : (peaksT ts ls x f)[i]? = some z) : w.n.lo + w.h.lo ≤ z := by
  have hi : i < ts.length := by
    have := (List.getElem?_eq_some_iff.1 hw).1
    rw [loadedM_len hk.len] at this
    exact this
  obtain ⟨c, hc⟩ := get_some ts hi
  obtain ⟨k, hkn, _, a, b, ha, hb', hle⟩ := hb.peak hk hx hf hg hc hw
  have h4 := hb.s
  unfold peaksT rmkN at hz
  rw [if_neg (by omega)] at hz
  have := peaks_grow (j := k + 1) (show (prevM f ts ls x (2 ^ f) (k + 1))[i]? = some a from ha) hb' (2 ^ f + 1) z (by omega) hz
  omega
theorem begins.kept {ts : List Cp} {ls : List Ld} {x y : Lg} {fa : Int} {f g : Nat} (hb : begins x y) (H : okTask ts ls x fa) (hf : f ≤ 6) (hg : g ≤ 6) (h2 : keptT ts ls x fa f = 2) : keptM ts (loadedM ts ls y g) y.t fa ≠ 0 := by
  rw [Ne, kept_no, Decidable.not_not]
  have hy : yesB fa f ts ls x (2 ^ f) (rmkN x (2 ^ f)) = true := by
    unfold keptT ansM at h2
    by_cases hy : yesB fa f ts ls x (2 ^ f) (rmkN x (2 ^ f)) = true
    · exact hy
    · rw [if_neg hy] at h2
      split at h2 <;> cases h2
  rw [yesB_iff] at hy
  have h4 := hb.s
  unfold rmkN at hy
  rw [if_neg (by omega)] at hy
  refine all2_get fun i c w hc hw => ?_
  obtain ⟨k, hkn, hle, a, b, ha, hb', hw9⟩ := hb.peak H.k H.xx hf hg hc hw
  have h1 := all2_at (hy (k + 1) (by omega)) i c _ hc (zip_get (show (prevM f ts ls x (2 ^ f) (k + 1))[i]? = some a from ha) hb')
  have hlim := lim_up (H.k.c c (List.mem_of_getElem? hc)) H.fa hle
  unfold pk1 at h1
  dsimp only at h1
  have e3 : lowM x (2 ^ f) (k + 1) = stLo x (2 ^ f) k := rfl
  rw [e3] at h1
  unfold lw1
  omega
end Go.Proofs.YthilaakeimfedaaGreatDoor
