/-
  No fineness decides otherwise. Conditions: none; no program in sight.
-/
import Derived.Test.YtfhfadfnbnliiaaTraj3
import Derived.Test.YtfhfadfnbnliiaaMod8
namespace Go.Proofs.Ytfhfadfnbnliiaa

theorem mk_find {x : Lg} {n : Nat} (hx : okLg x) (hn : 1 ≤ n) {t : Int} (h0 : 0 ≤ t) (h1 : t ≤ x.s) : ∃ k : Nat, k < n ∧ (mkM x n k).s ≤ t ∧ t ≤ (mkM x n ((k : Int) + 1)).s := by
  have key : ∀ j : Nat, j ≤ n → (∃ k : Nat, k < n ∧ (mkM x n k).s ≤ t ∧ t ≤ (mkM x n ((k : Int) + 1)).s) ∨ (mkM x n j).s ≤ t := by
    intro j
    induction j with
    | zero =>
      intro _
      have e0 : (mkM x n ((0 : Nat) : Int)).s = 0 := by unfold mkM; simp
      exact .inr (by rw [e0]; exact h0)
    | succ j ih =>
      intro hj
      rcases ih (by omega) with h | h
      · exact .inl h
      · by_cases h2 : t ≤ (mkM x n ((j : Int) + 1)).s
        · exact .inl ⟨j, by omega, h, h2⟩
        · refine .inr ?_
          rw [show (((j + 1 : Nat) : Int)) = (j : Int) + 1 by omega]
          omega
  rcases key n (Nat.le_refl _) with h | h
  · exact h
  · rw [mk_end hn] at h
    have h3 := mk_mono hx hn (n - 1)
    have e : ((n - 1 : Nat) : Int) + 1 = (n : Int) := by omega
    rw [e, mk_end hn] at h3
    exact ⟨n - 1, by omega, by omega, by rw [e, mk_end hn]; exact h1⟩
theorem meet_mid {f g n m k j : Nat} {x : Lg} {part half : Int} {l : Rg} (hO : onLeg x n part half) (hP : onLeg x m part half) (hs : x.s > 0) (hl : inX l) (ho : l.lo ≤ l.hi) (hk : k < n) (hj : j ≤ m)
    (h1 : (mkM x n k).s ≤ (mkM x m j).s) (h2 : (mkM x m j).s ≤ (mkM x n ((k : Int) + 1)).s) : (seqR g x m part half l j).lo ≤ max (seqR f x n part half l k).hi (seqR f x n part half l (k + 1)).hi := by
  obtain ⟨h, rfl⟩ := Int.eq_ofNat_of_zero_le (show 0 ≤ half by have := hO.h; omega)
  obtain ⟨r, η, H, hη⟩ := rt_ex h (by have := hO.h; omega) 800000000000000 (by decide)
  have hq : goes (fun t => (part : Rat) * (prs x t - 63)) 0 x part := fun t _ => by simp
  have e : traj (fun t => (part : Rat) * (prs x t - 63)) r (l.lo : Rat) 0 = (l.lo : Rat) := rfl
  have p1 : (l.lo : Rat) ≤ traj (fun t => (part : Rat) * (prs x t - 63)) r (l.lo : Rat) 0 + 0 := by rw [e]; grind
  have p2 : traj (fun t => (part : Rat) * (prs x t - 63)) r (l.lo : Rat) 0 ≤ (l.hi : Rat) + 0 := by rw [e]; have := cle ho; grind
  have a := (leg_enc (f := g) (ε := 0) H hP hs hl (Rat.le_refl) hq p1 p2 j hj).1
  have hmj := mk_in (j := (j : Int)) hO.x (n := (m : Int)) (by omega) (by have := hP.n; omega)
  obtain ⟨t, ht⟩ := Int.eq_ofNat_of_zero_le hmj.1.1
  rw [ht] at a h1 h2
  rw [Int.toNat_natCast] at a
  have b := leg_mid (f := f) (ε := 0) H hO hs hl (Rat.le_refl) hq p1 p2 hk h1 h2
  have hmk := mk_in (j := (k : Int) + 1) hO.x (n := (n : Int)) (by omega) (by have := hO.n; omega)
  have hxs := hO.x.s
  have s1 := small_ex H.e0 hη (show (t : Int) ≤ 1000000 by omega)
  have s2 := small_ex H.e0 hη (show (mkM x n ((k : Int) + 1)).s ≤ 1000000 by omega)
  revert a b
  generalize traj _ r _ (0 + t) = T
  intro a b
  exact int_le (x := T) (ε := 1 / 8) (by grind) (by grind) (by grind)
theorem kept_low {ts : List Cp} {ls : List Ld} {x : Lg} {fa : Int} {f g : Nat} (H : okTask ts ls x fa) (hf : f ≤ 6) (hg : g ≤ 6) (h : yesB fa f ts ls x (2 ^ f) (rmkN x (2 ^ f)) = true) {j : Nat} (hj : j < rmkN x (2 ^ g)) :
    lowP (mkM x (2 ^ g : Nat) j).p.hi fa ts (stM g ts ls x (2 ^ g) j) := by
  have n1 := two_f hf rfl
  have n2 := two_f hg rfl
  generalize hn : 2 ^ f = n at *
  generalize hm : 2 ^ g = m at *
  rw [yesB_iff] at h
  unfold rmkN at h hj
  by_cases h0 : x.s = 0
  · rw [if_pos h0] at h hj
    have hj0 : j = 0 := by omega
    subst hj0
    have h1 := h 0 (by omega)
    have e : ∀ n : Nat, (mkM x n ((0 : Nat) : Int)).p = ⟨x.f, x.f⟩ := fun n => by unfold mkM; dsimp only; rw [if_neg (by omega)]
    have e2 : lowM x n 0 = (mkM x n ((0 : Nat) : Int)).p.lo := rfl
    exact pk_low H.k.c H.fa (by rw [e2, e, e]; exact Int.le_refl _) H.k.o rfl h1
  · rw [if_neg h0] at h hj
    have hs : x.s > 0 := by have := H.xx.s; omega
    refine all2_get fun i c y hc hy => ?_
    obtain ⟨c', z, hc', hz, rfl⟩ := get_both H.k.len hy
    rw [hc] at hc'
    injection hc' with hc'
    subst hc'
    have hck := H.k.c c (List.mem_of_getElem? hc)
    have hzi := H.k.x z (List.mem_of_getElem? hz)
    have hzo := H.k.o z (List.mem_of_getElem? hz)
    have hmj := mk_in (j := (j : Int)) H.xx (n := (m : Int)) (by omega) (by omega)
    obtain ⟨k, hk, k1, k2⟩ := mk_find (n := n) H.xx n1.1 hmj.1.1 hmj.1.2
    have h1 := all2_at (h (k + 1) (by omega)) i c _ hc (zip_get (stM_get hc hz k) (stM_get hc hz (k + 1)))
    have a := meet_mid (f := f) (g := g) (onLeg_n H.xx n1 hck) (onLeg_n H.xx n2 hck) hs hzi.1 hzo.1 hk (show j ≤ m by omega) k1 k2
    have b := meet_mid (f := f) (g := g) (onLeg_h H.xx n1 hck) (onLeg_h H.xx n2 hck) hs hzi.2 hzo.2 hk (show j ≤ m by omega) k1 k2
    have hp := prs_in hs k1 k2
    have hq := prs_le (x := x) hs (t := (mkM x m j).s) (Int.le_refl _)
    have e : (mkM x m j).p.hi = upZ (sumM x (mkM x m j).s) x.s := by rw [mk_pos hs]
    rw [← e] at hq
    have hle : stLo x n k ≤ (mkM x m j).p.hi := Rat.intCast_le_intCast.1 (Rat.le_trans hp.1 hq)
    have hlim := lim_up hck H.fa hle
    unfold pk1 peakL at h1
    dsimp only at h1
    have e3 : lowM x n (k + 1) = stLo x n k := rfl
    rw [e3] at h1
    unfold lw1
    dsimp only
    omega
theorem kept_two {ts : List Cp} {ls : List Ld} {x : Lg} {fa : Int} {f g : Nat} (H : okTask ts ls x fa) (hf : f ≤ 6) (hg : g ≤ 6) (h2 : keptT ts ls x fa f = 2) (h0 : keptT ts ls x fa g = 0) : False := by
  unfold keptT ansM at h2 h0
  by_cases hy : yesB fa f ts ls x (2 ^ f) (rmkN x (2 ^ f)) = true
  · by_cases hb : noB fa g ts ls x (2 ^ g) (rmkN x (2 ^ g)) = true
    · obtain ⟨j, hj, hb⟩ := noB_iff.1 hb
      exact hb (kept_low H hf hg hy hj)
    · rw [if_neg hb] at h0
      split at h0 <;> cases h0
  · rw [if_neg hy] at h2
    split at h2 <;> cases h2
theorem keptT_in {ts : List Cp} {ls : List Ld} {x : Lg} {fa : Int} {f : Nat} : keptT ts ls x fa f = 0 ∨ keptT ts ls x fa f = 1 ∨ keptT ts ls x fa f = 2 := by
  unfold keptT ansM
  split
  · exact .inr (.inr rfl)
  · split
    · exact .inl rfl
    · exact .inr (.inl rfl)
theorem decF_in {ts : List Cp} {ls : List Ld} {x : Lg} {fa : Int} {m : Nat} : ∀ j : Nat, j ≤ m + 1 → (decF ts ls x fa m j).1 = 1 ∨ ∃ g : Nat, g ≤ m ∧ (decF ts ls x fa m j).1 = keptT ts ls x fa g
  | 0, _ => .inl rfl
  | j + 1, hj => by
    unfold decF
    by_cases h : keptT ts ls x fa (m - j) ≠ 1
    · rw [if_pos h]; exact .inr ⟨m - j, by omega, rfl⟩
    · rw [if_neg h]; exact decF_in j (by omega)
/-- the promise: no fineness decides otherwise -/
theorem dec_other {ts : List Cp} {ls : List Ld} {x : Lg} {fa : Int} {m g : Nat} (H : okTask ts ls x fa) (hm : m ≤ 6) (hg : g ≤ 6) : keptT ts ls x fa g = (decT ts ls x fa m).1 ∨ keptT ts ls x fa g = 1 ∨ (decT ts ls x fa m).1 = 1 := by
  rcases decF_in (ts := ts) (ls := ls) (x := x) (fa := fa) (m := m) (m + 1) (Nat.le_refl _) with h | ⟨k, hk, h⟩
  · exact .inr (.inr h)
  · have e : (decT ts ls x fa m).1 = keptT ts ls x fa k := h
    rw [e]
    have a := @keptT_in ts ls x fa g
    have b := @keptT_in ts ls x fa k
    have c : ¬ (keptT ts ls x fa g = 2 ∧ keptT ts ls x fa k = 0) := fun h => kept_two H hg (by omega) h.1 h.2
    have d : ¬ (keptT ts ls x fa k = 2 ∧ keptT ts ls x fa g = 0) := fun h => kept_two H (by omega) hg h.1 h.2
    omega
theorem ckFine_mk {ts : List Cp} {ls : List Ld} {x : Lg} {fa m g : Int} (h : ckFine ts ls x fa m = 0) (hg : 0 ≤ g ∧ g ≤ 6) : ckFine ts ls x fa g = 0 := by
  unfold ckFine at h ⊢
  by_cases h1 : ckTask ts ls x fa ≠ 0
  · rw [if_pos h1] at h; exact absurd h h1
  · rw [if_neg h1, if_pos hg]
end Go.Proofs.Ytfhfadfnbnliiaa
