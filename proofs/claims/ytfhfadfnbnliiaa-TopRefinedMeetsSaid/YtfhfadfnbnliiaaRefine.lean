/-
  A leg that is cut in two: loads meet, and the answers do not contradict: the plain law of TopRefinedMeets. Conditions: none; no program in sight.
-/
import Derived.Test.YtfhfadfnbnliiaaTraj5
namespace Go.Proofs.Ytfhfadfnbnliiaa

/-- y is the part of x that begins at a second -/
structure seg (x y : Lg) (t0 : Nat) : Prop where
  g : y.g = x.g
  s : 1 ≤ y.s ∧ (t0 : Int) + y.s ≤ x.s
  p : ∀ t : Int, prs y t = prs x ((t0 : Int) + t)
theorem seg_id {x : Lg} (h : 1 ≤ x.s) : seg x x 0 := ⟨rfl, ⟨h, by omega⟩, fun t => by rw [show ((0 : Nat) : Int) + t = t by omega]⟩
theorem seg_beg {x y : Lg} (h : begins x y) : seg x y 0 := ⟨h.g, ⟨h.s.1, by have := h.s.2; omega⟩, fun t => by rw [show ((0 : Nat) : Int) + t = t by omega]; exact prs_beg h t⟩
theorem prs_of {x y : Lg} (hx : x.s > 0) (hy : y.s > 0) {t u : Int} (e : sumM y t * x.s = sumM x u * y.s) : prs y t = prs x u := by
  have e2 : ((sumM y t * x.s : Int) : Rat) = ((sumM x u * y.s : Int) : Rat) := by rw [e]
  rw [Rat.intCast_mul, Rat.intCast_mul, ← prs_mul hx, ← prs_mul hy] at e2
  have px : (0 : Rat) < (x.s : Rat) := Rat.intCast_pos.2 hx
  have py : (0 : Rat) < (y.s : Rat) := Rat.intCast_pos.2 hy
  have pp : (0 : Rat) < (x.s : Rat) * (y.s : Rat) := Rat.mul_pos px py
  have e3 : prs y t * ((x.s : Rat) * (y.s : Rat)) = prs x u * ((x.s : Rat) * (y.s : Rat)) := by grind
  have c1 := Rat.le_of_mul_le_mul_right (a := prs y t) (b := prs x u) (by rw [e3]; exact Rat.le_refl) pp
  have c2 := Rat.le_of_mul_le_mul_right (a := prs x u) (b := prs y t) (by rw [e3]; exact Rat.le_refl) pp
  exact Rat.le_antisymm c1 c2
theorem seg_end {x : Lg} {s : Nat} {d : Int} (h1 : 1 ≤ s) (h2 : (s : Int) + 1 ≤ x.s) (hd : (x.t - x.f) * s = x.s * d) : seg x ⟨x.f + d, x.t, x.s - s, x.g⟩ s :=
  ⟨rfl, ⟨by dsimp only; omega, by dsimp only; omega⟩, fun t => prs_of (by omega) (by dsimp only; omega) (by
    rw [← sum_alt, ← sum_alt]
    dsimp only
    have e : x.t - (x.f + d) = (x.t - x.f) - d := by omega
    rw [e]
    generalize x.t - x.f = D at *
    generalize (s : Int) = s' at *
    have q1 : D * s' * (x.s - s') = x.s * d * (x.s - s') := by rw [hd]
    have q2 : D * s' * t = x.s * d * t := by rw [hd]
    grind)⟩
def gq (x : Lg) (part : Int) : Nat → Rat := fun t => (part : Rat) * (prs x t - 63)
/-- a range holds the true load of x at a second, but for an error that does not matter -/
def enc0 (x : Lg) (part half : Int) (l m : Rg) (t0 : Nat) : Prop := ∀ r η : Rat, Rt half.toNat r η → η * ((800000000000000 : Nat) : Rat) = 1 → (m.lo : Rat) ≤ traj (gq x part) r (l.lo : Rat) t0 + ex 0 η t0 ∧ traj (gq x part) r (l.lo : Rat) t0 ≤ (m.hi : Rat) + ex 0 η t0
theorem ex_zero (η : Rat) : ex 0 η ((0 : Nat) : Int) = 0 := by unfold ex; have : (((0 : Nat) : Int) : Rat) = 0 := rfl; grind
theorem enc0_z {x : Lg} {part half : Int} {l : Rg} (ho : l.lo ≤ l.hi) : enc0 x part half l l 0 := fun r η _ _ => by
  rw [ex_zero]
  have e : traj (gq x part) r (l.lo : Rat) 0 = (l.lo : Rat) := rfl
  rw [e]
  have := cle ho
  grind
theorem ex_ex (η : Rat) (a s : Nat) : ex (ex 0 η (a : Int)) η (s : Int) = ex 0 η ((a + s : Nat) : Int) := by
  rw [ex_add]
  conv => lhs; unfold ex
  rfl
theorem seg_goes {x y : Lg} {t0 : Nat} {part : Int} (h : seg x y t0) : goes (gq x part) t0 y part := fun t _ => by
  unfold gq
  rw [h.p t]
  rfl
theorem enc0_s {f n k : Nat} {x y : Lg} {part half : Int} {l m : Rg} {t0 : Nat} (h : seg x y t0) (hO : onLeg y n part half) (hm : inX m) (he : enc0 x part half l m t0) (hk : k ≤ n) : enc0 x part half l (seqR f y n part half m k) (t0 + (mkM y n k).s.toNat) := fun r η H hη => by
  obtain ⟨hf, rfl⟩ := Int.eq_ofNat_of_zero_le (show 0 ≤ half by have := hO.h; omega)
  rw [Int.toNat_natCast] at H
  obtain ⟨e1, e2⟩ := he r η H hη
  have hmk := mk_in (j := (k : Int)) hO.x (n := (n : Int)) (by omega) (by have := hO.n; omega)
  have a := leg_enc (f := f) (ε := ex 0 η (t0 : Int)) H hO (by have := h.s; omega) hm (ex_nn Rat.le_refl H.e0 (by omega)) (seg_goes h) e1 e2 k hk
  obtain ⟨s, hs⟩ := Int.eq_ofNat_of_zero_le hmk.1.1
  rw [hs, ex_ex, Int.toNat_natCast] at a
  rw [hs, Int.toNat_natCast]
  exact a
theorem enc0_m {f n k t : Nat} {x y : Lg} {part half : Int} {l m w : Rg} {t0 : Nat} (h : seg x y t0) (hx : okLg x) (hO : onLeg y n part half) (hm : inX m) (he : enc0 x part half l m t0) (hk : k < n) (ht1 : (mkM y n k).s ≤ (t : Int)) (ht2 : (t : Int) ≤ (mkM y n ((k : Int) + 1)).s)
    (hw : enc0 x part half l w (t0 + t)) : w.lo ≤ max (seqR f y n part half m k).hi (seqR f y n part half m (k + 1)).hi := by
  obtain ⟨hf, rfl⟩ := Int.eq_ofNat_of_zero_le (show 0 ≤ half by have := hO.h; omega)
  obtain ⟨r, η, H, hη⟩ := rt_ex hf (by have := hO.h; omega) 800000000000000 (by decide)
  have H' : Rt ((hf : Nat) : Int).toNat r η := by rw [Int.toNat_natCast]; exact H
  obtain ⟨e1, e2⟩ := he r η H' hη
  have a := (hw r η H' hη).1
  have b := leg_mid (f := f) (ε := ex 0 η (t0 : Int)) H hO (by have := h.s; omega) hm (ex_nn Rat.le_refl H.e0 (by omega)) (seg_goes h) e1 e2 hk ht1 ht2
  have hmk := mk_in (j := (k : Int) + 1) hO.x (n := (n : Int)) (by omega) (by have := hO.n; omega)
  have hxs := hx.s
  have hss := h.s
  obtain ⟨u, hu⟩ := Int.eq_ofNat_of_zero_le hmk.1.1
  rw [hu, ex_ex] at b
  have s1 := small_ex H.e0 hη (show ((t0 + t : Nat) : Int) ≤ 1000000 by omega)
  have s2 := small_ex H.e0 hη (show ((t0 + u : Nat) : Int) ≤ 1000000 by omega)
  revert a b
  generalize traj _ r _ (t0 + t) = T
  intro a b
  exact int_le (x := T) (ε := 1 / 8) (by grind) (by grind) (by grind)
theorem enc0_2 {x : Lg} {part half : Int} {l m w : Rg} {t : Nat} (hh : 1 ≤ half) (ht : (t : Int) ≤ 1000000) (a : enc0 x part half l m t) (b : enc0 x part half l w t) : m.lo ≤ w.hi := by
  obtain ⟨hf, rfl⟩ := Int.eq_ofNat_of_zero_le (show 0 ≤ half by omega)
  obtain ⟨r, η, H, hη⟩ := rt_ex hf (by omega) 800000000000000 (by decide)
  have H' : Rt ((hf : Nat) : Int).toNat r η := by rw [Int.toNat_natCast]; exact H
  have a1 := (a r η H' hη).1
  have b1 := (b r η H' hη).2
  have s1 := small_ex H.e0 hη ht
  revert a1 b1
  generalize traj _ r _ t = T
  intro a1 b1
  exact int_le (x := T) (ε := 1 / 8) (by grind) (by grind) (by grind)
/-- loads hold the true ones of x, that began with ls, at a second -/
def encL (ts : List Cp) (ls : List Ld) (x : Lg) (ms : List Ld) (t0 : Nat) : Prop := ∀ (i : Nat) (c : Cp) (z w : Ld), ts[i]? = some c → ls[i]? = some z → ms[i]? = some w → enc0 x (1000 - x.g.o - x.g.h) c.n z.n w.n t0 ∧ enc0 x x.g.h c.h z.h w.h t0
theorem encL_z {ts : List Cp} {ls : List Ld} {x : Lg} (ho : ∀ y ∈ ls, ordLd y) : encL ts ls x ls 0 := fun i c z w _ hz hw => by
  rw [hz] at hw
  injection hw with hw
  subst hw
  have h := ho z (List.mem_of_getElem? hz)
  exact ⟨enc0_z h.1, enc0_z h.2⟩
theorem encL_k {f n k : Nat} {ts : List Cp} {ls ms : List Ld} {x y : Lg} {t0 : Nat} (h : seg x y t0) (hy : okLg y) (hn : 1 ≤ n ∧ n ≤ 64) (hm : okTL ts ms) (he : encL ts ls x ms t0) (hkn : k ≤ n) : encL ts ls x (stM f ts ms y n k) (t0 + (mkM y n k).s.toNat) := fun i c z w hc hz hw => by
  obtain ⟨c', v, hc', hv, rfl⟩ := get_both hm.len hw
  rw [hc] at hc'
  injection hc' with hc'
  subst hc'
  have hck := hm.c c (List.mem_of_getElem? hc)
  have hvi := hm.x v (List.mem_of_getElem? hv)
  obtain ⟨e1, e2⟩ := he i c z v hc hz hv
  have o1 := onLeg_n hy hn hck
  have o2 := onLeg_h hy hn hck
  rw [h.g] at o1 o2 ⊢
  exact ⟨enc0_s h o1 hvi.1 e1 hkn, enc0_s h o2 hvi.2 e2 hkn⟩
theorem encL_s {f : Nat} {ts : List Cp} {ls ms : List Ld} {x y : Lg} {t0 : Nat} (h : seg x y t0) (hy : okLg y) (hf : f ≤ 6) (hm : okTL ts ms) (he : encL ts ls x ms t0) : encL ts ls x (loadedM ts ms y f) (t0 + y.s.toNat) := by
  have n1 := two_f hf rfl
  have hs := h.s
  rw [loadedM_pos (by omega) rfl]
  have a := encL_k (f := f) h hy n1 hm he (Nat.le_refl _)
  rw [mk_end n1.1] at a
  exact a
theorem encL_meet {ts : List Cp} {ls ms ns : List Ld} {x : Lg} {t : Nat} (hx : okLg x) (ht : (t : Int) ≤ x.s) (hk : okTL ts ls) (hl : ms.length = ts.length) (a : encL ts ls x ms t) (b : encL ts ls x ns t) : meetP ms ns := all2_get fun i y z hy hz => by
  have hi : i < ts.length := by rw [← hl]; exact (List.getElem?_eq_some_iff.1 hy).1
  obtain ⟨c, hc⟩ := get_some ts hi
  obtain ⟨w, hw⟩ := get_some ls (show i < ls.length by rw [hk.len]; exact hi)
  have hck := hk.c c (List.mem_of_getElem? hc)
  have hxs := hx.s
  obtain ⟨a1, a2⟩ := a i c w y hc hw hy
  obtain ⟨b1, b2⟩ := b i c w z hc hw hz
  exact ⟨enc0_2 hck.1 (by omega) a1 b1, enc0_2 hck.1 (by omega) b1 a1, enc0_2 hck.2.2.1 (by omega) a2 b2, enc0_2 hck.2.2.1 (by omega) b2 a2⟩
/-- what is surely kept in one part is not surely broken at a mark of another one in it -/
theorem seg_low {ts : List Cp} {ls ms ns : List Ld} {x y u : Lg} {fa : Int} {f g t0 t1 : Nat} (hx : okLg x) (hk : okTL ts ls) (Hy : okTask ts ms y fa) (Hu : okTask ts ns u fa) (h : seg x y t0) (k : seg x u t1) (em : encL ts ls x ms t0) (en : encL ts ls x ns t1) (hf : f ≤ 6) (hg : g ≤ 6)
    (hy : yesB fa f ts ms y (2 ^ f) (rmkN y (2 ^ f)) = true) {j : Nat} (hj : j < rmkN u (2 ^ g)) (h1 : (t0 : Int) ≤ (t1 : Int) + (mkM u (2 ^ g : Nat) j).s) (h2 : (t1 : Int) + (mkM u (2 ^ g : Nat) j).s ≤ (t0 : Int) + y.s) :
    lowP (mkM u (2 ^ g : Nat) j).p.hi fa ts (stM g ts ns u (2 ^ g) j) := by
  have n1 := two_f hf rfl
  have n2 := two_f hg rfl
  generalize hn : 2 ^ f = n at *
  generalize hm : 2 ^ g = m at *
  rw [yesB_iff] at hy
  have hys := h.s
  have hus := k.s
  unfold rmkN at hy hj
  rw [if_neg (by omega)] at hy hj
  have hmj := mk_in (j := (j : Int)) Hu.xx (n := (m : Int)) (by omega) (by omega)
  refine all2_get fun i c w hc hw => ?_
  have hi : i < ls.length := by rw [hk.len]; exact (List.getElem?_eq_some_iff.1 hc).1
  obtain ⟨z, hz⟩ := get_some ls hi
  obtain ⟨v, hv⟩ := get_some ms (show i < ms.length by rw [Hy.k.len, ← hk.len]; exact hi)
  have hck := hk.c c (List.mem_of_getElem? hc)
  have hvi := Hy.k.x v (List.mem_of_getElem? hv)
  obtain ⟨q, hq⟩ := Int.eq_ofNat_of_zero_le hmj.1.1
  obtain ⟨t, ht⟩ := Int.eq_ofNat_of_zero_le (show 0 ≤ (t1 : Int) + q - t0 by omega)
  obtain ⟨p, hp, p1, p2⟩ := mk_find (n := n) Hy.xx n1.1 (t := (t : Int)) (by omega) (by omega)
  have e := encL_k (f := g) k Hu.xx n2 Hu.k en (show j ≤ m by omega) i c z w hc hz hw
  rw [hq, Int.toNat_natCast, show t1 + q = t0 + t by omega] at e
  obtain ⟨e1, e2⟩ := em i c z v hc hz hv
  have o1 := onLeg_n Hy.xx n1 hck
  have o2 := onLeg_h Hy.xx n1 hck
  have h3 := all2_at (hy (p + 1) (by omega)) i c _ hc (zip_get (stM_get hc hv p) (stM_get hc hv (p + 1)))
  rw [h.g] at o1 o2
  have a := enc0_m (f := f) h hx o1 hvi.1 e1 hp p1 p2 e.1
  have b := enc0_m (f := f) h hx o2 hvi.2 e2 hp p1 p2 e.2
  have hpr := prs_in (x := y) (by omega) p1 p2
  have hqr := prs_le (x := u) (by omega) (t := (mkM u m j).s) (Int.le_refl _)
  have em' : (mkM u m j).p.hi = upZ (sumM u (mkM u m j).s) u.s := by rw [mk_pos (by omega)]
  rw [← em', k.p, hq] at hqr
  rw [h.p, show (t0 : Int) + (t : Int) = (t1 : Int) + (q : Int) by omega] at hpr
  have hle : stLo y n p ≤ (mkM u m j).p.hi := Rat.intCast_le_intCast.1 (Rat.le_trans hpr.1 hqr)
  have hlim := lim_up hck Hy.fa hle
  unfold pk1 peakL at h3
  dsimp only at h3
  rw [h.g] at h3
  have e3 : lowM y n (p + 1) = stLo y n p := rfl
  rw [e3] at h3
  unfold lw1
  omega
theorem keptT_yes {ts : List Cp} {ls : List Ld} {x : Lg} {fa : Int} {f : Nat} (h : keptT ts ls x fa f = 2) : yesB fa f ts ls x (2 ^ f) (rmkN x (2 ^ f)) = true := by
  unfold keptT ansM at h
  by_cases hy : yesB fa f ts ls x (2 ^ f) (rmkN x (2 ^ f)) = true
  · exact hy
  · rw [if_neg hy] at h
    split at h <;> cases h
theorem keptT_no {ts : List Cp} {ls : List Ld} {x : Lg} {fa : Int} {f : Nat} (h : keptT ts ls x fa f = 0) : ∃ j, j < rmkN x (2 ^ f) ∧ ¬ lowP (mkM x (2 ^ f : Nat) j).p.hi fa ts (stM f ts ls x (2 ^ f) j) := by
  unfold keptT ansM at h
  by_cases hy : yesB fa f ts ls x (2 ^ f) (rmkN x (2 ^ f)) = true
  · rw [if_pos hy] at h; cases h
  · rw [if_neg hy] at h
    by_cases hb : noB fa f ts ls x (2 ^ f) (rmkN x (2 ^ f)) = true
    · exact noB_iff.1 hb
    · rw [if_neg hb] at h
      cases h
theorem rmk_le {x : Lg} {f j : Nat} (hx : okLg x) (hf : f ≤ 6) (hs : 1 ≤ x.s) (hj : j < rmkN x (2 ^ f)) : 0 ≤ (mkM x (2 ^ f : Nat) j).s ∧ (mkM x (2 ^ f : Nat) j).s ≤ x.s := by
  have n1 := two_f hf rfl
  generalize 2 ^ f = n at *
  unfold rmkN at hj
  rw [if_neg (by omega)] at hj
  exact (mk_in (j := (j : Int)) hx (n := (n : Int)) (by omega) (by omega)).1
/-- the promise: finer is no other -/
theorem refined {ts : List Cp} {ls : List Ld} {x : Lg} {fa d : Int} {s f0 f1 f2 : Nat} (H : okTask ts ls x fa) (h1 : 1 ≤ s) (h2 : (s : Int) + 1 ≤ x.s) (hd : (x.t - x.f) * s = x.s * d) (hf0 : f0 ≤ 6) (hf1 : f1 ≤ 6) (hf2 : f2 ≤ 6)
    (hh : okTL ts (loadedM ts ls ⟨x.f, x.f + d, s, x.g⟩ f1)) (hb : okLg ⟨x.f + d, x.t, x.s - s, x.g⟩) :
    meetP (loadedM ts ls x f0) (loadedM ts (loadedM ts ls ⟨x.f, x.f + d, s, x.g⟩ f1) ⟨x.f + d, x.t, x.s - s, x.g⟩ f2) ∧
    (keptT ts ls x fa f0 = 2 → keptT ts ls ⟨x.f, x.f + d, s, x.g⟩ fa f1 ≠ 0 ∧ keptT ts (loadedM ts ls ⟨x.f, x.f + d, s, x.g⟩ f1) ⟨x.f + d, x.t, x.s - s, x.g⟩ fa f2 ≠ 0) ∧
    (keptT ts ls x fa f0 = 0 → keptT ts ls ⟨x.f, x.f + d, s, x.g⟩ fa f1 ≠ 2 ∨ keptT ts (loadedM ts ls ⟨x.f, x.f + d, s, x.g⟩ f1) ⟨x.f + d, x.t, x.s - s, x.g⟩ fa f2 ≠ 2) := by
  have hbg : begins x ⟨x.f, x.f + d, s, x.g⟩ := begin_mk (by omega) hd
  have ha := hbg.ok H.xx
  have sx := seg_id (x := x) (by omega)
  have sa := seg_beg hbg
  have sb := seg_end (d := d) h1 h2 hd
  have ez := encL_z (ts := ts) (x := x) H.k.o
  have eh := encL_s (f := f1) sa ha hf1 H.k ez
  have e9 : 0 + ((s : Int)).toNat = s := by omega
  dsimp only at eh
  rw [e9] at eh
  have Ha : okTask ts ls ⟨x.f, x.f + d, s, x.g⟩ fa := ⟨H.k, H.ct, ha, ckLeg_yes ha (by dsimp only; omega), H.fa⟩
  have Hb : okTask ts (loadedM ts ls ⟨x.f, x.f + d, s, x.g⟩ f1) ⟨x.f + d, x.t, x.s - s, x.g⟩ fa := ⟨hh, ckLoads_mk hh, hb, ckLeg_yes hb (by dsimp only; omega), H.fa⟩
  generalize hA : (⟨x.f, x.f + d, s, x.g⟩ : Lg) = A at *
  have as : A.s = s := by rw [← hA]
  generalize hB : (⟨x.f + d, x.t, x.s - s, x.g⟩ : Lg) = B at *
  have bs : B.s = x.s - s := by rw [← hB]
  have ew := encL_s (f := f0) sx H.xx hf0 H.k ez
  have er := encL_s (f := f2) sb hb hf2 hh eh
  rw [show s + B.s.toNat = 0 + x.s.toNat by omega] at er
  refine ⟨encL_meet H.xx (by omega) H.k (loadedM_len H.k.len) ew er, fun hy => ⟨fun hn => ?_, fun hn => ?_⟩, fun hn => ?_⟩
  · obtain ⟨j, hj, hb9⟩ := keptT_no hn
    have hmj := rmk_le ha hf1 (by omega) hj
    exact hb9 (seg_low H.xx H.k H Ha sx sa ez ez hf0 hf1 (keptT_yes hy) hj (by omega) (by omega))
  · obtain ⟨j, hj, hb9⟩ := keptT_no hn
    have hmj := rmk_le hb hf2 (by omega) hj
    exact hb9 (seg_low H.xx H.k H Hb sx sb ez eh hf0 hf2 (keptT_yes hy) hj (by omega) (by omega))
  · obtain ⟨j, hj, hb9⟩ := keptT_no hn
    have hmj := rmk_le H.xx hf0 (by omega) hj
    by_cases hc : (mkM x (2 ^ f0 : Nat) j).s ≤ s
    · exact .inl fun hy => hb9 (seg_low H.xx H.k Ha H sa sx ez ez hf1 hf0 (keptT_yes hy) hj (by omega) (by omega))
    · exact .inr fun hy => hb9 (seg_low H.xx H.k Hb H sb sx eh ez hf2 hf0 (keptT_yes hy) hj (by omega) (by omega))
theorem ckTask_yes {ts : List Cp} {ls : List Ld} {x : Lg} {fa : Int} (H : okTask ts ls x fa) : ckTask ts ls x fa = 0 := by
  unfold ckTask
  rw [H.ct, H.cx]
  have := H.fa
  simp
  omega
end Go.Proofs.Ytfhfadfnbnliiaa
