/-
  The beginning of a leg: what is surely kept is not surely broken at any instant. Conditions: none; no program in sight.
-/
import Derived.Test.YthilaakeimfedaaGreatDoorMod8
import Derived.Test.YthilaakeimfedaaGreatDoorArgB
namespace Go.Proofs.YthilaakeimfedaaGreatDoor

theorem mk_find {x : Lg} {n : Nat} (hx : okLg x) (hn : 1 ≤ n) {t : Int} (h0 : 0 ≤ t) (h1 : t ≤ x.s) : ∃ k : Nat, k < n ∧ (mkM x n k).s ≤ t ∧ t ≤ (mkM x n ((k : Int) + 1)).s := by
  have key : ∀ j : Nat, j ≤ n → (∃ k : Nat, k < n ∧ (mkM x n k).s ≤ t ∧ t ≤ (mkM x n ((k : Int) + 1)).s) ∨ (mkM x n j).s ≤ t := by
    intro j
    induction j with
    | zero =>
      intro _
      have e0 : (mkM x n ((0 : Nat) : Int)).s = 0 := by unfold mkM; simp
      exact .inr (by rw [e0]; exact h0)
    | succ j ih =>
      intro hj
      rcases ih (by omega) with h | h
      · exact .inl h
      · by_cases h2 : t ≤ (mkM x n ((j : Int) + 1)).s
        · exact .inl ⟨j, by omega, h, h2⟩
        · refine .inr ?_
          rw [show (((j + 1 : Nat) : Int)) = (j : Int) + 1 by omega]
          omega
  rcases key n (Nat.le_refl _) with h | h
  · exact h
  · rw [mk_end hn] at h
    have h3 := mk_mono hx hn (n - 1)
    have e : ((n - 1 : Nat) : Int) + 1 = (n : Int) := by omega
    rw [e, mk_end hn] at h3
    exact ⟨n - 1, by omega, by omega, by rw [e, mk_end hn]; exact h1⟩
end Go.Proofs.YthilaakeimfedaaGreatDoor
namespace Go.Proofs.YthilaakeimfedaaGreatDoor
section
variable {ts : List Cp} {ls : List Ld} {z : Lg} {fa : Int} {m : Nat}
theorem decF_fine : ∀ j, (decF ts ls z fa m j).1 ≠ 1 → keptT ts ls z fa (decF ts ls z fa m j).2.toNat = (decF ts ls z fa m j).1
  | 0, h => absurd rfl h
  | j + 1, h => by
    unfold decF at h ⊢
    by_cases hk : keptT ts ls z fa (m - j) ≠ 1
    · rw [if_pos hk]; rfl
    · rw [if_neg hk] at h ⊢; exact decF_fine j h
end
section
variable {x : Asc} {y : Dl}
theorem dc_kept (h : (dcA x y).1 = 2) : keptT x.ts x.ls (lgA x y) (faA x) (dcA x y).2.toNat = 2 := by
  have e : dcA x y = decF x.ts x.ls (lgA x y) (faA x) (fnA x) (fnA x + 1) := rfl
  rw [e] at h ⊢
  have := decF_fine (ts := x.ts) (ls := x.ls) (z := lgA x y) (fa := faA x) (m := fnA x) (fnA x + 1) (by rw [h]; decide)
  rw [this, h]
theorem ris_0 {r : Rl} (h : okRl r) (a : Int) : risR r a a = 0 := by
  have := h.sp
  unfold risR upZ
  rw [Int.sub_self, Int.mul_zero]
  exact Int.ediv_eq_zero_of_lt (by omega) (by omega)
theorem ckAl_mk (h : okAl x y) (h2 : x.de ≤ (agAt x.gs y.g.toNat).d) (h3 : y.d ≤ x.de) (h4 : risR x.r x.de y.d ≤ y.s) : ckAl x y = 0 := by
  rw [al_3 ⟨h.s, h.d⟩ h.g, if_neg (by omega), if_neg (by omega), if_neg (by omega)]
theorem up_ck (H : okAsc x) {to : Int} (ht : 0 ≤ to ∧ to < x.de) (hg : ¬ gasA x x.de < 0) : ckAl x (upA x to (gasA x x.de)) = 0 := by
  have h1 := gasA_in x x.de
  exact ckAl_mk (up_ok H ht (by omega)) (bsA_dep x.gs x.de x.gs.length (show 0 ≤ gasA x x.de by omega)) (show to ≤ x.de by omega) (Int.le_refl _)
theorem sy_ck (H : okAsc x) (hg : ¬ gasA x x.de < 0) : ckAl x (gSy x) = 0 := by
  have h1 := gasA_in x x.de
  have h2 := H.r.st
  refine ckAl_mk (gSy_ok H hg) (bsA_dep x.gs x.de x.gs.length (show 0 ≤ gasA x x.de by omega)) (Int.le_refl _) ?_
  show risR x.r x.de x.de ≤ x.r.st
  rw [ris_0 H.r]
  omega
theorem gUp_ck (H : okAsc x) (hd : ¬ x.de = 0) (hg : ¬ gasA x x.de < 0) : ckAl x (gUp x) = 0 := by
  have := H.de
  exact up_ck H (nxt_in H.r (by omega)) hg
theorem chk_one (H : okAsc x) (h : ckAl x y = 0) (h2 : (dcA x y).1 = 2) (t : Int) (L : List Dl) (F : List Int) (k : Int) : chkF t x (y :: L) ((dcA x y).2 :: F) k = chkF t (bhA x y) L F (k + 1) := by
  have h3 := dc_in (y := y) H
  rw [chkF, if_neg (fun hh => hh h), if_neg (by omega), if_neg (fun hh => hh (dc_kept h2))]
theorem an_one (H : okAsc x) (h : okAl x y) : okAn y (dcA x y).2 := by
  have h1 := h.s; have h2 := h.d; have h3 := h.g; have h4 := dc_in (y := y) H; have h5 := H.r.fi; have h6 := H.g8
  exact ⟨h1, h2, by omega, by omega⟩
theorem gen_acc : ∀ (n : Nat) (x : Asc) (s : Int) (L : List Dl) (F : List Int) (S : List Dl × List Int), okAsc x → genN n x s L F = (S, 0) →
    ∃ A B, S = (L ++ A, F ++ B) ∧ B.length = A.length ∧ A.length ≤ n ∧ (∀ t k, chkF t x A B k = (t, 0)) ∧ all2 okAn A B
  | n, x, s, L, F, S, H, h => by
    by_cases hd : x.de = 0
    · rw [gen_0 hd] at h
      injection h with h _
      refine ⟨[], [], by simp [← h], rfl, Nat.zero_le _, fun t k => ?_, trivial⟩
      rw [chkF, if_neg (fun hh => hh hd)]
    match n, h with
    | 0, h =>
      rw [gen_8 hd] at h
      injection h with _ h
      exact absurd h (by decide)
    | n + 1, h =>
      by_cases hg : gasA x x.de < 0
      · rw [gen_14 hd (by omega) hg] at h
        injection h with _ h
        exact absurd h (by decide)
      by_cases h1 : (dcA x (gUp x)).1 = 2
      · rw [gen_up hd (by omega) hg h1, Nat.add_sub_cancel] at h
        obtain ⟨A, B, e, hl, hn, hc, ha⟩ := gen_acc n _ _ _ _ S (bh_ok H (gUp_ok H hd hg)) h
        refine ⟨gUp x :: A, (dcA x (gUp x)).2 :: B, by rw [e]; simp, by simp [hl], by simp; omega, fun t k => ?_, an_one H (gUp_ok H hd hg), ha⟩
        rw [chk_one H (gUp_ck H hd hg) h1]
        exact hc _ _
      by_cases hs : s = 60
      · rw [gen_12 hd (by omega) hg h1 hs] at h
        injection h with _ h
        exact absurd h (by decide)
      by_cases h2 : (dcA x (gSy x)).1 = 2
      · rw [gen_sy hd (by omega) hg h1 hs h2, Nat.add_sub_cancel] at h
        obtain ⟨A, B, e, hl, hn, hc, ha⟩ := gen_acc n _ _ _ _ S (bh_ok H (gSy_ok H hg)) h
        refine ⟨gSy x :: A, (dcA x (gSy x)).2 :: B, by rw [e]; simp, by simp [hl], by simp; omega, fun t k => ?_, an_one H (gSy_ok H hg), ha⟩
        rw [chk_one H (sy_ck H hg) h2]
        exact hc _ _
      · rw [gen_26 hd (by omega) hg h1 hs h2] at h
        injection h with _ h
        exact absurd h (by decide)
theorem gen_chk (H : okAsc x) (h : (genA x).2 = 0) : okSch (genA x).1.1 (genA x).1.2 ∧ chkA x (genA x).1.1 (genA x).1.2 = (smS (genA x).1.1 (genA x).1.1.length, 0) := by
  obtain ⟨A, B, e, hl, hn, hc, ha⟩ := gen_acc 400 x 0 [] [] (genA x).1 H (show genA x = ((genA x).1, 0) from Prod.ext rfl h)
  have e2 : (genA x).1 = (A, B) := by simpa using e
  rw [e2]
  have hs : okSch A B := ⟨hn, hl, ha⟩
  exact ⟨hs, by rw [chkA_2 hs.ck]; exact hc _ _⟩
end
/-! ### The tasks behind the legs -/
def behA (x : Asc) (L : List Dl) : Nat → Asc
  | 0 => x
  | k + 1 => bhA (behA x L k) (dlA L k)
theorem behA_s {x : Asc} {L : List Dl} {k : Nat} {y : Dl} (h : L[k]? = some y) : behA x L (k + 1) = bhA (behA x L k) y := by show bhA _ (dlA L k) = _; rw [dlA_get h]
theorem behA_cons {x : Asc} {y : Dl} {L : List Dl} : ∀ k, behA x (y :: L) (k + 1) = behA (bhA x y) L k
  | 0 => rfl
  | k + 1 => by
    show bhA (behA x (y :: L) (k + 1)) (dlA (y :: L) (k + 1)) = bhA (behA (bhA x y) L k) (dlA L k)
    rw [behA_cons k]
    rfl
theorem beh_same (x : Asc) (L : List Dl) : ∀ k, (behA x L k).ts = x.ts ∧ (behA x L k).su = x.su ∧ (behA x L k).gs = x.gs ∧ (behA x L k).r = x.r
  | 0 => ⟨rfl, rfl, rfl, rfl⟩
  | k + 1 => beh_same x L k
inductive Found : Asc → List Dl → Prop
  | nil {x : Asc} : x.de = 0 → Found x []
  | up {x : Asc} {A : List Dl} : okAsc x → ¬ x.de = 0 → ¬ gasA x x.de < 0 → (dcA x (gUp x)).1 = 2 → Found (bhA x (gUp x)) A → Found x (gUp x :: A)
  | sy {x : Asc} {A : List Dl} : okAsc x → ¬ x.de = 0 → ¬ gasA x x.de < 0 → ¬ (dcA x (gUp x)).1 = 2 → Found (bhA x (gSy x)) A → Found x (gSy x :: A)
theorem gen_found : ∀ (n : Nat) (x : Asc) (s : Int) (L : List Dl) (F : List Int) (S : List Dl × List Int), okAsc x → genN n x s L F = (S, 0) → ∃ A, S.1 = L ++ A ∧ Found x A
  | n, x, s, L, F, S, H, h => by
    by_cases hd : x.de = 0
    · rw [gen_0 hd] at h
      injection h with h _
      exact ⟨[], by simp [← h], .nil hd⟩
    match n, h with
    | 0, h =>
      rw [gen_8 hd] at h
      injection h with _ h
      exact absurd h (by decide)
    | n + 1, h =>
      by_cases hg : gasA x x.de < 0
      · rw [gen_14 hd (by omega) hg] at h
        injection h with _ h
        exact absurd h (by decide)
      by_cases h1 : (dcA x (gUp x)).1 = 2
      · rw [gen_up hd (by omega) hg h1, Nat.add_sub_cancel] at h
        obtain ⟨A, e, hf⟩ := gen_found n _ _ _ _ S (bh_ok H (gUp_ok H hd hg)) h
        exact ⟨gUp x :: A, by rw [e]; simp, .up H hd hg h1 hf⟩
      by_cases hs : s = 60
      · rw [gen_12 hd (by omega) hg h1 hs] at h
        injection h with _ h
        exact absurd h (by decide)
      by_cases h2 : (dcA x (gSy x)).1 = 2
      · rw [gen_sy hd (by omega) hg h1 hs h2, Nat.add_sub_cancel] at h
        obtain ⟨A, e, hf⟩ := gen_found n _ _ _ _ S (bh_ok H (gSy_ok H hg)) h
        exact ⟨gSy x :: A, by rw [e]; simp, .sy H hd hg h1 hf⟩
      · rw [gen_26 hd (by omega) hg h1 hs h2] at h
        injection h with _ h
        exact absurd h (by decide)
theorem found_of {x : Asc} (H : okAsc x) (h : (genA x).2 = 0) : Found x (genA x).1.1 := by
  obtain ⟨A, e, hf⟩ := gen_found 400 x 0 [] [] (genA x).1 H (show genA x = ((genA x).1, 0) from Prod.ext rfl h)
  rw [e]
  exact hf
end Go.Proofs.YthilaakeimfedaaGreatDoor
namespace Go.Proofs.YthilaakeimfedaaGreatDoor

structure begins (x y : Lg) : Prop where
  f : y.f = x.f
  g : y.g = x.g
  s : 1 ≤ y.s ∧ y.s ≤ x.s
  line : (y.t - x.f) * x.s = (x.t - x.f) * y.s
theorem begins.ok {x y : Lg} (h : begins x y) (hx : okLg x) : okLg y := by
  have h1 := hx.f
  have h2 := hx.t
  have h3 := hx.s
  have h4 := h.s
  have h5 := h.line
  unfold okPr at h1 h2
  have a1 : 0 ≤ (x.f - 400) * (x.s - y.s) := Int.mul_nonneg (by omega) (by omega)
  have a2 : 0 ≤ (x.t - 400) * y.s := Int.mul_nonneg (by omega) (by omega)
  have a3 : 0 ≤ (31100 - x.f) * (x.s - y.s) := Int.mul_nonneg (by omega) (by omega)
  have a4 : 0 ≤ (31100 - x.t) * y.s := Int.mul_nonneg (by omega) (by omega)
  have e1 : (y.t - 400) * x.s = (x.f - 400) * (x.s - y.s) + (x.t - 400) * y.s := by grind
  have e2 : (31100 - y.t) * x.s = (31100 - x.f) * (x.s - y.s) + (31100 - x.t) * y.s := by grind
  have b1 : 0 ≤ y.t - 400 := Int.nonneg_of_mul_nonneg_left (by rw [e1]; omega) (show 0 < x.s by omega)
  have b2 : 0 ≤ 31100 - y.t := Int.nonneg_of_mul_nonneg_left (by rw [e2]; omega) (show 0 < x.s by omega)
  exact ⟨by unfold okPr; rw [h.f]; exact h1, by unfold okPr; omega, by omega, by rw [h.g]; exact hx.g⟩
theorem prs_beg {x y : Lg} (h : begins x y) (t : Int) : prs y t = prs x t := by
  have h4 := h.s
  have hx : x.s > 0 := by omega
  have hy : y.s > 0 := by omega
  have e : sumM y t * x.s = sumM x t * y.s := by
    rw [← sum_alt, ← sum_alt, h.f]
    have := h.line
    grind
  have e2 : ((sumM y t * x.s : Int) : Rat) = ((sumM x t * y.s : Int) : Rat) := by rw [e]
  rw [Rat.intCast_mul, Rat.intCast_mul, ← prs_mul hx, ← prs_mul hy] at e2
  have px : (0 : Rat) < (x.s : Rat) := Rat.intCast_pos.2 hx
  have py : (0 : Rat) < (y.s : Rat) := Rat.intCast_pos.2 hy
  have pp : (0 : Rat) < (x.s : Rat) * (y.s : Rat) := Rat.mul_pos px py
  have e3 : prs y t * ((x.s : Rat) * (y.s : Rat)) = prs x t * ((x.s : Rat) * (y.s : Rat)) := by grind
  have c1 := Rat.le_of_mul_le_mul_right (a := prs y t) (b := prs x t) (by rw [e3]; exact Rat.le_refl) pp
  have c2 := Rat.le_of_mul_le_mul_right (a := prs x t) (b := prs y t) (by rw [e3]; exact Rat.le_refl) pp
  exact Rat.le_antisymm c1 c2
theorem begins.mid {f g n m k : Nat} {x y : Lg} {part half : Int} {l : Rg} (h : begins x y) (hO : onLeg x n part half) (hP : onLeg y m part half) (hl : inX l) (ho : l.lo ≤ l.hi) (hk : k < n)
    (h1 : (mkM x n k).s ≤ y.s) (h2 : y.s ≤ (mkM x n ((k : Int) + 1)).s) : (seqR g y m part half l m).lo ≤ max (seqR f x n part half l k).hi (seqR f x n part half l (k + 1)).hi := by
  have h4 := h.s
  have hs : x.s > 0 := by omega
  have hsy : y.s > 0 := by omega
  obtain ⟨h, rfl⟩ := Int.eq_ofNat_of_zero_le (show 0 ≤ half by have := hO.h; omega)
  obtain ⟨r, η, H, hη⟩ := rt_ex h (by have := hO.h; omega) 800000000000000 (by decide)
  have hq : goes (fun t => (part : Rat) * (prs x t - 63)) 0 x part := fun t _ => by simp
  have hqy : goes (fun t => (part : Rat) * (prs x t - 63)) 0 y part := fun t _ => by
    rw [prs_beg ‹begins x y›]
    simp
  have e : traj (fun t => (part : Rat) * (prs x t - 63)) r (l.lo : Rat) 0 = (l.lo : Rat) := rfl
  have p1 : (l.lo : Rat) ≤ traj (fun t => (part : Rat) * (prs x t - 63)) r (l.lo : Rat) 0 + 0 := by rw [e]; grind
  have p2 : traj (fun t => (part : Rat) * (prs x t - 63)) r (l.lo : Rat) 0 ≤ (l.hi : Rat) + 0 := by rw [e]; have := cle ho; grind
  have a := (leg_enc (f := g) (ε := 0) H hP hsy hl (Rat.le_refl) hqy p1 p2 m (Nat.le_refl _)).1
  rw [mk_end hP.n.1] at a
  obtain ⟨t, ht⟩ := Int.eq_ofNat_of_zero_le (show 0 ≤ y.s by omega)
  rw [ht] at a h1 h2
  rw [Int.toNat_natCast] at a
  have b := leg_mid (f := f) (ε := 0) H hO hs hl (Rat.le_refl) hq p1 p2 hk h1 h2
  have hmk := mk_in (j := (k : Int) + 1) hO.x (n := (n : Int)) (by omega) (by have := hO.n; omega)
  have hxs := hO.x.s
  have s1 := small_ex H.e0 hη (show (t : Int) ≤ 1000000 by omega)
  have s2 := small_ex H.e0 hη (show (mkM x n ((k : Int) + 1)).s ≤ 1000000 by omega)
  revert a b
  generalize traj _ r _ (0 + t) = T
  intro a b
  exact int_le (x := T) (ε := 1 / 8) (by grind) (by grind) (by grind)
theorem ckLeg_yes {y : Lg} (h : okLg y) (hs : 1 ≤ y.s) : ckLeg y = 0 := by
  have h1 := h.f
  have h2 := h.t
  have h3 := h.s
  have a := h.g.a
  have b := h.g.b
  have c := h.g.c
  unfold ckLeg
  rw [if_neg (fun hh => hh ⟨h1, h2, h3⟩)]
  have hg : ckGas y.g.o y.g.h = 0 := by
    unfold ckGas
    rw [if_neg (by omega), if_neg (by omega)]
  rw [hg, if_neg (by omega), if_neg (by omega)]
theorem begin_mk {x : Lg} {s d : Int} (hs : 1 ≤ s ∧ s ≤ x.s) (hd : (x.t - x.f) * s = x.s * d) : begins x ⟨x.f, x.f + d, s, x.g⟩ := ⟨rfl, rfl, hs, by dsimp only; rw [show x.f + d - x.f = d by omega, hd, Int.mul_comm]⟩
theorem ckAt_yes {ts : List Cp} {ls : List Ld} {p fa : Int} (h : okTL ts ls) (hp : okPr p) (hf : 0 ≤ fa ∧ fa ≤ 1000) : ckAt ts ls p fa = 0 := by
  unfold ckAt
  rw [ckLoads_mk h, if_neg (fun hh => hh rfl), if_pos ⟨hp, hf⟩]
theorem begins.peak {ts : List Cp} {ls : List Ld} {x y : Lg} {f g i : Nat} {c : Cp} {w : Ld} (hb : begins x y) (hk : okTL ts ls) (hx : okLg x) (hf : f ≤ 6) (hg : g ≤ 6) (hc : ts[i]? = some c) (hw : (loadedM ts ls y g)[i]? = some w) :
    ∃ k, k < 2 ^ f ∧ stLo x (2 ^ f) k ≤ y.t ∧ ∃ a b, (stM f ts ls x (2 ^ f) k)[i]? = some a ∧ (stM f ts ls x (2 ^ f) (k + 1))[i]? = some b ∧ w.n.lo + w.h.lo ≤ peakL a b := by
  have n1 := two_f hf rfl
  have n2 := two_f hg rfl
  have h4 := hb.s
  have hs : x.s > 0 := by omega
  have hy := hb.ok hx
  rw [loadedM_pos (by omega) rfl] at hw
  generalize hn : 2 ^ f = n at *
  generalize hm : 2 ^ g = m at *
  obtain ⟨c', z, hc', hz, rfl⟩ := get_both hk.len hw
  rw [hc] at hc'
  injection hc' with hc'
  subst hc'
  have hck := hk.c c (List.mem_of_getElem? hc)
  have hzi := hk.x z (List.mem_of_getElem? hz)
  have hzo := hk.o z (List.mem_of_getElem? hz)
  obtain ⟨k, hkn, k1, k2⟩ := mk_find (n := n) hx n1.1 (t := y.s) (by omega) (by omega)
  have o1 := onLeg_n hy n2 hck
  have o2 := onLeg_h hy n2 hck
  rw [hb.g] at o1 o2
  have a := hb.mid (f := f) (g := g) (onLeg_n hx n1 hck) o1 hzi.1 hzo.1 hkn k1 k2
  have b := hb.mid (f := f) (g := g) (onLeg_h hx n1 hck) o2 hzi.2 hzo.2 hkn k1 k2
  have hp := prs_in hs k1 k2
  have ht : prs x y.s = (y.t : Rat) := by
    rw [← prs_beg hb]
    have e1 := prs_mul (x := y) (by omega) y.s
    have e2 : sumM y y.s = y.t * y.s := by rw [← sum_alt]; grind
    rw [e2, Rat.intCast_mul] at e1
    have py : (0 : Rat) < (y.s : Rat) := Rat.intCast_pos.2 (by omega)
    exact Rat.le_antisymm (Rat.le_of_mul_le_mul_right (by rw [e1]; exact Rat.le_refl) py) (Rat.le_of_mul_le_mul_right (by rw [e1]; exact Rat.le_refl) py)
  rw [ht] at hp
  refine ⟨k, hkn, Rat.intCast_le_intCast.1 hp.1, _, _, stM_get hc hz k, stM_get hc hz (k + 1), ?_⟩
  rw [hb.g]
  unfold peakL
  dsimp only
  omega
theorem peaks_grow {f : Nat} {ts : List Cp} {ls : List Ld} {x : Lg} {n i j : Nat} {a b : Ld} (ha : (prevM f ts ls x n j)[i]? = some a) (hb : (stM f ts ls x n j)[i]? = some b) : ∀ (k : Nat) (z : Int), j < k → (peaksK f ts ls x n k)[i]? = some z → peakL a b ≤ z
  | 0, _, h, _ => by omega
  | k + 1, z, h, hz => by
    have h1 : (List.zipWith max (peaksK f ts ls x n k) (pkL (prevM f ts ls x n k) (stM f ts ls x n k)))[i]? = some z := hz
    rw [List.getElem?_zipWith] at h1
    cases hp : (peaksK f ts ls x n k)[i]? with
    | none => rw [hp] at h1; simp at h1
    | some v =>
      rw [hp] at h1
      cases hq : (pkL (prevM f ts ls x n k) (stM f ts ls x n k))[i]? with
      | none => rw [hq] at h1; simp at h1
      | some u =>
        rw [hq] at h1
        have h2 : max v u = z := by simpa using h1
        rcases Nat.lt_succ_iff_lt_or_eq.1 h with hj | rfl
        · have := peaks_grow ha hb k v hj hp
          omega
        · unfold pkL at hq
          rw [List.getElem?_zipWith, ha, hb] at hq
          injection hq with hq
          omega
theorem begins.peaks {ts : List Cp} {ls : List Ld} {x y : Lg} {f g i : Nat} {w : Ld} {z : Int} (hb : begins x y) (hk : okTL ts ls) (hx : okLg x) (hf : f ≤ 6) (hg : g ≤ 6) (hw : (loadedM ts ls y g)[i]? = some w) (hz : (peaksT ts ls x f)[i]? = some z) : w.n.lo + w.h.lo ≤ z := by
  have hi : i < ts.length := by
    have := (List.getElem?_eq_some_iff.1 hw).1
    rw [loadedM_len hk.len] at this
    exact this
  obtain ⟨c, hc⟩ := get_some ts hi
  obtain ⟨k, hkn, _, a, b, ha, hb', hle⟩ := hb.peak hk hx hf hg hc hw
  have h4 := hb.s
  unfold peaksT rmkN at hz
  rw [if_neg (by omega)] at hz
  have := peaks_grow (j := k + 1) (show (prevM f ts ls x (2 ^ f) (k + 1))[i]? = some a from ha) hb' (2 ^ f + 1) z (by omega) hz
  omega
theorem begins.kept {ts : List Cp} {ls : List Ld} {x y : Lg} {fa : Int} {f g : Nat} (hb : begins x y) (H : okTask ts ls x fa) (hf : f ≤ 6) (hg : g ≤ 6) (h2 : keptT ts ls x fa f = 2) : keptM ts (loadedM ts ls y g) y.t fa ≠ 0 := by
  rw [Ne, kept_no, Decidable.not_not]
  have hy : yesB fa f ts ls x (2 ^ f) (rmkN x (2 ^ f)) = true := by
    unfold keptT ansM at h2
    by_cases hy : yesB fa f ts ls x (2 ^ f) (rmkN x (2 ^ f)) = true
    · exact hy
    · rw [if_neg hy] at h2
      split at h2 <;> cases h2
  rw [yesB_iff] at hy
  have h4 := hb.s
  unfold rmkN at hy
  rw [if_neg (by omega)] at hy
  refine all2_get fun i c w hc hw => ?_
  obtain ⟨k, hkn, hle, a, b, ha, hb', hw9⟩ := hb.peak H.k H.xx hf hg hc hw
  have h1 := all2_at (hy (k + 1) (by omega)) i c _ hc (zip_get (show (prevM f ts ls x (2 ^ f) (k + 1))[i]? = some a from ha) hb')
  have hlim := lim_up (H.k.c c (List.mem_of_getElem? hc)) H.fa hle
  unfold pk1 at h1
  dsimp only at h1
  have e3 : lowM x (2 ^ f) (k + 1) = stLo x (2 ^ f) k := rfl
  rw [e3] at h1
  unfold lw1
  omega
end Go.Proofs.YthilaakeimfedaaGreatDoor
