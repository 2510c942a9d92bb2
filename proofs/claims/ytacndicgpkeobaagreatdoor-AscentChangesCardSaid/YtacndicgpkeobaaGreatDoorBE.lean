/-
  Walks: each function named returns what its model says. Conditions: those in front of each theorem.
-/
import Derived.Test.YtacndicgpkeobaaGreatDoorAs8
import Derived.Test.YtacndicgpkeobaaGreatDoorShBld
import Derived.Test.YtacndicgpkeobaaGreatDoorAQ
import Derived.Test.YtacndicgpkeobaaGreatDoorFol
import Derived.Test.YtacndicgpkeobaaGreatDoorJ
import Derived.Test.YtacndicgpkeobaaGreatDoorV
import Derived.Test.YtacndicgpkeobaaGreatDoorArgB
import Derived.Test.YtacndicgpkeobaaGreatDoorShCopy
import Derived.Test.YtacndicgpkeobaaGreatDoorAD
import Derived.Test.YtacndicgpkeobaaGreatDoorLHe
namespace Go.Proofs.YtacndicgpkeobaaGreatDoor

structure begins (x y : Lg) : Prop where
  f : y.f = x.f
  g : y.g = x.g
  s : 1 ≤ y.s ∧ y.s ≤ x.s
  line : (y.t - x.f) * x.s = (x.t - x.f) * y.s
theorem begins.ok {x y : Lg} (h : begins x y) (hx : okLg x) : okLg y := by
  have h1 := hx.f
  have h2 := hx.t
  have h3 := hx.s
  have h4 := h.s
  have h5 := h.line
  unfold okPr at h1 h2
  have a1 : 0 ≤ (x.f - 400) * (x.s - y.s) := Int.mul_nonneg (by omega) (by omega)
  have a2 : 0 ≤ (x.t - 400) * y.s := Int.mul_nonneg (by omega) (by omega)
  have a3 : 0 ≤ (31100 - x.f) * (x.s - y.s) := Int.mul_nonneg (by omega) (by omega)
  have a4 : 0 ≤ (31100 - x.t) * y.s := Int.mul_nonneg (by omega) (by omega)
  have e1 : (y.t - 400) * x.s = (x.f - 400) * (x.s - y.s) + (x.t - 400) * y.s := by grind
  have e2 : (31100 - y.t) * x.s = (31100 - x.f) * (x.s - y.s) + (31100 - x.t) * y.s := by grind
  have b1 : 0 ≤ y.t - 400 := Int.nonneg_of_mul_nonneg_left (by rw [e1]; omega) (show 0 < x.s by omega)
  have b2 : 0 ≤ 31100 - y.t := Int.nonneg_of_mul_nonneg_left (by rw [e2]; omega) (show 0 < x.s by omega)
  exact ⟨by unfold okPr; rw [h.f]; exact h1, by unfold okPr; omega, by omega, by rw [h.g]; exact hx.g⟩
theorem prs_beg {x y : Lg} (h : begins x y) (t : Int) : prs y t = prs x t := by
  have h4 := h.s
  have hx : x.s > 0 := by omega
  have hy : y.s > 0 := by omega
  have e : sumM y t * x.s = sumM x t * y.s := by
    rw [← sum_alt, ← sum_alt, h.f]
    have := h.line
    grind
  have e2 : ((sumM y t * x.s : Int) : Rat) = ((sumM x t * y.s : Int) : Rat) := by rw [e]
  rw [Rat.intCast_mul, Rat.intCast_mul, ← prs_mul hx, ← prs_mul hy] at e2
  have px : (0 : Rat) < (x.s : Rat) := Rat.intCast_pos.2 hx
  have py : (0 : Rat) < (y.s : Rat) := Rat.intCast_pos.2 hy
  have pp : (0 : Rat) < (x.s : Rat) * (y.s : Rat) := Rat.mul_pos px py
  have e3 : prs y t * ((x.s : Rat) * (y.s : Rat)) = prs x t * ((x.s : Rat) * (y.s : Rat)) := by grind
  have c1 := Rat.le_of_mul_le_mul_right (a := prs y t) (b := prs x t) (by rw [e3]; exact Rat.le_refl) pp
  have c2 := Rat.le_of_mul_le_mul_right (a := prs x t) (b := prs y t) (by rw [e3]; exact Rat.le_refl) pp
  exact Rat.le_antisymm c1 c2
theorem begins.mid {f g n m k : Nat} {x y : Lg} {part half : Int} {l : Rg} (h : begins x y) (hO : onLeg x n part half) (hP : onLeg y m part half) (hl : inX l) (ho : l.lo ≤ l.hi) (hk : k < n)
    (h1 : (mkM x n k).s ≤ y.s) (h2 : y.s ≤ (mkM x n ((k : Int) + 1)).s) : (seqR g y m part half l m).lo ≤ max (seqR f x n part half l k).hi (seqR f x n part half l (k + 1)).hi := by
  have h4 := h.s
  have hs : x.s > 0 := by omega
  have hsy : y.s > 0 := by omega
  obtain ⟨h, rfl⟩ := Int.eq_ofNat_of_zero_le (show 0 ≤ half by have := hO.h; omega)
  obtain ⟨r, η, H, hη⟩ := rt_ex h (by have := hO.h; omega) 800000000000000 (by decide)
  have hq : goes (fun t => (part : Rat) * (prs x t - 63)) 0 x part := fun t _ => by simp
  have hqy : goes (fun t => (part : Rat) * (prs x t - 63)) 0 y part := fun t _ => by
    rw [prs_beg ‹begins x y›]
    simp
  have e : traj (fun t => (part : Rat) * (prs x t - 63)) r (l.lo : Rat) 0 = (l.lo : Rat) := rfl
  have p1 : (l.lo : Rat) ≤ traj (fun t => (part : Rat) * (prs x t - 63)) r (l.lo : Rat) 0 + 0 := by rw [e]; grind
  have p2 : traj (fun t => (part : Rat) * (prs x t - 63)) r (l.lo : Rat) 0 ≤ (l.hi : Rat) + 0 := by rw [e]; have := cle ho; grind
  have a := (leg_enc (f := g) (ε := 0) H hP hsy hl (Rat.le_refl) hqy p1 p2 m (Nat.le_refl _)).1
  rw [mk_end hP.n.1] at a
  obtain ⟨t, ht⟩ := Int.eq_ofNat_of_zero_le (show 0 ≤ y.s by omega)
  rw [ht] at a h1 h2
  rw [Int.toNat_natCast] at a
  have b := leg_mid (f := f) (ε := 0) H hO hs hl (Rat.le_refl) hq p1 p2 hk h1 h2
  have hmk := mk_in (j := (k : Int) + 1) hO.x (n := (n : Int)) (by omega) (by have := hO.n; omega)
  have hxs := hO.x.s
  have s1 := small_ex H.e0 hη (show (t : Int) ≤ 1000000 by omega)
  have s2 := small_ex H.e0 hη (show (mkM x n ((k : Int) + 1)).s ≤ 1000000 by omega)
  revert a b
  generalize traj _ r _ (0 + t) = T
  intro a b
  exact int_le (x := T) (ε := 1 / 8) (by grind) (by grind) (by grind)
theorem begins.peak {ts : List Cp} {ls : List Ld} {x y : Lg} {f g i : Nat} {c : Cp} {w : Ld} (hb : begins x y) (hk : okTL ts ls) (hx : okLg x) (hf : f ≤ 6) (hg : g ≤ 6) (hc : ts[i]? = some c) (hw : (loadedM ts ls y g)[i]? = some w) :
    ∃ k, k < 2 ^ f ∧ stLo x (2 ^ f) k ≤ y.t ∧ ∃ a b, (stM f ts ls x (2 ^ f) k)[i]? = some a ∧ (stM f ts ls x (2 ^ f) (k + 1))[i]? = some b ∧ w.n.lo + w.h.lo ≤ peakL a b := by
  have n1 := two_f hf rfl
  have n2 := two_f hg rfl
  have h4 := hb.s
  have hs : x.s > 0 := by omega
  have hy := hb.ok hx
  rw [loadedM_pos (by omega) rfl] at hw
  generalize hn : 2 ^ f = n at *
  generalize hm : 2 ^ g = m at *
  obtain ⟨c', z, hc', hz, rfl⟩ := get_both hk.len hw
  rw [hc] at hc'
  injection hc' with hc'
  subst hc'
  have hck := hk.c c (List.mem_of_getElem? hc)
  have hzi := hk.x z (List.mem_of_getElem? hz)
  have hzo := hk.o z (List.mem_of_getElem? hz)
  obtain ⟨k, hkn, k1, k2⟩ := mk_find (n := n) hx n1.1 (t := y.s) (by omega) (by omega)
  have o1 := onLeg_n hy n2 hck
  have o2 := onLeg_h hy n2 hck
  rw [hb.g] at o1 o2
  have a := hb.mid (f := f) (g := g) (onLeg_n hx n1 hck) o1 hzi.1 hzo.1 hkn k1 k2
  have b := hb.mid (f := f) (g := g) (onLeg_h hx n1 hck) o2 hzi.2 hzo.2 hkn k1 k2
  have hp := prs_in hs k1 k2
  have ht : prs x y.s = (y.t : Rat) := by
    rw [← prs_beg hb]
    have e1 := prs_mul (x := y) (by omega) y.s
    have e2 : sumM y y.s = y.t * y.s := by rw [← sum_alt]; grind
    rw [e2, Rat.intCast_mul] at e1
    have py : (0 : Rat) < (y.s : Rat) := Rat.intCast_pos.2 (by omega)
    exact Rat.le_antisymm (Rat.le_of_mul_le_mul_right (by rw [e1]; exact Rat.le_refl) py) (Rat.le_of_mul_le_mul_right (by rw [e1]; exact Rat.le_refl) py)
  rw [ht] at hp
  refine ⟨k, hkn, Rat.intCast_le_intCast.1 hp.1, _, _, stM_get hc hz k, stM_get hc hz (k + 1), ?_⟩
  rw [hb.g]
  unfold peakL
  dsimp only
  omega
theorem peaks_grow {f : Nat} {ts : List Cp} {ls : List Ld} {x : Lg} {n i j : Nat} {a b : Ld} (ha : (prevM f ts ls x n j)[i]? = some a) (hb : (stM f ts ls x n j)[i]? = some b) : ∀ (k : Nat) (z : Int), j < k → (peaksK f ts ls x n k)[i]? = some z → peakL a b ≤ z
  | 0, _, h, _ => by omega
  | k + 1, z, h, hz => by
    have h1 : (List.zipWith max (peaksK f ts ls x n k) (pkL (prevM f ts ls x n k) (stM f ts ls x n k)))[i]? = some z := hz
    rw [List.getElem?_zipWith] at h1
    cases hp : (peaksK f ts ls x n k)[i]? with
    | none => rw [hp] at h1; simp at h1
    | some v =>
      rw [hp] at h1
      cases hq : (pkL (prevM f ts ls x n k) (stM f ts ls x n k))[i]? with
      | none => rw [hq] at h1; simp at h1
      | some u =>
        rw [hq] at h1
        have h2 : max v u = z := by simpa using h1
        rcases Nat.lt_succ_iff_lt_or_eq.1 h with hj | rfl
        · have := peaks_grow ha hb k v hj hp
          omega
        · unfold pkL at hq
          rw [List.getElem?_zipWith, ha, hb] at hq
          injection hq with hq
          omega
theorem begins.peaks {ts : List Cp} {ls : List Ld} {x y : Lg} {f g i : Nat} {w : Ld} {z : Int} (hb : begins x y) (hk : okTL ts ls) (hx : okLg x) (hf : f ≤ 6) (hg : g ≤ 6) (hw : (loadedM ts ls y g)[i]? = some w) (hz : (peaksT ts ls x f)[i]? = some z) : w.n.lo + w.h.lo ≤ z := by
  have hi : i < ts.length := by
    have := (List.getElem?_eq_some_iff.1 hw).1
    rw [loadedM_len hk.len] at this
    exact this
  obtain ⟨c, hc⟩ := get_some ts hi
  obtain ⟨k, hkn, _, a, b, ha, hb', hle⟩ := hb.peak hk hx hf hg hc hw
  have h4 := hb.s
  unfold peaksT rmkN at hz
  rw [if_neg (by omega)] at hz
  have := peaks_grow (j := k + 1) (show (prevM f ts ls x (2 ^ f) (k + 1))[i]? = some a from ha) hb' (2 ^ f + 1) z (by omega) hz
  omega
theorem begins.kept {ts : List Cp} {ls : List Ld} {x y : Lg} {fa : Int} {f g : Nat} (hb : begins x y) (H : okTask ts ls x fa) (hf : f ≤ 6) (hg : g ≤ 6) (h2 : keptT ts ls x fa f = 2) : keptM ts (loadedM ts ls y g) y.t fa ≠ 0 := by
  rw [Ne, kept_no, Decidable.not_not]
  have hy : yesB fa f ts ls x (2 ^ f) (rmkN x (2 ^ f)) = true := by
    unfold keptT ansM at h2
    by_cases hy : yesB fa f ts ls x (2 ^ f) (rmkN x (2 ^ f)) = true
    · exact hy
    · rw [if_neg hy] at h2
      split at h2 <;> cases h2
  rw [yesB_iff] at hy
  have h4 := hb.s
  unfold rmkN at hy
  rw [if_neg (by omega)] at hy
  refine all2_get fun i c w hc hw => ?_
  obtain ⟨k, hkn, hle, a, b, ha, hb', hw9⟩ := hb.peak H.k H.xx hf hg hc hw
  have h1 := all2_at (hy (k + 1) (by omega)) i c _ hc (zip_get (show (prevM f ts ls x (2 ^ f) (k + 1))[i]? = some a from ha) hb')
  have hlim := lim_up (H.k.c c (List.mem_of_getElem? hc)) H.fa hle
  unfold pk1 at h1
  dsimp only at h1
  have e3 : lowM x (2 ^ f) (k + 1) = stLo x (2 ^ f) k := rfl
  rw [e3] at h1
  unfold lw1
  omega
end Go.Proofs.YtacndicgpkeobaaGreatDoor
namespace Go.Proofs.YtacndicgpkeobaaGreatDoor
open Go.RowKit
section
variable {r : Rl} {a b : Int}
end
end Go.Proofs.YtacndicgpkeobaaGreatDoor
namespace Go.Proofs.YtacndicgpkeobaaGreatDoor

/-! ### Loads out of numbers -/
end Go.Proofs.YtacndicgpkeobaaGreatDoor
namespace Go.Proofs.YtacndicgpkeobaaGreatDoor
/-! ### Stops of a schedule that is found -/
/-! ### How many seconds stops have -/
/-! ### A surely kept leg, at every instant -/
/-! ### The direct ascent as a schedule -/
end Go.Proofs.YtacndicgpkeobaaGreatDoor
namespace Go.Proofs.YtacndicgpkeobaaGreatDoor
open Go.RowKit
section
variable {rs t s : List Res}
instance (priority := low) gvC {v : Value} {size : Nat} {l : List (List Value)} [h : Gv t v size l] : Gv (s ++ t) v size l := ⟨by
  obtain ⟨r, hr, hg⟩ := h.out
  exact ⟨r, List.mem_append_right _ hr, hg⟩⟩
instance (priority := low) bxC {g : Nat} {u : TypeId} {xs : List Value} [h : Bx t g u xs] : Bx (s ++ t) g u xs := ⟨List.mem_append_right _ h.out⟩
theorem gv_r {v : Value} {size : Nat} {l : List (List Value)} (h : GvR t v size l) : GvR (s ++ t) v size l := by
  obtain ⟨r, hr, hg⟩ := h
  exact ⟨r, List.mem_append_right _ hr, hg⟩
end
section
variable {x : Asc} {L : List Dl} {F : List Int}
theorem gen_bad : ∀ (n : Nat) (x : Asc) (s : Int) (L : List Dl) (F : List Int), (genN n x s L F).2 ≠ 0 → (genN n x s L F).1 = ([], [])
  | n, x, s, L, F, h => by
    by_cases hd : x.de = 0
    · rw [gen_0 hd] at h
      exact absurd rfl h
    match n, h with
    | 0, _ => rw [gen_8 hd]
    | n + 1, h =>
      by_cases hg : gasA x x.de < 0
      · rw [gen_14 hd (by omega) hg]
      by_cases h1 : (dcA x (gUp x)).1 = 2
      · rw [gen_up hd (by omega) hg h1, Nat.add_sub_cancel] at h ⊢
        exact gen_bad n _ _ _ _ h
      by_cases hs : s = 60
      · rw [gen_12 hd (by omega) hg h1 hs]
      by_cases h2 : (dcA x (gSy x)).1 = 2
      · rw [gen_sy hd (by omega) hg h1 hs h2, Nat.add_sub_cancel] at h ⊢
        exact gen_bad n _ _ _ _ h
      · rw [gen_26 hd (by omega) hg h1 hs h2]
theorem gen_len (H : okAsc x) : (genA x).1.1.length ≤ 400 ∧ (genA x).1.2.length ≤ 400 := by
  by_cases h : (genA x).2 = 0
  · have hS := (gen_chk H h).1
    have h1 := hS.n; have h2 := hS.l
    omega
  · have e : (genA x).1 = ([], []) := gen_bad 400 x 0 [] [] h
    rw [e]
    exact ⟨Nat.zero_le _, Nat.zero_le _⟩
end
end Go.Proofs.YtacndicgpkeobaaGreatDoor
namespace Go.Proofs.YtacndicgpkeobaaGreatDoor
open Go.RowKit
/-! ### Legs of plans -/
section
variable {x : Asc} {sf : Int} {gs : List Gs} {ls : List Dl} {s : Int}
end
theorem z_len : zAsc.ts.length ≤ 100000 ∧ zAsc.ls.length ≤ 100000 ∧ zAsc.gs.length ≤ 100000 := by decide
def isRf (v u w : Value) (x X : Asc) (e : Int) (y : Value) (rs : List Res) : Prop := ∃ A1 n1 c1 A2 n2 c2 A3 n3 c3, y = .tuple #[.agg (cAt (.slice A1 n1 c1) (.slice A2 n2 c2) (.slice A3 n3 c3) X).toArray, .int .i64 e] ∧ (∀ r ∈ rs, Sinks r) ∧
  ∀ R, GvR R v 4 (x.ts.map cCp) → GvR R u 4 (x.ls.map cLd) → GvR R w 3 (x.gs.map cAg) → GvR (rs ++ R) (.slice A1 n1 c1) 4 (X.ts.map cCp) ∧ GvR (rs ++ R) (.slice A2 n2 c2) 4 (X.ls.map cLd) ∧ GvR (rs ++ R) (.slice A3 n3 c3) 3 (X.gs.map cAg)
theorem isRf_sinks {v u w : Value} {x X : Asc} {e : Int} : ∀ y rs, isRf v u w x X e y rs → ∀ r ∈ rs, Sinks r := by
  rintro y rs ⟨_, _, _, _, _, _, _, _, _, _, h, _⟩
  exact h
theorem rf_nil {v u w : Value} {x : Asc} {e : Int} {tc tl tg : TypeId} : isRf v u w x zAsc e (.tuple #[.agg (cAt (.slice none 0 0) (.slice none 0 0) (.slice none 0 0) zAsc).toArray, .int .i64 e]) [sl (.slice none 0 0) tc 4 [], sl (.slice none 0 0) tl 4 [], sl (.slice none 0 0) tg 3 []] := by
  refine ⟨_, _, _, _, _, _, _, _, _, rfl, ?_, fun R _ _ _ => ⟨gs0, gv1 gs0, gv1 (gv1 gs0)⟩⟩
  intro r hr
  simp only [List.mem_cons, List.not_mem_nil, or_false] at hr
  rcases hr with rfl | rfl | rfl <;> exact sl_sinks _ _ _ _
end Go.Proofs.YtacndicgpkeobaaGreatDoor
namespace Go.Proofs.YtacndicgpkeobaaGreatDoor
open Go.RowKit

end Go.Proofs.YtacndicgpkeobaaGreatDoor
namespace Go.Proofs.YtacndicgpkeobaaGreatDoor
open Go.RowKit

end Go.Proofs.YtacndicgpkeobaaGreatDoor
namespace Go.Proofs.YtacndicgpkeobaaGreatDoor
open Go.RowKit

end Go.Proofs.YtacndicgpkeobaaGreatDoor
namespace Go.Proofs.YtacndicgpkeobaaGreatDoor
open Go.RowKit

end Go.Proofs.YtacndicgpkeobaaGreatDoor
namespace Go.Proofs.YtacndicgpkeobaaGreatDoor
open Go.RowKit

end Go.Proofs.YtacndicgpkeobaaGreatDoor
namespace Go.Proofs.YtacndicgpkeobaaGreatDoor
def loR (r : Rl) (v : Int) : Rl := { r with lo := v }
def chgX (x : Asc) (kd v : Int) : Asc := if kd = 2 then { x with r := loR x.r v } else if chgE x kd v ≠ 0 then x else chgT x kd v
section
variable {x : Asc} {kd v : Int}
theorem chg_0a (k0 : kd = 0) (h : ¬ (1 ≤ v ∧ v ≤ 100000)) : chgE x kd v = 2 ∧ chgX x kd v = x := by
  have e : chgE x kd v = 2 := by unfold chgE; rw [if_pos k0, if_pos h]
  exact ⟨e, by unfold chgX; rw [if_neg (by omega), if_pos (by rw [e]; decide)]⟩
theorem chg_0b (k0 : kd = 0) (h : 1 ≤ v ∧ v ≤ 100000) (h2 : gasA x x.de < 0) : chgE x kd v = 14 ∧ chgX x kd v = x := by
  have e : chgE x kd v = 14 := by unfold chgE; rw [if_pos k0, if_neg (fun hh => hh h), if_pos h2]
  exact ⟨e, by unfold chgX; rw [if_neg (by omega), if_pos (by rw [e]; decide)]⟩
theorem chg_0c (k0 : kd = 0) (h : 1 ≤ v ∧ v ≤ 100000) (h2 : ¬ gasA x x.de < 0) : chgE x kd v = 0 ∧ chgX x kd v = bhA x ⟨v, x.de, gasA x x.de⟩ := by
  have e : chgE x kd v = 0 := by unfold chgE; rw [if_pos k0, if_neg (fun hh => hh h), if_neg h2]
  exact ⟨e, by unfold chgX chgT; rw [if_neg (by omega), if_neg (fun hh => hh e), if_pos k0]⟩
theorem chg_1a (k0 : ¬ kd = 0) (k1 : kd = 1) (h : ¬ (0 ≤ v ∧ v ≤ (x.gs.length : Int) - 1)) : chgE x kd v = 6 ∧ chgX x kd v = x := by
  have e : chgE x kd v = 6 := by unfold chgE; rw [if_neg k0, if_pos k1, if_pos h]
  exact ⟨e, by unfold chgX; rw [if_neg (by omega), if_pos (by rw [e]; decide)]⟩
theorem chg_1b (k0 : ¬ kd = 0) (k1 : kd = 1) (h : 0 ≤ v ∧ v ≤ (x.gs.length : Int) - 1) (h2 : x.gs.length = 1) : chgE x kd v = 10 ∧ chgX x kd v = x := by
  have e : chgE x kd v = 10 := by unfold chgE; rw [if_neg k0, if_pos k1, if_neg (fun hh => hh h), if_pos h2]
  exact ⟨e, by unfold chgX; rw [if_neg (by omega), if_pos (by rw [e]; decide)]⟩
def cutG (l : List Ag) (v : Int) : List Ag := l.take v.toNat ++ l.drop (v.toNat + 1)
theorem chg_1c (k0 : ¬ kd = 0) (k1 : kd = 1) (h : 0 ≤ v ∧ v ≤ (x.gs.length : Int) - 1) (h2 : ¬ x.gs.length = 1) : chgE x kd v = 0 ∧ chgX x kd v = { x with gs := cutG x.gs v } := by
  have e : chgE x kd v = 0 := by unfold chgE; rw [if_neg k0, if_pos k1, if_neg (fun hh => hh h), if_neg h2]
  exact ⟨e, by unfold chgX chgT; rw [if_neg (by omega), if_neg (fun hh => hh e), if_neg k0, if_pos k1]; rfl⟩
theorem chg_2 (k2 : kd = 2) : chgE x kd v = ckRl (loR x.r v) ∧ chgX x kd v = { x with r := loR x.r v } :=
  ⟨by unfold chgE; rw [if_neg (by omega), if_neg (by omega), if_pos k2]; rfl, if_pos k2⟩
theorem chg_3 (k0 : ¬ kd = 0) (k1 : ¬ kd = 1) (k2 : ¬ kd = 2) : chgE x kd v = 15 ∧ chgX x kd v = x := by
  have e : chgE x kd v = 15 := by unfold chgE; rw [if_neg k0, if_neg k1, if_neg k2]
  exact ⟨e, by unfold chgX; rw [if_neg k2, if_pos (by rw [e]; decide)]⟩
theorem chgX_ok (h : chgE x kd v = 0) : chgX x kd v = chgT x kd v := by
  unfold chgX
  by_cases h2 : kd = 2
  · rw [if_pos h2]; unfold chgT; rw [if_neg (by omega), if_neg (by omega)]; rfl
  · rw [if_neg h2, if_neg (fun hh => hh h)]
end
/-! ### The gases without one, as two copies leave them -/
theorem cutA {l R : List (List Value)} {v : Nat} : R.take 0 ++ (l.take v).take v ++ R.drop (0 + v) = l.take v ++ R.drop v := by
  rw [List.take_zero, List.nil_append, List.take_take, Nat.min_self, Nat.zero_add]
theorem cutB {l R : List (List Value)} {n v : Nat} (hl : l.length = n) (hR : R.length = n - 1) (hv : v ≤ n - 1) (hn : 1 ≤ n) : (l.take v ++ R.drop v).take v ++ (l.drop (v + 1)).take (n - 1 - v) ++ (l.take v ++ R.drop v).drop (v + (n - 1 - v)) = l.take v ++ l.drop (v + 1) := by
  have h1 : (l.take v).length = v := by rw [List.length_take]; omega
  rw [List.take_append_of_le_length (by omega), List.take_of_length_le (l := l.take v) (by omega), List.take_of_length_le (l := l.drop (v + 1)) (by rw [List.length_drop]; omega), List.drop_of_length_le (l := l.take v ++ R.drop v) (by rw [List.length_append, h1, List.length_drop]; omega), List.append_nil]
theorem cutM (gs : List Ag) (val : Int) : (cutG gs val).map cAg = (gs.map cAg).take val.toNat ++ (gs.map cAg).drop (val.toNat + 1) := by
  unfold cutG
  rw [List.map_append, List.map_take, List.map_drop]
theorem cut_app {gs : List Ag} {val : Int} (hv : 0 ≤ val ∧ val ≤ (gs.length : Int) - 1) : (gs.map cAg).take val.toNat ++ (gs.map cAg).drop (val + 1).toNat = (cutG gs val).map cAg := by rw [cutM, show (val + 1).toNat = val.toNat + 1 by omega]
section
variable {gs : List Ag} {val : Int} {z : List Value}
theorem cut_1 (hv0 : 0 < val.toNat ∧ val.toNat < gs.length - 1) (hv : 0 ≤ val ∧ val ≤ (gs.length : Int) - 1) :
    ((List.replicate (gs.length - 1) z).take 0 ++ ((gs.map cAg).take val.toNat).take val.toNat ++ (List.replicate (gs.length - 1) z).drop (0 + val.toNat)).take val.toNat ++ ((gs.map cAg).drop (val + 1).toNat).take (gs.length - 1 - val.toNat) ++ ((List.replicate (gs.length - 1) z).take 0 ++ ((gs.map cAg).take val.toNat).take val.toNat ++ (List.replicate (gs.length - 1) z).drop (0 + val.toNat)).drop (val.toNat + (gs.length - 1 - val.toNat)) = (cutG gs val).map cAg := by
  rw [cutA, show (val + 1).toNat = val.toNat + 1 by omega, cutB (List.length_map _) List.length_replicate (by omega) (by omega), cutM]
theorem cut_0 (hv0 : val.toNat = 0) (hv : 0 ≤ val ∧ val ≤ (gs.length : Int) - 1) :
    (List.replicate (gs.length - 1) z).take val.toNat ++ ((gs.map cAg).drop (val + 1).toNat).take (gs.length - 1 - val.toNat) ++ (List.replicate (gs.length - 1) z).drop (val.toNat + (gs.length - 1 - val.toNat)) = (cutG gs val).map cAg := by
  rw [cutM, show (val + 1).toNat = val.toNat + 1 by omega, hv0, List.take_zero, List.take_zero, List.nil_append, List.nil_append, List.take_of_length_le (by rw [List.length_drop, List.length_map]; omega), List.drop_of_length_le (l := List.replicate (gs.length - 1) z) (by rw [List.length_replicate]; omega), List.append_nil]
theorem cut_2 (hv0 : 0 < val.toNat ∧ val.toNat = gs.length - 1) (_hv : 0 ≤ val ∧ val ≤ (gs.length : Int) - 1) :
    (List.replicate (gs.length - 1) z).take 0 ++ ((gs.map cAg).take val.toNat).take val.toNat ++ (List.replicate (gs.length - 1) z).drop (0 + val.toNat) = (cutG gs val).map cAg := by
  rw [cutA, cutM, List.drop_of_length_le (by rw [List.length_replicate]; omega), List.drop_of_length_le (by rw [List.length_map]; omega)]
end
def isRg (v u w : Value) (x X : Asc) (e : Int) (y : Value) (rs : List Res) : Prop := isRf v u w x X e y rs ∧ ∀ r ∈ rs, r.own = true
theorem isRg_sinks {v u w : Value} {x X : Asc} {e : Int} : ∀ y rs, isRg v u w x X e y rs → ∀ r ∈ rs, Sinks r := fun y rs h => isRf_sinks y rs h.1
theorem sinks_app {a b : List Res} (ha : ∀ r ∈ a, Sinks r) (hb : ∀ r ∈ b, Sinks r) : ∀ r ∈ a ++ b, Sinks r := fun r hr => (List.mem_append.1 hr).elim (ha r) (hb r)
theorem own_app {a b : List Res} (ha : ∀ r ∈ a, r.own = true) (hb : ∀ r ∈ b, r.own = true) : ∀ r ∈ a ++ b, r.own = true := fun r hr => (List.mem_append.1 hr).elim (ha r) (hb r)
theorem sinks3 {a b c : Value} {ea eb ec na nb nc : Nat} {k l m : List (List Value)} : ∀ r ∈ [sl a ea na k, sl b eb nb l, sl c ec nc m], Sinks r := fun r hr => by
  simp only [List.mem_cons, List.not_mem_nil, or_false] at hr
  rcases hr with rfl | rfl | rfl <;> exact sl_sinks _ _ _ _
def chE (x : Asc) (kd v : Int) : Int := if ckAsc x ≠ 0 then ckAsc x else chgE x kd v
def chA (x : Asc) (kd v : Int) : Asc := if ckAsc x ≠ 0 then zAsc else chgA x kd v
theorem ch_1 {x : Asc} {kd v : Int} (h : ckAsc x ≠ 0) : chE x kd v = ckAsc x ∧ chA x kd v = zAsc := ⟨if_pos h, if_pos h⟩
theorem ch_2 {x : Asc} {kd v : Int} (h : ckAsc x = 0) (h2 : chgE x kd v ≠ 0) : chE x kd v = chgE x kd v ∧ chA x kd v = zAsc := ⟨if_neg (fun hh => hh h), (if_neg (fun hh => hh h)).trans (if_pos h2)⟩
theorem ch_3 {x : Asc} {kd v : Int} (h : ckAsc x = 0) (h2 : ¬ chgE x kd v ≠ 0) : chE x kd v = 0 ∧ chA x kd v = chgX x kd v := ⟨(if_neg (fun hh => hh h)).trans (Decidable.not_not.1 h2), (if_neg (fun hh => hh h)).trans ((if_neg h2).trans (chgX_ok (Decidable.not_not.1 h2)).symm)⟩
class RmL (rs : List Res) (s : List Res) (rs1 : outParam (List Res)) : Prop where
  out : (s ++ rs1).Perm rs
instance rmL0 {s t : List Res} : RmL (s ++ t) s t := ⟨List.Perm.refl _⟩
instance (priority := low) rmL1 {r : Res} {rs s rs1 : List Res} [h : RmL rs s rs1] : RmL (r :: rs) s (r :: rs1) := ⟨List.perm_middle.trans (h.out.cons r)⟩
instance (priority := low) rmLA {r : Res} {a t s rs1 : List Res} [h : RmL (r :: (a ++ t)) s rs1] : RmL ((r :: a) ++ t) s rs1 := ⟨h.out⟩
theorem pk_lst {rs rs1 s t : List Res} [h : RmL rs s rs1] (hp : Pk rs1 t) : Pk rs (s ++ t) := by
  obtain ⟨d, hd⟩ := hp
  exact ⟨d, by rw [List.append_assoc]; exact (hd.append_left s).trans h.out⟩
/-! ### Variants -/
def varV (x : Asc) (e : Int) : Int := if e ≠ 0 then -1 else varA x
theorem varC_eq (x : Asc) (q : Int × Int) : varV (chgX x q.1 q.2) (chgE x q.1 q.2) = varC x q := by
  unfold varV varC
  by_cases h : chgE x q.1 q.2 ≠ 0
  · rw [if_pos h, if_pos h]
  · rw [if_neg h, if_neg h, chgX_ok (Decidable.not_not.1 h)]
def vrE (x : Asc) (cs : List (Int × Int)) : Int := if ckAsc x ≠ 0 then ckAsc x else if cs.length > 8 then 8 else 0
def vrL (x : Asc) (cs : List (Int × Int)) : List Int := if vrE x cs ≠ 0 then [] else varA x :: cs.map (varC x)
theorem vr_1 {x : Asc} {cs : List (Int × Int)} (h : ckAsc x ≠ 0) : vrE x cs = ckAsc x ∧ vrL x cs = [] := by
  have e : vrE x cs = ckAsc x := if_pos h
  exact ⟨e, if_pos (by rw [e]; exact h)⟩
theorem vr_2 {x : Asc} {cs : List (Int × Int)} (h : ckAsc x = 0) (h2 : cs.length > 8) : vrE x cs = 8 ∧ vrL x cs = [] := by
  have e : vrE x cs = 8 := by unfold vrE; rw [if_neg (fun hh => hh h), if_pos h2]
  exact ⟨e, if_pos (by rw [e]; decide)⟩
theorem vr_3 {x : Asc} {cs : List (Int × Int)} (h : ckAsc x = 0) (h2 : ¬ cs.length > 8) : vrE x cs = 0 ∧ vrL x cs = varA x :: cs.map (varC x) := by
  have e : vrE x cs = 0 := by unfold vrE; rw [if_neg (fun hh => hh h), if_neg h2]
  exact ⟨e, if_neg (fun hh => hh e)⟩
theorem var_next {x : Asc} {cs : List (Int × Int)} {k : Nat} {q : Int × Int} (h : cs[k]? = some q) : (varA x :: (cs.take k).map (varC x)) ++ [varV (chgX x q.1 q.2) (chgE x q.1 q.2)] = varA x :: (cs.take (k + 1)).map (varC x) := by
  rw [varC_eq, List.take_add_one, h, List.cons_append, List.map_append]
  rfl
/-! ### The law -/
theorem ch_E {x : Asc} {kd v : Int} (h : ckAsc x = 0) : chE x kd v = chgE x kd v ∧ chA x kd v = chgA x kd v := ⟨if_neg (fun hh => hh h), if_neg (fun hh => hh h)⟩
theorem chA_len {x : Asc} (H : okAsc x) (kd v : Int) : (chgA x kd v).ts.length ≤ 100000 ∧ (chgA x kd v).ls.length ≤ 100000 ∧ (chgA x kd v).gs.length ≤ 100000 := by
  unfold chgA
  by_cases h : chgE x kd v ≠ 0
  · rw [if_pos h]; exact z_len
  · rw [if_neg h]
    have h1 := chg_ok H (Decidable.not_not.1 h)
    have h2 := h1.k.b; have h3 := h1.k.len; have h4 := h1.g8
    omega
end Go.Proofs.YtacndicgpkeobaaGreatDoor
namespace Go.Proofs.YtacndicgpkeobaaGreatDoor
open Go.RowKit

set_option maxRecDepth 100000 in
theorem ct_shotlineref04_variant (v u z : Value) (x : Asc) (H : okAsc x) : Ct Tryz.prog 64 [.agg (cAt v u z x).toArray] [(v, 4, x.ts.map cCp), (u, 4, x.ls.map cLd), (z, 3, x.gs.map cAg)] (isV (.int .i64 (varA x))) := by
 refine Ct.of (N := 14) Tryz.func64 rfl rfl rfl fun w => ?_
 refine C_weak (E' := [(0, .agg (cAt v u z x).toArray)]) (rs' := [rd v 4 (x.ts.map cCp), rd u 4 (x.ls.map cLd), rd z 3 (x.gs.map cAg)]) ⟨rfl, trivial⟩ (fun _ h => h) ?_
 have hl1 := len_map cCp x.ts
 have hl2 := len_map cLd x.ls
 have hl3 := len_map cAg x.gs
 have hgl := gen_len H
 refine C_seq ?_
 refine C_region ?_
 refine L_box rfl rfl rfl fun g1 => ?_
 refine Jq (q_assign rfl) ?_
 refine L_then ?_
 refine C_seq ?_
 refine C_region ?_
 refine Jq (q_loadA tb rfl rfl bxo rfl rfl) ?_
 refine L_lo rfl rfl rfl (lo_call tb rfl rfl (ct_shotlineref04_Generate v u z x H) (ps_cons gvo (ps_cons gvo (ps_cons gvo no_ps))) isSc_sinks) ?_
 rintro _ _ ⟨A7, n7, c7, B7, m7, d7, rfl, rfl⟩
 refine Jq (q_move rfl) ?_
 refine Jq (q_ext0 rfl) ?_
 refine Jq (q_ext1 rfl) ?_
 refine L_alloc tb rfl rfl fun g3 => ?_
 refine L_st tb rfl rfl ?_
 refine Jq (q_assign rfl) ?_
 refine L_then ?_
 refine C_seq ?_
 refine C_seq ?_
 refine C_region ?_
 refine Jq (q_move rfl) ?_
 refine Jq (q_neq rfl rfl) ?_
 refine L_then ?_
 refine C_dec rfl (fun h1 => ?_) (fun h1 => ?_)
 refine C_seq ?_
 refine C_region ?_
 refine Jq (q_assign rfl) ?_
 refine L_then ?_
 refine C_ret ?_
 exact ret_of (res1 rfl rfl) sub_nil (by intro r hr; cases hr) ⟨(congrArg (Value.int .i64) (by exact (if_pos h1).symm)), rfl⟩
 have hgS := (gen_chk H (Decidable.not_not.1 h1)).1
 refine C_skip_then ?_
 refine C_seq ?_
 refine C_region ?_
 refine Jq (q_loadA tb rfl rfl bxo rfl rfl) ?_
 refine L_call tb rfl rfl (ct_shotlineref04_SecondsOf _ _ (genA x).1.1 (sch_sec hgS) (by omega)) (ps_cons gvo no_ps) rfl ?_
 refine Jq (q_assign rfl) ?_
 refine L_then ?_
 refine C_ret ?_
 exact ret_of (res1 rfl rfl) sub_nil (by intro r hr; cases hr) ⟨(congrArg (Value.int .i64) (by exact (if_neg h1).symm)), rfl⟩
end Go.Proofs.YtacndicgpkeobaaGreatDoor
