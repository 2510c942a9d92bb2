/-
  Rests as legs; loads that lie in others stay so behind a leg. Conditions: none; no program in sight.
-/
import Derived.Test.YtfhfadfnbnliiaaTraj2
namespace Go.Proofs.Ytfhfadfnbnliiaa

/-! ### A rest as a leg -/
theorem prs_flat {x : Lg} (hs : x.s > 0) (h : x.f = x.t) (t : Int) : prs x t = (x.f : Rat) := by
  have hp : (0 : Rat) < (x.s : Rat) := Rat.intCast_pos.2 hs
  have h1 := prs_mul hs t
  have h2 : sumM x t = x.f * x.s := by rw [← sum_alt, h]; grind
  rw [h2, Rat.intCast_mul] at h1
  have h3 := Rat.le_of_mul_le_mul_right (a := prs x t) (b := (x.f : Rat)) (by rw [h1]; exact Rat.le_refl) hp
  have h4 := Rat.le_of_mul_le_mul_right (a := (x.f : Rat)) (b := prs x t) (by rw [h1]; exact Rat.le_refl) hp
  exact Rat.le_antisymm h3 h4
theorem rle_of_eq {a b : Rat} (h : a = b) : a ≤ b := h ▸ Rat.le_refl
theorem rest_comp {f n m : Nat} {x : Lg} {part half : Int} {l : Rg} (hO : onLeg x n part half) (hs : x.s > 0) (hf : x.f = x.t) (hl : inX l) (ho : l.lo ≤ l.hi) :
    (nearM l (part * (x.f - 63)) (part * (x.f - 63)) (decM x.s half m)).lo ≤ (seqR f x n part half l n).hi ∧ (seqR f x n part half l n).lo ≤ (nearM l (part * (x.f - 63)) (part * (x.f - 63)) (decM x.s half m)).hi := by
  obtain ⟨h, rfl⟩ := Int.eq_ofNat_of_zero_le (show 0 ≤ half by have := hO.h; omega)
  obtain ⟨s, hsn⟩ := Int.eq_ofNat_of_zero_le (show 0 ≤ x.s by omega)
  have hh : 1 ≤ h := by have := hO.h; omega
  obtain ⟨r, η, H, hη⟩ := rt_ex h hh 800000000000000 (by decide)
  have hq : goes (fun t => (part : Rat) * (prs x t - 63)) 0 x part := fun t _ => by simp
  have e : traj (fun t => (part : Rat) * (prs x t - 63)) r (l.lo : Rat) 0 = (l.lo : Rat) := rfl
  have p1 : (l.lo : Rat) ≤ traj (fun t => (part : Rat) * (prs x t - 63)) r (l.lo : Rat) 0 + 0 := by rw [e]; grind
  have p2 : traj (fun t => (part : Rat) * (prs x t - 63)) r (l.lo : Rat) 0 ≤ (l.hi : Rat) + 0 := by rw [e]; have := cle ho; grind
  obtain ⟨a, b⟩ := leg_enc (f := f) (ε := 0) H hO hs hl (Rat.le_refl) hq p1 p2 n (Nat.le_refl _)
  rw [mk_end hO.n.1] at a b
  have hsm := small_ex H.e0 hη (show x.s ≤ 1000000 by have := hO.x.s; omega)
  have hen := decM_enc (s := s) (h := h) m hh
  have hxf := hO.x.f
  unfold okPr at hxf
  have hqq : ∀ t : Nat, (fun t : Nat => (part : Rat) * (prs x t - 63)) t = ((part * (x.f - 63) : Int) : Rat) := fun t => by
    show (part : Rat) * (prs x t - 63) = _
    rw [prs_flat hs hf, Rat.intCast_mul, cst]
    rfl
  have c := near_lo (b := part * (x.f - 63)) (t0 := 0) (s := s) H hh hen (decM_in _ _ _) hl (breath_in hO.p (p := x.f) (by omega)) (Rat.le_refl) (fun t _ _ => rle_of_eq (hqq t).symm) p1
  have d := near_hi (a := part * (x.f - 63)) (t0 := 0) (s := s) H hh hen (decM_in _ _ _) hl (breath_in hO.p (p := x.f) (by omega)) (Rat.le_refl) (fun t _ _ => rle_of_eq (hqq t)) p2
  rw [hsn] at a b hsm ⊢
  simp only [Int.toNat_natCast] at a b
  unfold ex at a b hsm
  have hc : (((s : Nat) : Int) : Rat) = (s : Rat) := Rat.intCast_natCast s
  rw [hc] at a b hsm
  exact ⟨int_le c b (by grind), int_le a d (by grind)⟩
theorem rest_zero {m : Nat} {part half p : Int} {l : Rg} (hp : 0 ≤ part ∧ part ≤ 1000) (hh : 1 ≤ half) (h2 : 400 ≤ p ∧ p ≤ 1100) (hl : inX l) (ho : l.lo ≤ l.hi) :
    (nearM l (part * (p - 63)) (part * (p - 63)) (decM 0 half m)).lo ≤ l.hi ∧ l.lo ≤ (nearM l (part * (p - 63)) (part * (p - 63)) (decM 0 half m)).hi := by
  obtain ⟨h, rfl⟩ := Int.eq_ofNat_of_zero_le (show 0 ≤ half by omega)
  obtain ⟨r, η, H, hη⟩ := rt_ex h (by omega) 800000000000000 (by decide)
  have hen := decM_enc (s := 0) (h := h) m (by omega)
  have e : traj (fun _ => 0) r (l.lo : Rat) 0 = (l.lo : Rat) := rfl
  have c := near_lo (b := part * (p - 63)) (q := fun _ => 0) (x0 := (l.lo : Rat)) (t0 := 0) (s := 0) H (by omega) hen (decM_in _ _ _) hl (breath_in hp (p := p) (by omega)) (Rat.le_refl) (fun t _ _ => by omega) (by rw [e]; grind)
  have d := near_hi (a := part * (p - 63)) (q := fun _ => 0) (x0 := (l.lo : Rat)) (t0 := 0) (s := 0) H (by omega) hen (decM_in _ _ _) hl (breath_in hp (p := p) (by omega)) (Rat.le_refl) (fun t _ _ => by omega) (by rw [e]; have := cle ho; grind)
  have h0 : ((0 : Nat) : Rat) = 0 := rfl
  rw [h0] at c d
  have e2 : traj (fun _ => 0) r (l.lo : Rat) (0 + 0) = (l.lo : Rat) := rfl
  rw [e2] at c d
  have ho' := cle ho
  exact ⟨int_le (x := (l.lo : Rat)) (ε := 0) (by grind) (by grind) (by grind), int_le (x := (l.lo : Rat)) (ε := 0) (by grind) (by grind) (by grind)⟩
theorem rest_get {ts : List Cp} {ls : List Ld} {p s : Int} {i : Nat} {y : Ld} (hlen : ls.length = ts.length) (hy : (restM ts ls p s)[i]? = some y) : ∃ c z, ts[i]? = some c ∧ ls[i]? = some z ∧ y = stepL 20 s p p ⟨210, 0⟩ c z := by
  have hi := (List.getElem?_eq_some_iff.1 hy).1
  unfold restM at hi hy
  rw [stepM_len hlen] at hi
  obtain ⟨c, hc⟩ := get_some ts hi
  obtain ⟨z, hz⟩ := get_some ls (show i < ls.length by omega)
  refine ⟨c, z, hc, hz, ?_⟩
  unfold stepM at hy
  rw [List.getElem?_zipWith, hc, hz] at hy
  injection hy with hy
  exact hy.symm
theorem rest_meet {ts : List Cp} {ls : List Ld} {p s : Int} {f : Nat} (h : okTL ts ls) (hp : 400 ≤ p ∧ p ≤ 1100) (hs : 0 ≤ s ∧ s ≤ 100000) (hf : f ≤ 6) : meetP (restM ts ls p s) (loadedM ts ls ⟨p, p, s, ⟨210, 0⟩⟩ f) := by
  refine all2_get fun i y z hy hz => ?_
  obtain ⟨c, w, hc, hw, rfl⟩ := rest_get h.len hy
  have hck := h.c c (List.mem_of_getElem? hc)
  have hwi := h.x w (List.mem_of_getElem? hw)
  have hwo := h.o w (List.mem_of_getElem? hw)
  by_cases h0 : s = 0
  · rw [loadedM_zero h0, hw] at hz
    injection hz with hz
    subst hz
    subst h0
    have a := rest_zero (m := 20) (part := 790) (p := p) (by omega) hck.1 hp hwi.1 hwo.1
    have b := rest_zero (m := 20) (part := 0) (p := p) (by omega) hck.2.2.1 hp hwi.2 hwo.2
    exact ⟨a.1, a.2, b.1, b.2⟩
  · have hx : okLg ⟨p, p, s, ⟨210, 0⟩⟩ := ⟨by unfold okPr; dsimp only; omega, by unfold okPr; dsimp only; omega, hs, ⟨by dsimp only; omega, by dsimp only; omega, by dsimp only; omega⟩⟩
    have hs' : (⟨p, p, s, ⟨210, 0⟩⟩ : Lg).s > 0 := by dsimp only; omega
    have n1 := two_f hf rfl
    rw [loadedM_pos h0 rfl] at hz
    obtain ⟨c', w', hc', hw', rfl⟩ := get_both h.len hz
    rw [hc] at hc'
    rw [hw] at hw'
    injection hc' with hc'
    injection hw' with hw'
    subst hc'; subst hw'
    have a := rest_comp (f := f) (m := 20) (onLeg_n hx n1 hck) hs' rfl hwi.1 hwo.1
    have b := rest_comp (f := f) (m := 20) (onLeg_h hx n1 hck) hs' rfl hwi.2 hwo.2
    exact ⟨a.1, a.2, b.1, b.2⟩

/-! ### Loads that lie in others -/
theorem ediv_mono {a b : Int} (h : a ≤ b) : a / 1000000000 ≤ b / 1000000000 := by omega
theorem up_mono {a b : Int} (h : a ≤ b) : upZ a 1000000000 ≤ upZ b 1000000000 := by unfold upZ; omega
theorem near_sub {l l' d : Rg} {a b : Int} (hd : inD d) (h1 : l'.lo ≤ l.lo) (h2 : l.hi ≤ l'.hi) : (nearM l' a b d).lo ≤ (nearM l a b d).lo ∧ (nearM l a b d).hi ≤ (nearM l' a b d).hi := by
  obtain ⟨d1, d2, d3, d4⟩ := hd
  unfold nearM
  dsimp only
  constructor
  · by_cases hc : l'.lo ≥ a
    · rw [if_pos hc, if_pos (by omega)]
      have := ediv_mono (Int.mul_le_mul_of_nonneg_right (show l'.lo - a ≤ l.lo - a by omega) d1)
      omega
    · rw [if_neg hc]
      have p1 : 0 ≤ (a - l'.lo) * d.hi := Int.mul_nonneg (by omega) d3
      by_cases he : l.lo ≥ a
      · rw [if_pos he]
        have p2 : 0 ≤ (l.lo - a) * d.lo := Int.mul_nonneg (by omega) d1
        unfold upZ
        omega
      · rw [if_neg he]
        have := up_mono (Int.mul_le_mul_of_nonneg_right (show a - l.lo ≤ a - l'.lo by omega) d3)
        omega
  · by_cases hc : l.hi ≥ b
    · rw [if_pos hc, if_pos (by omega)]
      have := up_mono (Int.mul_le_mul_of_nonneg_right (show l.hi - b ≤ l'.hi - b by omega) d3)
      omega
    · rw [if_neg hc]
      have p1 : 0 ≤ (b - l.hi) * d.lo := Int.mul_nonneg (by omega) d1
      by_cases he : l'.hi ≥ b
      · rw [if_pos he]
        have p2 : 0 ≤ (l'.hi - b) * d.hi := Int.mul_nonneg (by omega) d3
        unfold upZ
        omega
      · rw [if_neg he]
        have := ediv_mono (Int.mul_le_mul_of_nonneg_right (show b - l'.hi ≤ b - l.hi by omega) d1)
        omega
theorem seqR_sub {f : Nat} {x : Lg} {n : Nat} {part half : Int} {l l' : Rg} (h1 : l'.lo ≤ l.lo) (h2 : l.hi ≤ l'.hi) : ∀ k, (seqR f x n part half l' k).lo ≤ (seqR f x n part half l k).lo ∧ (seqR f x n part half l k).hi ≤ (seqR f x n part half l' k).hi
  | 0 => ⟨h1, h2⟩
  | k + 1 => by
    obtain ⟨a, b⟩ := seqR_sub (f := f) (x := x) (n := n) (part := part) (half := half) h1 h2 k
    exact near_sub (decM_in _ _ _) a b
theorem loaded_sub {ts : List Cp} {ls os : List Ld} {x : Lg} {f : Nat} (h : okTL ts ls) (hlen : os.length = ts.length) (hi : insP os ls) : insP (loadedM ts os x f) (loadedM ts ls x f) := by
  by_cases h0 : x.s = 0
  · rw [loadedM_zero h0, loadedM_zero h0]; exact hi
  · refine all2_get fun i y z hy hz => ?_
    rw [loadedM_pos h0 rfl] at hy hz
    obtain ⟨c, o, hc, ho, rfl⟩ := get_both hlen hy
    obtain ⟨c', w, hc', hw, rfl⟩ := get_both h.len hz
    rw [hc] at hc'
    injection hc' with hc'
    subst hc'
    have hin := all2_at hi i o w ho hw
    exact ⟨seqR_sub hin.1.1 hin.1.2 _, seqR_sub hin.2.1 hin.2.2 _⟩
/-- single numbers in loads -/
def oneLoad (o : Ld) : Prop := o.n.lo = o.n.hi ∧ o.h.lo = o.h.hi
theorem loaded_own {ts : List Cp} {ls os : List Ld} {x : Lg} {f g : Nat} (h : okTL ts ls) (hx : okLg x) (hf : f ≤ 6) (hg : g ≤ 6) (hlen : os.length = ts.length) (hi : insP os ls) (hone : ∀ o ∈ os, oneLoad o) (hin : ∀ o ∈ os, inLd o) : meetP (loadedM ts os x f) (loadedM ts ls x g) := by
  refine all2_get fun i y z hy hz => ?_
  by_cases h0 : x.s = 0
  · rw [loadedM_zero h0] at hy hz
    have hi' := all2_at hi i y z hy hz
    have h1 := hone y (List.mem_of_getElem? hy)
    unfold in1 at hi'
    unfold oneLoad at h1
    unfold mt1
    omega
  · have hs : x.s > 0 := by have := hx.s; omega
    have n1 := two_f hf rfl
    have n2 := two_f hg rfl
    rw [loadedM_pos h0 rfl] at hy hz
    obtain ⟨c, o, hc, ho, rfl⟩ := get_both hlen hy
    obtain ⟨c', w, hc', hw, rfl⟩ := get_both h.len hz
    rw [hc] at hc'
    injection hc' with hc'
    subst hc'
    have hck := h.c c (List.mem_of_getElem? hc)
    have hwi := h.x w (List.mem_of_getElem? hw)
    have hwo := h.o w (List.mem_of_getElem? hw)
    have hoi := hin o (List.mem_of_getElem? ho)
    have h1 := hone o (List.mem_of_getElem? ho)
    have hi' := all2_at hi i o w ho hw
    unfold in1 at hi'
    unfold oneLoad at h1
    exact ⟨leg_meet2 (onLeg_n hx n1 hck) (onLeg_n hx n2 hck) hs hoi.1 hwi.1 o.n.lo (by omega) (by omega) (by omega) (by omega), leg_meet2 (onLeg_n hx n2 hck) (onLeg_n hx n1 hck) hs hwi.1 hoi.1 o.n.lo (by omega) (by omega) (by omega) (by omega),
      leg_meet2 (onLeg_h hx n1 hck) (onLeg_h hx n2 hck) hs hoi.2 hwi.2 o.h.lo (by omega) (by omega) (by omega) (by omega), leg_meet2 (onLeg_h hx n2 hck) (onLeg_h hx n1 hck) hs hwi.2 hoi.2 o.h.lo (by omega) (by omega) (by omega) (by omega)⟩
end Go.Proofs.Ytfhfadfnbnliiaa
