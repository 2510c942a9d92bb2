/-
  A leg's enclosures hold the way that the loads really take, whatever the fineness: so two of them meet. Conditions: none; no program in sight.
-/
import Derived.Test.YtfhfadfnbnliiaaTraj
namespace Go.Proofs.Ytfhfadfnbnliiaa

/-! ### Pressures of a leg -/
def prs (x : Lg) (t : Int) : Rat := (sumM x t : Rat) / (x.s : Rat)
theorem prs_mul {x : Lg} (h : x.s > 0) (t : Int) : prs x t * (x.s : Rat) = (sumM x t : Rat) := Rat.div_mul_cancel (Rat.ne_of_lt (Rat.intCast_pos.2 h)).symm
theorem sum_mono {x : Lg} (h : x.f ≤ x.t) {a b : Int} (hab : a ≤ b) : sumM x a ≤ sumM x b := by
  rw [← sum_alt, ← sum_alt]
  have := Int.mul_le_mul_of_nonneg_left hab (show 0 ≤ x.t - x.f by omega)
  omega
theorem sum_anti {x : Lg} (h : x.t ≤ x.f) {a b : Int} (hab : a ≤ b) : sumM x b ≤ sumM x a := by
  rw [← sum_alt, ← sum_alt]
  have h1 := Int.mul_le_mul_of_nonneg_left hab (show 0 ≤ x.f - x.t by omega)
  have h2 : (x.t - x.f) * b = -((x.f - x.t) * b) := by grind
  have h3 : (x.t - x.f) * a = -((x.f - x.t) * a) := by grind
  omega
theorem prs_le {x : Lg} (h : x.s > 0) {t : Int} {m : Int} (hm : sumM x t ≤ m) : prs x t ≤ ((upZ m x.s : Int) : Rat) := by
  have hp : (0 : Rat) < (x.s : Rat) := Rat.intCast_pos.2 h
  refine Rat.le_of_mul_le_mul_right (c := (x.s : Rat)) ?_ hp
  rw [prs_mul h]
  exact Rat.le_trans (cle hm) (quo_up h)
theorem le_prs {x : Lg} (h : x.s > 0) {t : Int} {m : Int} (hm : m ≤ sumM x t) : ((m / x.s : Int) : Rat) ≤ prs x t := by
  have hp : (0 : Rat) < (x.s : Rat) := Rat.intCast_pos.2 h
  refine Rat.le_of_mul_le_mul_right (c := (x.s : Rat)) ?_ hp
  rw [prs_mul h]
  exact Rat.le_trans (quo_down h) (cle hm)
/-- the least and the greatest pressure of the step behind a mark -/
def stLo (x : Lg) (n k : Nat) : Int := min (mkM x n k).p.lo (mkM x n ((k : Int) + 1)).p.lo
def stHi (x : Lg) (n k : Nat) : Int := max (mkM x n k).p.hi (mkM x n ((k : Int) + 1)).p.hi
theorem mk_pos {x : Lg} (h : x.s > 0) (n j : Int) : (mkM x n j).p = ⟨sumM x (mkM x n j).s / x.s, upZ (sumM x (mkM x n j).s) x.s⟩ := by
  unfold mkM
  dsimp only
  rw [if_pos h]
theorem prs_in {x : Lg} (h : x.s > 0) {n k : Nat} {t : Int} (h1 : (mkM x n k).s ≤ t) (h2 : t ≤ (mkM x n ((k : Int) + 1)).s) : (stLo x n k : Rat) ≤ prs x t ∧ prs x t ≤ (stHi x n k : Rat) := by
  unfold stLo stHi
  rw [mk_pos h, mk_pos h]
  dsimp only
  by_cases hd : x.f ≤ x.t
  · have a1 := le_prs h (sum_mono hd h1)
    have a2 := prs_le h (sum_mono hd h2)
    exact ⟨Rat.le_trans (cle (Int.min_le_left _ _)) a1, Rat.le_trans a2 (cle (Int.le_max_right _ _))⟩
  · have a1 := le_prs h (sum_anti (show x.t ≤ x.f by omega) h2)
    have a2 := prs_le h (sum_anti (show x.t ≤ x.f by omega) h1)
    exact ⟨Rat.le_trans (cle (Int.min_le_right _ _)) a1, Rat.le_trans a2 (cle (Int.le_max_left _ _))⟩

/-! ### One part of one compartment -/
def seqR (f : Nat) (x : Lg) (n : Nat) (part half : Int) (l : Rg) : Nat → Rg
  | 0 => l
  | k + 1 => nearM (seqR f x n part half l k) (part * (stLo x n k - 63)) (part * (stHi x n k - 63)) (decM ((mkM x n ((k : Int) + 1)).s - (mkM x n k).s) half (8 + 2 * f))
theorem stM_get {f : Nat} {ts : List Cp} {ls : List Ld} {x : Lg} {n i : Nat} {c : Cp} {z : Ld} (hc : ts[i]? = some c) (hz : ls[i]? = some z) : ∀ k, (stM f ts ls x n k)[i]? = some ⟨seqR f x n (1000 - x.g.o - x.g.h) c.n z.n k, seqR f x n x.g.h c.h z.h k⟩
  | 0 => hz
  | k + 1 => by
    have ih := stM_get (f := f) (x := x) (n := n) hc hz k
    unfold stM stepM
    rw [List.getElem?_zipWith, hc, ih]
    rfl
/-- What a leg is on: fine, n marks. -/
structure onLeg (x : Lg) (n : Nat) (part half : Int) : Prop where
  x : okLg x
  n : 1 ≤ n ∧ n ≤ 64
  p : 0 ≤ part ∧ part ≤ 1000
  h : 1 ≤ half ∧ half ≤ 100000
theorem st_in {x : Lg} {n k : Nat} (hx : okLg x) (hn : 1 ≤ n ∧ n ≤ 64) (hk : k < n) : 400 ≤ stLo x n k ∧ stLo x n k ≤ stHi x n k ∧ stHi x n k ≤ 31100 := by
  have h1 := mk_in (j := (k : Int)) hx (n := (n : Int)) (by omega) (by omega)
  have h2 := mk_in (j := (k : Int) + 1) hx (n := (n : Int)) (by omega) (by omega)
  unfold stLo stHi
  omega
theorem seqR_in {f : Nat} {x : Lg} {n : Nat} {part half : Int} {l : Rg} (H : onLeg x n part half) (hl : inX l) : ∀ k, k ≤ n → inX (seqR f x n part half l k)
  | 0, _ => hl
  | k + 1, hk => by
    have h1 := st_in (k := k) H.x H.n (by omega)
    exact near_in (seqR_in H hl k (by omega)) (breath_in H.p (by omega)) (breath_in H.p (by omega)) (decM_in _ _ _)
theorem mks_nat {x : Lg} {n k : Nat} (hx : okLg x) (hn : 1 ≤ n ∧ n ≤ 64) (hk : k < n) : ∃ a s : Nat, (mkM x n k).s = (a : Int) ∧ (mkM x n ((k : Int) + 1)).s = ((a + s : Nat) : Int) := by
  have h1 := mk_in (j := (k : Int)) hx (n := (n : Int)) (by omega) (by omega)
  have h2 := mk_mono hx hn.1 k
  exact ⟨(mkM x n k).s.toNat, ((mkM x n ((k : Int) + 1)).s - (mkM x n k).s).toNat, by omega, by omega⟩
section
variable {f n : Nat} {x : Lg} {part : Int} {h : Nat} {l : Rg} {r η : Rat} {q : Nat → Rat} {x0 ε : Rat} {t0 : Nat}
/-- the way goes with the leg from t0 on -/
def goes (q : Nat → Rat) (t0 : Nat) (x : Lg) (part : Int) : Prop := ∀ t : Nat, (t : Int) ≤ x.s → q (t0 + t) = (part : Rat) * (prs x t - 63)
theorem part_le {part : Int} (hp : 0 ≤ part) {a : Int} {b : Rat} (h : (a : Rat) ≤ b) : ((part * (a - 63) : Int) : Rat) ≤ (part : Rat) * (b - 63) := by
  rw [Rat.intCast_mul, cst]
  have : ((63 : Int) : Rat) = 63 := rfl
  exact Rat.mul_le_mul_of_nonneg_left (by grind) (c_nn hp)
theorem le_part {part : Int} (hp : 0 ≤ part) {a : Int} {b : Rat} (h : b ≤ (a : Rat)) : (part : Rat) * (b - 63) ≤ ((part * (a - 63) : Int) : Rat) := by
  rw [Rat.intCast_mul, cst]
  have : ((63 : Int) : Rat) = 63 := rfl
  exact Rat.mul_le_mul_of_nonneg_left (by grind) (c_nn hp)
def ex (ε η : Rat) (t : Int) : Rat := ε + MX * ((t : Rat) * η)
theorem ex_add {a s : Nat} (ε η : Rat) : ex ε η ((a + s : Nat) : Int) = ex ε η (a : Int) + MX * ((s : Rat) * η) := by
  unfold ex
  have h1 : (((a + s : Nat) : Int) : Rat) = (a : Rat) + (s : Rat) := by rw [Rat.intCast_natCast, Rat.natCast_add]
  have h2 : (((a : Nat) : Int) : Rat) = (a : Rat) := Rat.intCast_natCast a
  rw [h1, h2]
  grind
theorem ex_nn {ε η : Rat} (he : 0 ≤ ε) (h0 : 0 ≤ η) {t : Int} (ht : 0 ≤ t) : 0 ≤ ex ε η t := by
  have u : (0 : Rat) ≤ MX * ((t : Rat) * η) := Rat.mul_nonneg (by unfold MX; decide) (Rat.mul_nonneg (c_nn ht) h0)
  unfold ex
  grind
theorem ex_mono {ε η : Rat} (h0 : 0 ≤ η) {s t : Int} (h : s ≤ t) : ex ε η s ≤ ex ε η t := by
  have u : MX * ((s : Rat) * η) ≤ MX * ((t : Rat) * η) := Rat.mul_le_mul_of_nonneg_left (Rat.mul_le_mul_of_nonneg_right (cle h) h0) (by unfold MX; decide)
  unfold ex
  grind
theorem leg_enc (H : Rt h r η) (hO : onLeg x n part (h : Int)) (hs : x.s > 0) (hl : inX l) (he : 0 ≤ ε) (hq : goes q t0 x part) (h1 : (l.lo : Rat) ≤ traj q r x0 t0 + ε) (h2 : traj q r x0 t0 ≤ (l.hi : Rat) + ε) :
    ∀ k, k ≤ n → ((seqR f x n part h l k).lo : Rat) ≤ traj q r x0 (t0 + (mkM x n k).s.toNat) + ex ε η (mkM x n k).s ∧ traj q r x0 (t0 + (mkM x n k).s.toNat) ≤ ((seqR f x n part h l k).hi : Rat) + ex ε η (mkM x n k).s
  | 0, _ => by
    have e0 : (mkM x n (0 : Nat)).s = 0 := by unfold mkM; simp
    rw [e0]
    have : ex ε η 0 = ε := by unfold ex; have : ((0 : Int) : Rat) = 0 := rfl; grind
    rw [this]
    exact ⟨h1, h2⟩
  | k + 1, hk => by
    obtain ⟨i1, i2⟩ := leg_enc H hO hs hl he hq h1 h2 k (by omega)
    obtain ⟨a, s, ea, es⟩ := mks_nat (k := k) hO.x hO.n (by omega)
    have hst := st_in (k := k) hO.x hO.n (by omega)
    have hin := seqR_in (f := f) hO hl k (by omega)
    have ek : (mkM x n ((k + 1 : Nat) : Int)).s = ((a + s : Nat) : Int) := es
    have hle := mk_in (j := (k : Int) + 1) hO.x (n := (n : Int)) (by omega) (by have := hO.n; omega)
    have hd : (mkM x n ((k : Int) + 1)).s - (mkM x n k).s = (s : Int) := by omega
    rw [ek, ex_add]
    rw [ea] at i1 i2
    simp only [Int.toNat_natCast] at i1 i2 ⊢
    rw [← Nat.add_assoc]
    have hen := decM_enc (s := s) (h := h) (8 + 2 * f) (by have := hO.h; omega)
    have hqa : ∀ t, t0 + a ≤ t → t < t0 + a + s → ((part * (stLo x n k - 63) : Int) : Rat) ≤ q t ∧ q t ≤ ((part * (stHi x n k - 63) : Int) : Rat) := fun t ht hlt => by
      have h3 := prs_in hs (n := n) (k := k) (t := ((t - t0 : Nat) : Int)) (by omega) (by omega)
      have h4 := hq (t - t0) (by omega)
      rw [show t0 + (t - t0) = t by omega] at h4
      rw [h4]
      exact ⟨part_le hO.p.1 h3.1, le_part hO.p.1 h3.2⟩
    have hh : 1 ≤ h := by have := hO.h; omega
    have en := ex_nn he H.e0 (show (0 : Int) ≤ (a : Int) by omega)
    unfold seqR
    rw [hd]
    exact ⟨near_lo H hh hen (decM_in _ _ _) hin (breath_in hO.p (by omega)) en (fun t ht hlt => (hqa t ht hlt).1) i1, near_hi H hh hen (decM_in _ _ _) hin (breath_in hO.p (by omega)) en (fun t ht hlt => (hqa t ht hlt).2) i2⟩
/-- Between two marks. -/
theorem leg_mid (H : Rt h r η) (hO : onLeg x n part (h : Int)) (hs : x.s > 0) (hl : inX l) (he : 0 ≤ ε) (hq : goes q t0 x part) (h1 : (l.lo : Rat) ≤ traj q r x0 t0 + ε) (h2 : traj q r x0 t0 ≤ (l.hi : Rat) + ε)
    {k t : Nat} (hk : k < n) (ht1 : (mkM x n k).s ≤ (t : Int)) (ht2 : (t : Int) ≤ (mkM x n ((k : Int) + 1)).s) :
    traj q r x0 (t0 + t) ≤ ((max (seqR f x n part h l k).hi (seqR f x n part h l (k + 1)).hi : Int) : Rat) + ex ε η (mkM x n ((k : Int) + 1)).s := by
  obtain ⟨_, i2⟩ := leg_enc (f := f) H hO hs hl he hq h1 h2 k (by omega)
  obtain ⟨a, s, ea, es⟩ := mks_nat (k := k) hO.x hO.n hk
  have hst := st_in (k := k) hO.x hO.n hk
  have hin := seqR_in (f := f) hO hl k (by omega)
  have hle := mk_in (j := (k : Int) + 1) hO.x (n := (n : Int)) (by omega) (by have := hO.n; omega)
  have hd : (mkM x n ((k : Int) + 1)).s - (mkM x n k).s = (s : Int) := by omega
  rw [es, ex_add]
  rw [ea] at i2
  simp only [Int.toNat_natCast] at i2
  have hen := decM_enc (s := s) (h := h) (8 + 2 * f) (by have := hO.h; omega)
  have hqa : ∀ u, t0 + a ≤ u → u < t0 + a + s → q u ≤ ((part * (stHi x n k - 63) : Int) : Rat) := fun u hu hlt => by
    have h3 := prs_in hs (n := n) (k := k) (t := ((u - t0 : Nat) : Int)) (by omega) (by omega)
    have h4 := hq (u - t0) (by omega)
    rw [show t0 + (u - t0) = u by omega] at h4
    rw [h4]
    exact le_part hO.p.1 h3.2
  have hh : 1 ≤ h := by have := hO.h; omega
  have en := ex_nn he H.e0 (show (0 : Int) ≤ (a : Int) by omega)
  have key := near_mid (a := part * (stLo x n k - 63)) H hh hen (decM_in _ _ _) hin (breath_in hO.p (by omega)) en (j := t - a) (by omega) hqa i2
  rw [show t0 + a + (t - a) = t0 + t by omega] at key
  have e9 : seqR f x n part h l (k + 1) = nearM (seqR f x n part h l k) (part * (stLo x n k - 63)) (part * (stHi x n k - 63)) (decM (s : Int) h (8 + 2 * f)) := by
    conv => lhs; unfold seqR
    rw [hd]
  rw [e9]
  exact key
end

/-! ### What is less than one apart -/
/-- an end that is as fine as needed: some η that is 1 / (8 * 10^14) -/
theorem small_ex {η : Rat} (h0 : 0 ≤ η) (h : η * ((800000000000000 : Nat) : Rat) = 1) {t : Int} (ht : t ≤ 1000000) : ex 0 η t ≤ 1 / 8 := by
  unfold ex
  have h1 : (t : Rat) ≤ ((1000000 : Int) : Rat) := cle ht
  have h2 : ((1000000 : Int) : Rat) = 1000000 := rfl
  have h3 : ((800000000000000 : Nat) : Rat) = 800000000000000 := rfl
  rw [h2] at h1
  rw [h3] at h
  have h4 : (t : Rat) * η ≤ 1000000 * η := Rat.mul_le_mul_of_nonneg_right h1 h0
  have h5 : MX = 100000000 := rfl
  rw [h5]
  grind
theorem int_le {a b : Int} {x ε : Rat} (h1 : (a : Rat) ≤ x + ε) (h2 : x ≤ (b : Rat) + ε) (he : ε ≤ 1 / 4) : a ≤ b := by
  have h3 : (a : Rat) < (b : Rat) + 1 := by grind
  have h4 : ((b + 1 : Int) : Rat) = (b : Rat) + 1 := by rw [Rat.intCast_add]; rfl
  rw [← h4] at h3
  have := Rat.intCast_lt_intCast.1 h3
  omega
theorem c_add {a b : Int} : ((a + b : Int) : Rat) = (a : Rat) + (b : Rat) := Rat.intCast_add a b

/-! ### The enclosures of one leg meet -/
theorem mk_end {x : Lg} {n : Nat} (hn : 1 ≤ n) : (mkM x n n).s = x.s := by
  unfold mkM
  dsimp only
  exact sec_end (by omega)
theorem leg_meet2 {f g n m : Nat} {x : Lg} {part half : Int} {l l' : Rg} (hO : onLeg x n part half) (hP : onLeg x m part half) (hs : x.s > 0) (hl : inX l) (hl' : inX l') (z : Int) (h1 : l.lo ≤ z) (h2 : z ≤ l.hi) (h3 : l'.lo ≤ z) (h4 : z ≤ l'.hi) : (seqR f x n part half l n).lo ≤ (seqR g x m part half l' m).hi := by
  obtain ⟨h, rfl⟩ := Int.eq_ofNat_of_zero_le (show 0 ≤ half by have := hO.h; omega)
  obtain ⟨r, η, H, hη⟩ := rt_ex h (by have := hO.h; omega) 800000000000000 (by decide)
  have hq : goes (fun t => (part : Rat) * (prs x t - 63)) 0 x part := fun t _ => by simp
  have e : traj (fun t => (part : Rat) * (prs x t - 63)) r (z : Rat) 0 = (z : Rat) := rfl
  have a := (leg_enc (f := f) (ε := 0) H hO hs hl (Rat.le_refl) hq (x0 := (z : Rat)) (by rw [e]; have := cle h1; grind) (by rw [e]; have := cle h2; grind) n (Nat.le_refl _)).1
  have b := (leg_enc (f := g) (ε := 0) H hP hs hl' (Rat.le_refl) hq (x0 := (z : Rat)) (by rw [e]; have := cle h3; grind) (by rw [e]; have := cle h4; grind) m (Nat.le_refl _)).2
  rw [mk_end hO.n.1] at a
  rw [mk_end hP.n.1] at b
  exact int_le a b (by have := small_ex H.e0 hη (show x.s ≤ 1000000 by have := hO.x.s; omega); grind)
theorem leg_meet {f g n m : Nat} {x : Lg} {part half : Int} {l : Rg} (hO : onLeg x n part half) (hP : onLeg x m part half) (hs : x.s > 0) (hl : inX l) (ho : l.lo ≤ l.hi) : (seqR f x n part half l n).lo ≤ (seqR g x m part half l m).hi := leg_meet2 hO hP hs hl hl l.lo (Int.le_refl _) ho (Int.le_refl _) ho
theorem onLeg_n {x : Lg} {n : Nat} {c : Cp} (hx : okLg x) (hn : 1 ≤ n ∧ n ≤ 64) (hc : okCp c) : onLeg x n (1000 - x.g.o - x.g.h) c.n := ⟨hx, hn, by have := hx.g.a; have := hx.g.b; have := hx.g.c; omega, ⟨hc.1, hc.2.1⟩⟩
theorem onLeg_h {x : Lg} {n : Nat} {c : Cp} (hx : okLg x) (hn : 1 ≤ n ∧ n ≤ 64) (hc : okCp c) : onLeg x n x.g.h c.h := ⟨hx, hn, by have := hx.g.a; have := hx.g.b; have := hx.g.c; omega, ⟨hc.2.2.1, hc.2.2.2.1⟩⟩
theorem get_both {ts : List Cp} {ls : List Ld} (hlen : ls.length = ts.length) {i : Nat} {y : Ld} {f : Nat} {x : Lg} {n k : Nat} (hy : (stM f ts ls x n k)[i]? = some y) : ∃ c z, ts[i]? = some c ∧ ls[i]? = some z ∧ y = ⟨seqR f x n (1000 - x.g.o - x.g.h) c.n z.n k, seqR f x n x.g.h c.h z.h k⟩ := by
  have hi := (List.getElem?_eq_some_iff.1 hy).1
  rw [stM_len hlen] at hi
  obtain ⟨c, hc⟩ := get_some ts hi
  obtain ⟨z, hz⟩ := get_some ls (show i < ls.length by omega)
  refine ⟨c, z, hc, hz, ?_⟩
  rw [stM_get hc hz] at hy
  injection hy with hy
  exact hy.symm
theorem loaded_meet {ts : List Cp} {ls : List Ld} {x : Lg} {f g : Nat} (h : okTL ts ls) (hx : okLg x) (hf : f ≤ 6) (hg : g ≤ 6) : meetP (loadedM ts ls x f) (loadedM ts ls x g) := by
  refine all2_get fun i y z hy hz => ?_
  by_cases h0 : x.s = 0
  · rw [loadedM_zero h0] at hy hz
    rw [hy] at hz
    injection hz with hz
    subst hz
    have ho := h.o y (List.mem_of_getElem? hy)
    exact ⟨ho.1, ho.1, ho.2, ho.2⟩
  · have hs : x.s > 0 := by have := hx.s; omega
    have n1 := two_f hf rfl
    have n2 := two_f hg rfl
    rw [loadedM_pos h0 rfl] at hy hz
    obtain ⟨c, w, hc, hw, rfl⟩ := get_both h.len hy
    obtain ⟨c', w', hc', hw', rfl⟩ := get_both h.len hz
    rw [hc] at hc'
    rw [hw] at hw'
    injection hc' with hc'
    injection hw' with hw'
    subst hc'; subst hw'
    have hck := h.c c (List.mem_of_getElem? hc)
    have hwi := h.x w (List.mem_of_getElem? hw)
    have hwo := h.o w (List.mem_of_getElem? hw)
    exact ⟨leg_meet (onLeg_n hx n1 hck) (onLeg_n hx n2 hck) hs hwi.1 hwo.1, leg_meet (onLeg_n hx n2 hck) (onLeg_n hx n1 hck) hs hwi.1 hwo.1,
      leg_meet (onLeg_h hx n1 hck) (onLeg_h hx n2 hck) hs hwi.2 hwo.2, leg_meet (onLeg_h hx n2 hck) (onLeg_h hx n1 hck) hs hwi.2 hwo.2⟩
end Go.Proofs.Ytfhfadfnbnliiaa
