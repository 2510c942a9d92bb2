/-
  Plain models of chapter 3: ceilings and what they promise; the legs of a plan. Conditions: none; no program in sight.
-/
import Derived.Test.YthilaakeimfedaaGreatDoorTraj
namespace Go.Proofs.YthilaakeimfedaaGreatDoor

/-! ### Pressures of a leg -/
def prs (x : Lg) (t : Int) : Rat := (sumM x t : Rat) / (x.s : Rat)
theorem prs_mul {x : Lg} (h : x.s > 0) (t : Int) : prs x t * (x.s : Rat) = (sumM x t : Rat) := Rat.div_mul_cancel (Rat.ne_of_lt (Rat.intCast_pos.2 h)).symm
theorem sum_mono {x : Lg} (h : x.f ≤ x.t) {a b : Int} (hab : a ≤ b) : sumM x a ≤ sumM x b := by
  rw [← sum_alt, ← sum_alt]
  have := Int.mul_le_mul_of_nonneg_left hab (show 0 ≤ x.t - x.f by omega)
  omega
theorem sum_anti {x : Lg} (h : x.t ≤ x.f) {a b : Int} (hab : a ≤ b) : sumM x b ≤ sumM x a := by
  rw [← sum_alt, ← sum_alt]
  have h1 := Int.mul_le_mul_of_nonneg_left hab (show 0 ≤ x.f - x.t by omega)
  have h2 : (x.t - x.f) * b = -((x.f - x.t) * b) := by grind
  have h3 : (x.t - x.f) * a = -((x.f - x.t) * a) := by grind
  omega
theorem prs_le {x : Lg} (h : x.s > 0) {t : Int} {m : Int} (hm : sumM x t ≤ m) : prs x t ≤ ((upZ m x.s : Int) : Rat) := by
  have hp : (0 : Rat) < (x.s : Rat) := Rat.intCast_pos.2 h
  refine Rat.le_of_mul_le_mul_right (c := (x.s : Rat)) ?_ hp
  rw [prs_mul h]
  exact Rat.le_trans (cle hm) (quo_up h)
theorem le_prs {x : Lg} (h : x.s > 0) {t : Int} {m : Int} (hm : m ≤ sumM x t) : ((m / x.s : Int) : Rat) ≤ prs x t := by
  have hp : (0 : Rat) < (x.s : Rat) := Rat.intCast_pos.2 h
  refine Rat.le_of_mul_le_mul_right (c := (x.s : Rat)) ?_ hp
  rw [prs_mul h]
  exact Rat.le_trans (quo_down h) (cle hm)
def stLo (x : Lg) (n k : Nat) : Int := min (mkM x n k).p.lo (mkM x n ((k : Int) + 1)).p.lo
def stHi (x : Lg) (n k : Nat) : Int := max (mkM x n k).p.hi (mkM x n ((k : Int) + 1)).p.hi
theorem mk_pos {x : Lg} (h : x.s > 0) (n j : Int) : (mkM x n j).p = ⟨sumM x (mkM x n j).s / x.s, upZ (sumM x (mkM x n j).s) x.s⟩ := by
  unfold mkM
  dsimp only
  rw [if_pos h]
theorem prs_in {x : Lg} (h : x.s > 0) {n k : Nat} {t : Int} (h1 : (mkM x n k).s ≤ t) (h2 : t ≤ (mkM x n ((k : Int) + 1)).s) : (stLo x n k : Rat) ≤ prs x t ∧ prs x t ≤ (stHi x n k : Rat) := by
  unfold stLo stHi
  rw [mk_pos h, mk_pos h]
  dsimp only
  by_cases hd : x.f ≤ x.t
  · have a1 := le_prs h (sum_mono hd h1)
    have a2 := prs_le h (sum_mono hd h2)
    exact ⟨Rat.le_trans (cle (Int.min_le_left _ _)) a1, Rat.le_trans a2 (cle (Int.le_max_right _ _))⟩
  · have a1 := le_prs h (sum_anti (show x.t ≤ x.f by omega) h2)
    have a2 := prs_le h (sum_anti (show x.t ≤ x.f by omega) h1)
    exact ⟨Rat.le_trans (cle (Int.min_le_right _ _)) a1, Rat.le_trans a2 (cle (Int.le_max_left _ _))⟩

/-! ### One part of one compartment -/
def seqR (f : Nat) (x : Lg) (n : Nat) (part half : Int) (l : Rg) : Nat → Rg
  | 0 => l
  | k + 1 => nearM (seqR f x n part half l k) (part * (stLo x n k - 63)) (part * (stHi x n k - 63)) (decM ((mkM x n ((k : Int) + 1)).s - (mkM x n k).s) half (8 + 2 * f))
theorem stM_get {f : Nat} {ts : List Cp} {ls : List Ld} {x : Lg} {n i : Nat} {c : Cp} {z : Ld} (hc : ts[i]? = some c) (hz : ls[i]? = some z) : ∀ k, (stM f ts ls x n k)[i]? = some ⟨seqR f x n (1000 - x.g.o - x.g.h) c.n z.n k, seqR f x n x.g.h c.h z.h k⟩
  | 0 => hz
  | k + 1 => by
    have ih := stM_get (f := f) (x := x) (n := n) hc hz k
    unfold stM stepM
    rw [List.getElem?_zipWith, hc, ih]
    rfl
structure onLeg (x : Lg) (n : Nat) (part half : Int) : Prop where
  x : okLg x
  n : 1 ≤ n ∧ n ≤ 64
  p : 0 ≤ part ∧ part ≤ 1000
  h : 1 ≤ half ∧ half ≤ 100000
theorem st_in {x : Lg} {n k : Nat} (hx : okLg x) (hn : 1 ≤ n ∧ n ≤ 64) (hk : k < n) : 400 ≤ stLo x n k ∧ stLo x n k ≤ stHi x n k ∧ stHi x n k ≤ 31100 := by
  have h1 := mk_in (j := (k : Int)) hx (n := (n : Int)) (by omega) (by omega)
  have h2 := mk_in (j := (k : Int) + 1) hx (n := (n : Int)) (by omega) (by omega)
  unfold stLo stHi
  omega
theorem seqR_in {f : Nat} {x : Lg} {n : Nat} {part half : Int} {l : Rg} (H : onLeg x n part half) (hl : inX l) : ∀ k, k ≤ n → inX (seqR f x n part half l k)
  | 0, _ => hl
  | k + 1, hk => by
    have h1 := st_in (k := k) H.x H.n (by omega)
    exact near_in (seqR_in H hl k (by omega)) (breath_in H.p (by omega)) (breath_in H.p (by omega)) (decM_in _ _ _)
theorem mks_nat {x : Lg} {n k : Nat} (hx : okLg x) (hn : 1 ≤ n ∧ n ≤ 64) (hk : k < n) : ∃ a s : Nat, (mkM x n k).s = (a : Int) ∧ (mkM x n ((k : Int) + 1)).s = ((a + s : Nat) : Int) := by
  have h1 := mk_in (j := (k : Int)) hx (n := (n : Int)) (by omega) (by omega)
  have h2 := mk_mono hx hn.1 k
  exact ⟨(mkM x n k).s.toNat, ((mkM x n ((k : Int) + 1)).s - (mkM x n k).s).toNat, by omega, by omega⟩
section
variable {f n : Nat} {x : Lg} {part : Int} {h : Nat} {l : Rg} {r η : Rat} {q : Nat → Rat} {x0 ε : Rat} {t0 : Nat}
def goes (q : Nat → Rat) (t0 : Nat) (x : Lg) (part : Int) : Prop := ∀ t : Nat, (t : Int) ≤ x.s → q (t0 + t) = (part : Rat) * (prs x t - 63)
theorem part_le {part : Int} (hp : 0 ≤ part) {a : Int} {b : Rat} (h : (a : Rat) ≤ b) : ((part * (a - 63) : Int) : Rat) ≤ (part : Rat) * (b - 63) := by
  rw [Rat.intCast_mul, cst]
  have : ((63 : Int) : Rat) = 63 := rfl
  exact Rat.mul_le_mul_of_nonneg_left (by grind) (c_nn hp)
theorem le_part {part : Int} (hp : 0 ≤ part) {a : Int} {b : Rat} (h : b ≤ (a : Rat)) : (part : Rat) * (b - 63) ≤ ((part * (a - 63) : Int) : Rat) := by
  rw [Rat.intCast_mul, cst]
  have : ((63 : Int) : Rat) = 63 := rfl
  exact Rat.mul_le_mul_of_nonneg_left (by grind) (c_nn hp)
def ex (ε η : Rat) (t : Int) : Rat := ε + MX * ((t : Rat) * η)
theorem ex_add {a s : Nat} (ε η : Rat) : ex ε η ((a + s : Nat) : Int) = ex ε η (a : Int) + MX * ((s : Rat) * η) := by
  unfold ex
  have h1 : (((a + s : Nat) : Int) : Rat) = (a : Rat) + (s : Rat) := by rw [Rat.intCast_natCast, Rat.natCast_add]
  have h2 : (((a : Nat) : Int) : Rat) = (a : Rat) := Rat.intCast_natCast a
  rw [h1, h2]
  grind
theorem ex_nn {ε η : Rat} (he : 0 ≤ ε) (h0 : 0 ≤ η) {t : Int} (ht : 0 ≤ t) : 0 ≤ ex ε η t := by
  have u : (0 : Rat) ≤ MX * ((t : Rat) * η) := Rat.mul_nonneg (by unfold MX; decide) (Rat.mul_nonneg (c_nn ht) h0)
  unfold ex
  grind
theorem leg_enc (H : Rt h r η) (hO : onLeg x n part (h : Int)) (hs : x.s > 0) (hl : inX l) (he : 0 ≤ ε) (hq : goes q t0 x part) (h1 : (l.lo : Rat) ≤ traj q r x0 t0 + ε) (h2 : traj q r x0 t0 ≤ (l.hi : Rat) + ε) :
    ∀ k, k ≤ n → ((seqR f x n part h l k).lo : Rat) ≤ traj q r x0 (t0 + (mkM x n k).s.toNat) + ex ε η (mkM x n k).s ∧ traj q r x0 (t0 + (mkM x n k).s.toNat) ≤ ((seqR f x n part h l k).hi : Rat) + ex ε η (mkM x n k).s
  | 0, _ => by
    have e0 : (mkM x n (0 : Nat)).s = 0 := by unfold mkM; simp
    rw [e0]
    have : ex ε η 0 = ε := by unfold ex; have : ((0 : Int) : Rat) = 0 := rfl; grind
    rw [this]
    exact ⟨h1, h2⟩
  | k + 1, hk => by
    obtain ⟨i1, i2⟩ := leg_enc H hO hs hl he hq h1 h2 k (by omega)
    obtain ⟨a, s, ea, es⟩ := mks_nat (k := k) hO.x hO.n (by omega)
    have hst := st_in (k := k) hO.x hO.n (by omega)
    have hin := seqR_in (f := f) hO hl k (by omega)
    have ek : (mkM x n ((k + 1 : Nat) : Int)).s = ((a + s : Nat) : Int) := es
    have hle := mk_in (j := (k : Int) + 1) hO.x (n := (n : Int)) (by omega) (by have := hO.n; omega)
    have hd : (mkM x n ((k : Int) + 1)).s - (mkM x n k).s = (s : Int) := by omega
    rw [ek, ex_add]
    rw [ea] at i1 i2
    simp only [Int.toNat_natCast] at i1 i2 ⊢
    rw [← Nat.add_assoc]
    have hen := decM_enc (s := s) (h := h) (8 + 2 * f) (by have := hO.h; omega)
    have hqa : ∀ t, t0 + a ≤ t → t < t0 + a + s → ((part * (stLo x n k - 63) : Int) : Rat) ≤ q t ∧ q t ≤ ((part * (stHi x n k - 63) : Int) : Rat) := fun t ht hlt => by
      have h3 := prs_in hs (n := n) (k := k) (t := ((t - t0 : Nat) : Int)) (by omega) (by omega)
      have h4 := hq (t - t0) (by omega)
      rw [show t0 + (t - t0) = t by omega] at h4
      rw [h4]
      exact ⟨part_le hO.p.1 h3.1, le_part hO.p.1 h3.2⟩
    have hh : 1 ≤ h := by have := hO.h; omega
    have en := ex_nn he H.e0 (show (0 : Int) ≤ (a : Int) by omega)
    unfold seqR
    rw [hd]
    exact ⟨near_lo H hh hen (decM_in _ _ _) hin (breath_in hO.p (by omega)) en (fun t ht hlt => (hqa t ht hlt).1) i1, near_hi H hh hen (decM_in _ _ _) hin (breath_in hO.p (by omega)) en (fun t ht hlt => (hqa t ht hlt).2) i2⟩
theorem leg_mid (H : Rt h r η) (hO : onLeg x n part (h : Int)) (hs : x.s > 0) (hl : inX l) (he : 0 ≤ ε) (hq : goes q t0 x part) (h1 : (l.lo : Rat) ≤ traj q r x0 t0 + ε) (h2 : traj q r x0 t0 ≤ (l.hi : Rat) + ε)
    {k t : Nat} (hk : k < n) (ht1 : (mkM x n k).s ≤ (t : Int)) (ht2 : (t : Int) ≤ (mkM x n ((k : Int) + 1)).s) :
    traj q r x0 (t0 + t) ≤ ((max (seqR f x n part h l k).hi (seqR f x n part h l (k + 1)).hi : Int) : Rat) + ex ε η (mkM x n ((k : Int) + 1)).s := by
  obtain ⟨_, i2⟩ := leg_enc (f := f) H hO hs hl he hq h1 h2 k (by omega)
  obtain ⟨a, s, ea, es⟩ := mks_nat (k := k) hO.x hO.n hk
  have hst := st_in (k := k) hO.x hO.n hk
  have hin := seqR_in (f := f) hO hl k (by omega)
  have hle := mk_in (j := (k : Int) + 1) hO.x (n := (n : Int)) (by omega) (by have := hO.n; omega)
  have hd : (mkM x n ((k : Int) + 1)).s - (mkM x n k).s = (s : Int) := by omega
  rw [es, ex_add]
  rw [ea] at i2
  simp only [Int.toNat_natCast] at i2
  have hen := decM_enc (s := s) (h := h) (8 + 2 * f) (by have := hO.h; omega)
  have hqa : ∀ u, t0 + a ≤ u → u < t0 + a + s → q u ≤ ((part * (stHi x n k - 63) : Int) : Rat) := fun u hu hlt => by
    have h3 := prs_in hs (n := n) (k := k) (t := ((u - t0 : Nat) : Int)) (by omega) (by omega)
    have h4 := hq (u - t0) (by omega)
    rw [show t0 + (u - t0) = u by omega] at h4
    rw [h4]
    exact le_part hO.p.1 h3.2
  have hh : 1 ≤ h := by have := hO.h; omega
  have en := ex_nn he H.e0 (show (0 : Int) ≤ (a : Int) by omega)
  have key := near_mid (a := part * (stLo x n k - 63)) H hh hen (decM_in _ _ _) hin (breath_in hO.p (by omega)) en (j := t - a) (by omega) hqa i2
  rw [show t0 + a + (t - a) = t0 + t by omega] at key
  have e9 : seqR f x n part h l (k + 1) = nearM (seqR f x n part h l k) (part * (stLo x n k - 63)) (part * (stHi x n k - 63)) (decM (s : Int) h (8 + 2 * f)) := by
    conv => lhs; unfold seqR
    rw [hd]
  rw [e9]
  exact key
end

/-! ### What is less than one apart -/
theorem small_ex {η : Rat} (h0 : 0 ≤ η) (h : η * ((800000000000000 : Nat) : Rat) = 1) {t : Int} (ht : t ≤ 1000000) : ex 0 η t ≤ 1 / 8 := by
  unfold ex
  have h1 : (t : Rat) ≤ ((1000000 : Int) : Rat) := cle ht
  have h2 : ((1000000 : Int) : Rat) = 1000000 := rfl
  have h3 : ((800000000000000 : Nat) : Rat) = 800000000000000 := rfl
  rw [h2] at h1
  rw [h3] at h
  have h4 : (t : Rat) * η ≤ 1000000 * η := Rat.mul_le_mul_of_nonneg_right h1 h0
  have h5 : MX = 100000000 := rfl
  rw [h5]
  grind
theorem int_le {a b : Int} {x ε : Rat} (h1 : (a : Rat) ≤ x + ε) (h2 : x ≤ (b : Rat) + ε) (he : ε ≤ 1 / 4) : a ≤ b := by
  have h3 : (a : Rat) < (b : Rat) + 1 := by grind
  have h4 : ((b + 1 : Int) : Rat) = (b : Rat) + 1 := by rw [Rat.intCast_add]; rfl
  rw [← h4] at h3
  have := Rat.intCast_lt_intCast.1 h3
  omega
/-! ### The enclosures of one leg meet -/
theorem mk_end {x : Lg} {n : Nat} (hn : 1 ≤ n) : (mkM x n n).s = x.s := by
  unfold mkM
  dsimp only
  exact sec_end (by omega)
theorem onLeg_n {x : Lg} {n : Nat} {c : Cp} (hx : okLg x) (hn : 1 ≤ n ∧ n ≤ 64) (hc : okCp c) : onLeg x n (1000 - x.g.o - x.g.h) c.n := ⟨hx, hn, by have := hx.g.a; have := hx.g.b; have := hx.g.c; omega, ⟨hc.1, hc.2.1⟩⟩
theorem onLeg_h {x : Lg} {n : Nat} {c : Cp} (hx : okLg x) (hn : 1 ≤ n ∧ n ≤ 64) (hc : okCp c) : onLeg x n x.g.h c.h := ⟨hx, hn, by have := hx.g.a; have := hx.g.b; have := hx.g.c; omega, ⟨hc.2.2.1, hc.2.2.2.1⟩⟩
theorem get_both {ts : List Cp} {ls : List Ld} (hlen : ls.length = ts.length) {i : Nat} {y : Ld} {f : Nat} {x : Lg} {n k : Nat} (hy : (stM f ts ls x n k)[i]? = some y) : ∃ c z, ts[i]? = some c ∧ ls[i]? = some z ∧ y = ⟨seqR f x n (1000 - x.g.o - x.g.h) c.n z.n k, seqR f x n x.g.h c.h z.h k⟩ := by
  have hi := (List.getElem?_eq_some_iff.1 hy).1
  rw [stM_len hlen] at hi
  obtain ⟨c, hc⟩ := get_some ts hi
  obtain ⟨z, hz⟩ := get_some ls (show i < ls.length by omega)
  refine ⟨c, z, hc, hz, ?_⟩
  rw [stM_get hc hz] at hy
  injection hy with hy
  exact hy.symm
end Go.Proofs.YthilaakeimfedaaGreatDoor
namespace Go.Proofs.YthilaakeimfedaaGreatDoor

/-! ### A rest as a leg -/
/-! ### Loads that lie in others -/
end Go.Proofs.YthilaakeimfedaaGreatDoor
namespace Go.Proofs.YthilaakeimfedaaGreatDoor

/-! ### Modulo -/
/-! ### Products of decays -/
/-! ### Rests -/
structure okRest (ts : List Cp) (ls : List Ld) (p s : Int) : Prop where
  k : okTL ts ls
  ct : ckLoads ts ls = 0
  r : 400 ≤ p ∧ p ≤ 1100 ∧ 0 ≤ s ∧ s ≤ 1000000
  e : restE ts ls p s = (restM ts ls p s, 0)
/-! ### Single numbers out of loads -/
/-! ### Limits kept -/
def lw1 (p f : Int) (c : Cp) (x : Ld) : Prop := 1000 * (x.n.lo + x.h.lo) ≤ limM c p f
instance (p f : Int) (c : Cp) (x : Ld) : Decidable (lw1 p f c x) := by unfold lw1; infer_instance
def up1 (p f : Int) (c : Cp) (x : Ld) : Prop := 1000 * (x.n.hi + x.h.hi) ≤ limM c p f
instance (p f : Int) (c : Cp) (x : Ld) : Decidable (up1 p f c x) := by unfold up1; infer_instance
abbrev lowP (p f : Int) := all2 (lw1 p f)
abbrev holdP (p f : Int) := all2 (up1 p f)
def keptM (ts : List Cp) (ls : List Ld) (p f : Int) : Int := if ¬ lowP p f ts ls then 0 else if holdP p f ts ls then 2 else 1
theorem hold_low {ts : List Cp} {ls : List Ld} {p f : Int} (ho : ∀ y ∈ ls, ordLd y) (h : holdP p f ts ls) : lowP p f ts ls := all2_get fun k c x hc hx => by
  have h1 := all2_at h k c x hc hx
  have h2 := ho x (List.mem_of_getElem? hx)
  unfold up1 at h1
  unfold ordLd at h2
  unfold lw1
  omega
theorem keptM_prog {ts : List Cp} {ls : List Ld} {p f : Int} (ho : ∀ y ∈ ls, ordLd y) : (if decide (holdP p f ts ls) = true then (2 : Int) else if decide (¬ lowP p f ts ls) = true then 0 else 1) = keptM ts ls p f := by
  unfold keptM
  by_cases h : holdP p f ts ls
  · have := hold_low ho h
    simp [h, this]
  · by_cases h2 : lowP p f ts ls <;> simp [h, h2]
def keptE (ts : List Cp) (ls : List Ld) (p f : Int) : Int × Int := if ckLoads ts ls ≠ 0 then (0, ckLoads ts ls) else if okPr p ∧ 0 ≤ f ∧ f ≤ 1000 then (keptM ts ls p f, 0) else (0, 2)
theorem keptE_1 {ts : List Cp} {ls : List Ld} {p f : Int} (h : ckLoads ts ls ≠ 0) : keptE ts ls p f = (0, ckLoads ts ls) := if_pos h
theorem keptE_2 {ts : List Cp} {ls : List Ld} {p f : Int} (h : ¬ ckLoads ts ls ≠ 0) (h2 : ¬ (okPr p ∧ 0 ≤ f ∧ f ≤ 1000)) : keptE ts ls p f = (0, 2) := by unfold keptE; rw [if_neg h, if_neg h2]
theorem keptE_3 {ts : List Cp} {ls : List Ld} {p f : Int} (h : ¬ ckLoads ts ls ≠ 0) (h2 : okPr p ∧ 0 ≤ f ∧ f ≤ 1000) : keptE ts ls p f = (keptM ts ls p f, 0) := by unfold keptE; rw [if_neg h, if_pos h2]
end Go.Proofs.YthilaakeimfedaaGreatDoor
namespace Go.Proofs.YthilaakeimfedaaGreatDoor

/-! ### Ceilings -/
theorem lim_line (c : Cp) (p f : Int) : limM c p f = limM c 0 f + p * (1000000 + f * (c.s - 1000)) := by unfold limM; grind
structure okFa (ts : List Cp) (ls : List Ld) (f : Int) : Prop where
  k : okTL ts ls
  ct : ckLoads ts ls = 0
  fb : 0 ≤ f ∧ f ≤ 1000
  e : ceilE ts ls f = (ceilF f ts ls ⟨0, 0⟩, 0)
/-! ### The legs of a plan -/
structure Dl where
  s : Int
  d : Int
  g : Int
end Go.Proofs.YthilaakeimfedaaGreatDoor
