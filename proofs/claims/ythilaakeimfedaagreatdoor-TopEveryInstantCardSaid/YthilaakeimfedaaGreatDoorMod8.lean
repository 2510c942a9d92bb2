/-
  Plain models of chapter 3: peaks, and whether a task is kept. Conditions: none; no program in sight.
-/
import Derived.Test.YthilaakeimfedaaGreatDoorTraj
namespace Go.Proofs.YthilaakeimfedaaGreatDoor

/-! ### Pressures of a leg -/
def prs (x : Lg) (t : Int) : Rat := (sumM x t : Rat) / (x.s : Rat)
theorem prs_mul {x : Lg} (h : x.s > 0) (t : Int) : prs x t * (x.s : Rat) = (sumM x t : Rat) := Rat.div_mul_cancel (Rat.ne_of_lt (Rat.intCast_pos.2 h)).symm
theorem sum_mono {x : Lg} (h : x.f ≤ x.t) {a b : Int} (hab : a ≤ b) : sumM x a ≤ sumM x b := by
  rw [← sum_alt, ← sum_alt]
  have := Int.mul_le_mul_of_nonneg_left hab (show 0 ≤ x.t - x.f by omega)
  omega
theorem sum_anti {x : Lg} (h : x.t ≤ x.f) {a b : Int} (hab : a ≤ b) : sumM x b ≤ sumM x a := by
  rw [← sum_alt, ← sum_alt]
  have h1 := Int.mul_le_mul_of_nonneg_left hab (show 0 ≤ x.f - x.t by omega)
  have h2 : (x.t - x.f) * b = -((x.f - x.t) * b) := by grind
  have h3 : (x.t - x.f) * a = -((x.f - x.t) * a) := by grind
  omega
theorem prs_le {x : Lg} (h : x.s > 0) {t : Int} {m : Int} (hm : sumM x t ≤ m) : prs x t ≤ ((upZ m x.s : Int) : Rat) := by
  have hp : (0 : Rat) < (x.s : Rat) := Rat.intCast_pos.2 h
  refine Rat.le_of_mul_le_mul_right (c := (x.s : Rat)) ?_ hp
  rw [prs_mul h]
  exact Rat.le_trans (cle hm) (quo_up h)
theorem le_prs {x : Lg} (h : x.s > 0) {t : Int} {m : Int} (hm : m ≤ sumM x t) : ((m / x.s : Int) : Rat) ≤ prs x t := by
  have hp : (0 : Rat) < (x.s : Rat) := Rat.intCast_pos.2 h
  refine Rat.le_of_mul_le_mul_right (c := (x.s : Rat)) ?_ hp
  rw [prs_mul h]
  exact Rat.le_trans (quo_down h) (cle hm)
def stLo (x : Lg) (n k : Nat) : Int := min (mkM x n k).p.lo (mkM x n ((k : Int) + 1)).p.lo
def stHi (x : Lg) (n k : Nat) : Int := max (mkM x n k).p.hi (mkM x n ((k : Int) + 1)).p.hi
theorem mk_pos {x : Lg} (h : x.s > 0) (n j : Int) : (mkM x n j).p = ⟨sumM x (mkM x n j).s / x.s, upZ (sumM x (mkM x n j).s) x.s⟩ := by
  unfold mkM
  dsimp only
  rw [if_pos h]
theorem prs_in {x : Lg} (h : x.s > 0) {n k : Nat} {t : Int} (h1 : (mkM x n k).s ≤ t) (h2 : t ≤ (mkM x n ((k : Int) + 1)).s) : (stLo x n k : Rat) ≤ prs x t ∧ prs x t ≤ (stHi x n k : Rat) := by
  unfold stLo stHi
  rw [mk_pos h, mk_pos h]
  dsimp only
  by_cases hd : x.f ≤ x.t
  · have a1 := le_prs h (sum_mono hd h1)
    have a2 := prs_le h (sum_mono hd h2)
    exact ⟨Rat.le_trans (cle (Int.min_le_left _ _)) a1, Rat.le_trans a2 (cle (Int.le_max_right _ _))⟩
  · have a1 := le_prs h (sum_anti (show x.t ≤ x.f by omega) h2)
    have a2 := prs_le h (sum_anti (show x.t ≤ x.f by omega) h1)
    exact ⟨Rat.le_trans (cle (Int.min_le_right _ _)) a1, Rat.le_trans a2 (cle (Int.le_max_left _ _))⟩

/-! ### One part of one compartment -/
def seqR (f : Nat) (x : Lg) (n : Nat) (part half : Int) (l : Rg) : Nat → Rg
  | 0 => l
  | k + 1 => nearM (seqR f x n part half l k) (part * (stLo x n k - 63)) (part * (stHi x n k - 63)) (decM ((mkM x n ((k : Int) + 1)).s - (mkM x n k).s) half (8 + 2 * f))
theorem stM_get {f : Nat} {ts : List Cp} {ls : List Ld} {x : Lg} {n i : Nat} {c : Cp} {z : Ld} (hc : ts[i]? = some c) (hz : ls[i]? = some z) : ∀ k, (stM f ts ls x n k)[i]? = some ⟨seqR f x n (1000 - x.g.o - x.g.h) c.n z.n k, seqR f x n x.g.h c.h z.h k⟩
  | 0 => hz
  | k + 1 => by
    have ih := stM_get (f := f) (x := x) (n := n) hc hz k
    unfold stM stepM
    rw [List.getElem?_zipWith, hc, ih]
    rfl
structure onLeg (x : Lg) (n : Nat) (part half : Int) : Prop where
  x : okLg x
  n : 1 ≤ n ∧ n ≤ 64
  p : 0 ≤ part ∧ part ≤ 1000
  h : 1 ≤ half ∧ half ≤ 100000
theorem st_in {x : Lg} {n k : Nat} (hx : okLg x) (hn : 1 ≤ n ∧ n ≤ 64) (hk : k < n) : 400 ≤ stLo x n k ∧ stLo x n k ≤ stHi x n k ∧ stHi x n k ≤ 31100 := by
  have h1 := mk_in (j := (k : Int)) hx (n := (n : Int)) (by omega) (by omega)
  have h2 := mk_in (j := (k : Int) + 1) hx (n := (n : Int)) (by omega) (by omega)
  unfold stLo stHi
  omega
theorem seqR_in {f : Nat} {x : Lg} {n : Nat} {part half : Int} {l : Rg} (H : onLeg x n part half) (hl : inX l) : ∀ k, k ≤ n → inX (seqR f x n part half l k)
  | 0, _ => hl
  | k + 1, hk => by
    have h1 := st_in (k := k) H.x H.n (by omega)
    exact near_in (seqR_in H hl k (by omega)) (breath_in H.p (by omega)) (breath_in H.p (by omega)) (decM_in _ _ _)
theorem mks_nat {x : Lg} {n k : Nat} (hx : okLg x) (hn : 1 ≤ n ∧ n ≤ 64) (hk : k < n) : ∃ a s : Nat, (mkM x n k).s = (a : Int) ∧ (mkM x n ((k : Int) + 1)).s = ((a + s : Nat) : Int) := by
  have h1 := mk_in (j := (k : Int)) hx (n := (n : Int)) (by omega) (by omega)
  have h2 := mk_mono hx hn.1 k
  exact ⟨(mkM x n k).s.toNat, ((mkM x n ((k : Int) + 1)).s - (mkM x n k).s).toNat, by omega, by omega⟩
section
variable {f n : Nat} {x : Lg} {part : Int} {h : Nat} {l : Rg} {r η : Rat} {q : Nat → Rat} {x0 ε : Rat} {t0 : Nat}
def goes (q : Nat → Rat) (t0 : Nat) (x : Lg) (part : Int) : Prop := ∀ t : Nat, (t : Int) ≤ x.s → q (t0 + t) = (part : Rat) * (prs x t - 63)
theorem part_le {part : Int} (hp : 0 ≤ part) {a : Int} {b : Rat} (h : (a : Rat) ≤ b) : ((part * (a - 63) : Int) : Rat) ≤ (part : Rat) * (b - 63) := by
  rw [Rat.intCast_mul, cst]
  have : ((63 : Int) : Rat) = 63 := rfl
  exact Rat.mul_le_mul_of_nonneg_left (by grind) (c_nn hp)
theorem le_part {part : Int} (hp : 0 ≤ part) {a : Int} {b : Rat} (h : b ≤ (a : Rat)) : (part : Rat) * (b - 63) ≤ ((part * (a - 63) : Int) : Rat) := by
  rw [Rat.intCast_mul, cst]
  have : ((63 : Int) : Rat) = 63 := rfl
  exact Rat.mul_le_mul_of_nonneg_left (by grind) (c_nn hp)
def ex (ε η : Rat) (t : Int) : Rat := ε + MX * ((t : Rat) * η)
theorem ex_add {a s : Nat} (ε η : Rat) : ex ε η ((a + s : Nat) : Int) = ex ε η (a : Int) + MX * ((s : Rat) * η) := by
  unfold ex
  have h1 : (((a + s : Nat) : Int) : Rat) = (a : Rat) + (s : Rat) := by rw [Rat.intCast_natCast, Rat.natCast_add]
  have h2 : (((a : Nat) : Int) : Rat) = (a : Rat) := Rat.intCast_natCast a
  rw [h1, h2]
  grind
theorem ex_nn {ε η : Rat} (he : 0 ≤ ε) (h0 : 0 ≤ η) {t : Int} (ht : 0 ≤ t) : 0 ≤ ex ε η t := by
  have u : (0 : Rat) ≤ MX * ((t : Rat) * η) := Rat.mul_nonneg (by unfold MX; decide) (Rat.mul_nonneg (c_nn ht) h0)
  unfold ex
  grind
theorem leg_enc (H : Rt h r η) (hO : onLeg x n part (h : Int)) (hs : x.s > 0) (hl : inX l) (he : 0 ≤ ε) (hq : goes q t0 x part) (h1 : (l.lo : Rat) ≤ traj q r x0 t0 + ε) (h2 : traj q r x0 t0 ≤ (l.hi : Rat) + ε) :
    ∀ k, k ≤ n → ((seqR f x n part h l k).lo : Rat) ≤ traj q r x0 (t0 + (mkM x n k).s.toNat) + ex ε η (mkM x n k).s ∧ traj q r x0 (t0 + (mkM x n k).s.toNat) ≤ ((seqR f x n part h l k).hi : Rat) + ex ε η (mkM x n k).s
  | 0, _ => by
    have e0 : (mkM x n (0 : Nat)).s = 0 := by unfold mkM; simp
    rw [e0]
    have : ex ε η 0 = ε := by unfold ex; have : ((0 : Int) : Rat) = 0 := rfl; grind
    rw [this]
    exact ⟨h1, h2⟩
  | k + 1, hk => by
    obtain ⟨i1, i2⟩ := leg_enc H hO hs hl he hq h1 h2 k (by omega)
    obtain ⟨a, s, ea, es⟩ := mks_nat (k := k) hO.x hO.n (by omega)
    have hst := st_in (k := k) hO.x hO.n (by omega)
    have hin := seqR_in (f := f) hO hl k (by omega)
    have ek : (mkM x n ((k + 1 : Nat) : Int)).s = ((a + s : Nat) : Int) := es
    have hle := mk_in (j := (k : Int) + 1) hO.x (n := (n : Int)) (by omega) (by have := hO.n; omega)
    have hd : (mkM x n ((k : Int) + 1)).s - (mkM x n k).s = (s : Int) := by omega
    rw [ek, ex_add]
    rw [ea] at i1 i2
    simp only [Int.toNat_natCast] at i1 i2 ⊢
    rw [← Nat.add_assoc]
    have hen := decM_enc (s := s) (h := h) (8 + 2 * f) (by have := hO.h; omega)
    have hqa : ∀ t, t0 + a ≤ t → t < t0 + a + s → ((part * (stLo x n k - 63) : Int) : Rat) ≤ q t ∧ q t ≤ ((part * (stHi x n k - 63) : Int) : Rat) := fun t ht hlt => by
      have h3 := prs_in hs (n := n) (k := k) (t := ((t - t0 : Nat) : Int)) (by omega) (by omega)
      have h4 := hq (t - t0) (by omega)
      rw [show t0 + (t - t0) = t by omega] at h4
      rw [h4]
      exact ⟨part_le hO.p.1 h3.1, le_part hO.p.1 h3.2⟩
    have hh : 1 ≤ h := by have := hO.h; omega
    have en := ex_nn he H.e0 (show (0 : Int) ≤ (a : Int) by omega)
    unfold seqR
    rw [hd]
    exact ⟨near_lo H hh hen (decM_in _ _ _) hin (breath_in hO.p (by omega)) en (fun t ht hlt => (hqa t ht hlt).1) i1, near_hi H hh hen (decM_in _ _ _) hin (breath_in hO.p (by omega)) en (fun t ht hlt => (hqa t ht hlt).2) i2⟩
theorem leg_mid (H : Rt h r η) (hO : onLeg x n part (h : Int)) (hs : x.s > 0) (hl : inX l) (he : 0 ≤ ε) (hq : goes q t0 x part) (h1 : (l.lo : Rat) ≤ traj q r x0 t0 + ε) (h2 : traj q r x0 t0 ≤ (l.hi : Rat) + ε)
    {k t : Nat} (hk : k < n) (ht1 : (mkM x n k).s ≤ (t : Int)) (ht2 : (t : Int) ≤ (mkM x n ((k : Int) + 1)).s) :
    traj q r x0 (t0 + t) ≤ ((max (seqR f x n part h l k).hi (seqR f x n part h l (k + 1)).hi : Int) : Rat) + ex ε η (mkM x n ((k : Int) + 1)).s := by
  obtain ⟨_, i2⟩ := leg_enc (f := f) H hO hs hl he hq h1 h2 k (by omega)
  obtain ⟨a, s, ea, es⟩ := mks_nat (k := k) hO.x hO.n hk
  have hst := st_in (k := k) hO.x hO.n hk
  have hin := seqR_in (f := f) hO hl k (by omega)
  have hle := mk_in (j := (k : Int) + 1) hO.x (n := (n : Int)) (by omega) (by have := hO.n; omega)
  have hd : (mkM x n ((k : Int) + 1)).s - (mkM x n k).s = (s : Int) := by omega
  rw [es, ex_add]
  rw [ea] at i2
  simp only [Int.toNat_natCast] at i2
  have hen := decM_enc (s := s) (h := h) (8 + 2 * f) (by have := hO.h; omega)
  have hqa : ∀ u, t0 + a ≤ u → u < t0 + a + s → q u ≤ ((part * (stHi x n k - 63) : Int) : Rat) := fun u hu hlt => by
    have h3 := prs_in hs (n := n) (k := k) (t := ((u - t0 : Nat) : Int)) (by omega) (by omega)
    have h4 := hq (u - t0) (by omega)
    rw [show t0 + (u - t0) = u by omega] at h4
    rw [h4]
    exact le_part hO.p.1 h3.2
  have hh : 1 ≤ h := by have := hO.h; omega
  have en := ex_nn he H.e0 (show (0 : Int) ≤ (a : Int) by omega)
  have key := near_mid (a := part * (stLo x n k - 63)) H hh hen (decM_in _ _ _) hin (breath_in hO.p (by omega)) en (j := t - a) (by omega) hqa i2
  rw [show t0 + a + (t - a) = t0 + t by omega] at key
  have e9 : seqR f x n part h l (k + 1) = nearM (seqR f x n part h l k) (part * (stLo x n k - 63)) (part * (stHi x n k - 63)) (decM (s : Int) h (8 + 2 * f)) := by
    conv => lhs; unfold seqR
    rw [hd]
  rw [e9]
  exact key
end

/-! ### What is less than one apart -/
theorem small_ex {η : Rat} (h0 : 0 ≤ η) (h : η * ((800000000000000 : Nat) : Rat) = 1) {t : Int} (ht : t ≤ 1000000) : ex 0 η t ≤ 1 / 8 := by
  unfold ex
  have h1 : (t : Rat) ≤ ((1000000 : Int) : Rat) := cle ht
  have h2 : ((1000000 : Int) : Rat) = 1000000 := rfl
  have h3 : ((800000000000000 : Nat) : Rat) = 800000000000000 := rfl
  rw [h2] at h1
  rw [h3] at h
  have h4 : (t : Rat) * η ≤ 1000000 * η := Rat.mul_le_mul_of_nonneg_right h1 h0
  have h5 : MX = 100000000 := rfl
  rw [h5]
  grind
theorem int_le {a b : Int} {x ε : Rat} (h1 : (a : Rat) ≤ x + ε) (h2 : x ≤ (b : Rat) + ε) (he : ε ≤ 1 / 4) : a ≤ b := by
  have h3 : (a : Rat) < (b : Rat) + 1 := by grind
  have h4 : ((b + 1 : Int) : Rat) = (b : Rat) + 1 := by rw [Rat.intCast_add]; rfl
  rw [← h4] at h3
  have := Rat.intCast_lt_intCast.1 h3
  omega
/-! ### The enclosures of one leg meet -/
theorem mk_end {x : Lg} {n : Nat} (hn : 1 ≤ n) : (mkM x n n).s = x.s := by
  unfold mkM
  dsimp only
  exact sec_end (by omega)
theorem onLeg_n {x : Lg} {n : Nat} {c : Cp} (hx : okLg x) (hn : 1 ≤ n ∧ n ≤ 64) (hc : okCp c) : onLeg x n (1000 - x.g.o - x.g.h) c.n := ⟨hx, hn, by have := hx.g.a; have := hx.g.b; have := hx.g.c; omega, ⟨hc.1, hc.2.1⟩⟩
theorem onLeg_h {x : Lg} {n : Nat} {c : Cp} (hx : okLg x) (hn : 1 ≤ n ∧ n ≤ 64) (hc : okCp c) : onLeg x n x.g.h c.h := ⟨hx, hn, by have := hx.g.a; have := hx.g.b; have := hx.g.c; omega, ⟨hc.2.2.1, hc.2.2.2.1⟩⟩
theorem get_both {ts : List Cp} {ls : List Ld} (hlen : ls.length = ts.length) {i : Nat} {y : Ld} {f : Nat} {x : Lg} {n k : Nat} (hy : (stM f ts ls x n k)[i]? = some y) : ∃ c z, ts[i]? = some c ∧ ls[i]? = some z ∧ y = ⟨seqR f x n (1000 - x.g.o - x.g.h) c.n z.n k, seqR f x n x.g.h c.h z.h k⟩ := by
  have hi := (List.getElem?_eq_some_iff.1 hy).1
  rw [stM_len hlen] at hi
  obtain ⟨c, hc⟩ := get_some ts hi
  obtain ⟨z, hz⟩ := get_some ls (show i < ls.length by omega)
  refine ⟨c, z, hc, hz, ?_⟩
  rw [stM_get hc hz] at hy
  injection hy with hy
  exact hy.symm
end Go.Proofs.YthilaakeimfedaaGreatDoor
namespace Go.Proofs.YthilaakeimfedaaGreatDoor

/-! ### A rest as a leg -/
/-! ### Loads that lie in others -/
end Go.Proofs.YthilaakeimfedaaGreatDoor
namespace Go.Proofs.YthilaakeimfedaaGreatDoor

/-! ### Modulo -/
/-! ### Products of decays -/
/-! ### Rests -/
structure okRest (ts : List Cp) (ls : List Ld) (p s : Int) : Prop where
  k : okTL ts ls
  ct : ckLoads ts ls = 0
  r : 400 ≤ p ∧ p ≤ 1100 ∧ 0 ≤ s ∧ s ≤ 1000000
  e : restE ts ls p s = (restM ts ls p s, 0)
/-! ### Single numbers out of loads -/
theorem insC_ok {ts : List Cp} {a b : List Ld} (ha : okTL ts a) (hb : okTL ts b) : insC a b = 0 := by
  unfold insC
  rw [if_neg (by have := ha.len; have := hb.len; omega), if_neg (fun hh => hh (ckLds_mk ha.x ha.o))]
  exact ckLds_mk hb.x hb.o
/-! ### Limits kept -/
def lw1 (p f : Int) (c : Cp) (x : Ld) : Prop := 1000 * (x.n.lo + x.h.lo) ≤ limM c p f
instance (p f : Int) (c : Cp) (x : Ld) : Decidable (lw1 p f c x) := by unfold lw1; infer_instance
def up1 (p f : Int) (c : Cp) (x : Ld) : Prop := 1000 * (x.n.hi + x.h.hi) ≤ limM c p f
instance (p f : Int) (c : Cp) (x : Ld) : Decidable (up1 p f c x) := by unfold up1; infer_instance
abbrev lowP (p f : Int) := all2 (lw1 p f)
abbrev holdP (p f : Int) := all2 (up1 p f)
def keptM (ts : List Cp) (ls : List Ld) (p f : Int) : Int := if ¬ lowP p f ts ls then 0 else if holdP p f ts ls then 2 else 1
theorem hold_low {ts : List Cp} {ls : List Ld} {p f : Int} (ho : ∀ y ∈ ls, ordLd y) (h : holdP p f ts ls) : lowP p f ts ls := all2_get fun k c x hc hx => by
  have h1 := all2_at h k c x hc hx
  have h2 := ho x (List.mem_of_getElem? hx)
  unfold up1 at h1
  unfold ordLd at h2
  unfold lw1
  omega
theorem keptM_prog {ts : List Cp} {ls : List Ld} {p f : Int} (ho : ∀ y ∈ ls, ordLd y) : (if decide (holdP p f ts ls) = true then (2 : Int) else if decide (¬ lowP p f ts ls) = true then 0 else 1) = keptM ts ls p f := by
  unfold keptM
  by_cases h : holdP p f ts ls
  · have := hold_low ho h
    simp [h, this]
  · by_cases h2 : lowP p f ts ls <;> simp [h, h2]
def keptE (ts : List Cp) (ls : List Ld) (p f : Int) : Int × Int := if ckLoads ts ls ≠ 0 then (0, ckLoads ts ls) else if okPr p ∧ 0 ≤ f ∧ f ≤ 1000 then (keptM ts ls p f, 0) else (0, 2)
theorem keptE_1 {ts : List Cp} {ls : List Ld} {p f : Int} (h : ckLoads ts ls ≠ 0) : keptE ts ls p f = (0, ckLoads ts ls) := if_pos h
theorem keptE_2 {ts : List Cp} {ls : List Ld} {p f : Int} (h : ¬ ckLoads ts ls ≠ 0) (h2 : ¬ (okPr p ∧ 0 ≤ f ∧ f ≤ 1000)) : keptE ts ls p f = (0, 2) := by unfold keptE; rw [if_neg h, if_neg h2]
theorem keptE_3 {ts : List Cp} {ls : List Ld} {p f : Int} (h : ¬ ckLoads ts ls ≠ 0) (h2 : okPr p ∧ 0 ≤ f ∧ f ≤ 1000) : keptE ts ls p f = (keptM ts ls p f, 0) := by unfold keptE; rw [if_neg h, if_pos h2]
def ckAt (ts : List Cp) (ls : List Ld) (p f : Int) : Int := if ckLoads ts ls ≠ 0 then ckLoads ts ls else if okPr p ∧ 0 ≤ f ∧ f ≤ 1000 then 0 else 2
theorem ckAt_ok {ts : List Cp} {ls : List Ld} {p f : Int} (h : ckAt ts ls p f = 0) : ckLoads ts ls = 0 ∧ okPr p ∧ 0 ≤ f ∧ f ≤ 1000 := by
  unfold ckAt at h
  by_cases h1 : ckLoads ts ls ≠ 0
  · rw [if_pos h1] at h; exact absurd h h1
  · rw [if_neg h1] at h
    by_cases h2 : okPr p ∧ 0 ≤ f ∧ f ≤ 1000
    · exact ⟨Decidable.not_not.1 h1, h2⟩
    · rw [if_neg h2] at h; cases h
theorem keptE_ok {ts : List Cp} {ls : List Ld} {p f : Int} (h : ckAt ts ls p f = 0) : keptE ts ls p f = (keptM ts ls p f, 0) := by
  obtain ⟨h1, h2⟩ := ckAt_ok h
  exact keptE_3 (fun hh => hh h1) h2
end Go.Proofs.YthilaakeimfedaaGreatDoor
namespace Go.Proofs.YthilaakeimfedaaGreatDoor

/-! ### Ceilings -/
theorem lim_line (c : Cp) (p f : Int) : limM c p f = limM c 0 f + p * (1000000 + f * (c.s - 1000)) := by unfold limM; grind
structure okFa (ts : List Cp) (ls : List Ld) (f : Int) : Prop where
  k : okTL ts ls
  ct : ckLoads ts ls = 0
  fb : 0 ≤ f ∧ f ≤ 1000
  e : ceilE ts ls f = (ceilF f ts ls ⟨0, 0⟩, 0)
/-! ### The legs of a plan -/
structure Dl where
  s : Int
  d : Int
  g : Int
def ckGs : List Gs → Int
  | [] => 0
  | g :: t => if ckGas g.o g.h ≠ 0 then ckGas g.o g.h else ckGs t
theorem ckGs_step {gs : List Gs} {k : Nat} {g : Gs} (h : gs[k]? = some g) : ckGs (gs.drop k) = if ckGas g.o g.h ≠ 0 then ckGas g.o g.h else ckGs (gs.drop (k + 1)) := by rw [drop_cons h]; rfl
theorem ckGs_ok : ∀ {gs : List Gs}, ckGs gs = 0 → ∀ g ∈ gs, ckGas g.o g.h = 0
  | [], _, g, hg => by cases hg
  | d :: t, h, g, hg => by
    unfold ckGs at h
    split at h
    · rename_i h1; exact absurd h h1
    · rename_i h1
      rcases List.mem_cons.1 hg with rfl | hg
      · exact Decidable.not_not.1 h1
      · exact ckGs_ok h g hg
def gasAt (gs : List Gs) (i : Int) : Gs := gs[i.toNat]?.getD ⟨0, 0⟩
def legOf (sf dep : Int) (gs : List Gs) (x : Dl) : Lg := ⟨sf + dep, sf + x.d, x.s, gasAt gs x.g⟩
def ckDl (n dep : Int) (x : Dl) : Int := if ¬ (0 ≤ x.s ∧ x.s ≤ 100000 ∧ 0 ≤ x.d ∧ x.d ≤ 30000) then 2 else if ¬ (0 ≤ x.g ∧ x.g ≤ n - 1) then 6 else if x.s = 0 ∧ x.d ≠ dep then 11 else 0
def legsF (sf : Int) (gs : List Gs) : Int → List Dl → List Lg → List Lg × Int
  | _, [], acc => (acc, 0)
  | dep, x :: t, acc => if ckDl gs.length dep x ≠ 0 then ([], ckDl gs.length dep x) else legsF sf gs x.d t (acc ++ [legOf sf dep gs x])
theorem legsF_bad {sf dep : Int} {gs : List Gs} {ls : List Dl} {acc : List Lg} {k : Nat} {x : Dl} (h : ls[k]? = some x) (hc : ckDl gs.length dep x ≠ 0) : legsF sf gs dep (ls.drop k) acc = ([], ckDl gs.length dep x) := by rw [drop_cons h]; exact if_pos hc
theorem legsF_ok {sf dep : Int} {gs : List Gs} {ls : List Dl} {acc : List Lg} {k : Nat} {x : Dl} (h : ls[k]? = some x) (hc : ckDl gs.length dep x = 0) : legsF sf gs dep (ls.drop k) acc = legsF sf gs x.d (ls.drop (k + 1)) (acc ++ [legOf sf dep gs x]) := by rw [drop_cons h]; exact if_neg (fun hh => hh hc)
theorem legsF_end {sf dep : Int} {gs : List Gs} {ls : List Dl} {acc : List Lg} {k : Nat} (h : ls.length ≤ k) : legsF sf gs dep (ls.drop k) acc = (acc, 0) := by rw [drop_all h]; rfl
def legsE (sf : Int) (gs : List Gs) (ls : List Dl) : List Lg × Int :=
  if ¬ (400 ≤ sf ∧ sf ≤ 1100) then ([], 2) else if gs.length > 8 then ([], 8) else if ckGs gs ≠ 0 then ([], ckGs gs) else if ls.length > 60 then ([], 8) else legsF sf gs 0 ls []
theorem legsE_1 {sf : Int} {gs : List Gs} {ls : List Dl} (h : ¬ (400 ≤ sf ∧ sf ≤ 1100)) : legsE sf gs ls = ([], 2) := if_pos h
theorem legsE_2 {sf : Int} {gs : List Gs} {ls : List Dl} (h : 400 ≤ sf ∧ sf ≤ 1100) (h2 : gs.length > 8) : legsE sf gs ls = ([], 8) := by unfold legsE; rw [if_neg (fun hh => hh h), if_pos h2]
theorem legsE_3 {sf : Int} {gs : List Gs} {ls : List Dl} (h : 400 ≤ sf ∧ sf ≤ 1100) (h2 : ¬ gs.length > 8) (h3 : ckGs gs ≠ 0) : legsE sf gs ls = ([], ckGs gs) := by unfold legsE; rw [if_neg (fun hh => hh h), if_neg h2, if_pos h3]
theorem legsE_4 {sf : Int} {gs : List Gs} {ls : List Dl} (h : 400 ≤ sf ∧ sf ≤ 1100) (h2 : ¬ gs.length > 8) (h3 : ckGs gs = 0) (h4 : ls.length > 60) : legsE sf gs ls = ([], 8) := by unfold legsE; rw [if_neg (fun hh => hh h), if_neg h2, if_neg (fun hh => hh h3), if_pos h4]
theorem legsE_5 {sf : Int} {gs : List Gs} {ls : List Dl} (h : 400 ≤ sf ∧ sf ≤ 1100) (h2 : ¬ gs.length > 8) (h3 : ckGs gs = 0) (h4 : ¬ ls.length > 60) : legsE sf gs ls = legsF sf gs 0 ls [] := by unfold legsE; rw [if_neg (fun hh => hh h), if_neg h2, if_neg (fun hh => hh h3), if_neg h4]
def chain : Int → List Lg → Prop
  | _, [] => True
  | at_, x :: t => x.f = at_ ∧ ckLeg x = 0 ∧ chain x.t t
def lastT : Int → List Lg → Int
  | at_, [] => at_
  | _, x :: t => lastT x.t t
theorem chain_app : ∀ {a : List Lg} {at_ : Int} {x : Lg}, chain at_ a → x.f = lastT at_ a → ckLeg x = 0 → chain at_ (a ++ [x])
  | [], _, _, _, hf, hx => ⟨hf, hx, trivial⟩
  | _ :: _, _, _, h, hf, hx => ⟨h.1, h.2.1, chain_app h.2.2 hf hx⟩
theorem lastT_app : ∀ {a : List Lg} {at_ : Int} {x : Lg}, lastT at_ (a ++ [x]) = x.t
  | [], _, _ => rfl
  | y :: a, _, _ => lastT_app (a := a) (at_ := y.t)
theorem legsF_chain {sf : Int} {gs : List Gs} (hs : 400 ≤ sf ∧ sf ≤ 1100) (hg : ckGs gs = 0) : ∀ (ls : List Dl) (dep : Int) (acc : List Lg), 0 ≤ dep ∧ dep ≤ 30000 → chain sf acc → lastT sf acc = sf + dep → chain sf (legsF sf gs dep ls acc).1 ∧ (legsF sf gs dep ls acc).1.length ≤ acc.length + ls.length
  | [], _, acc, _, hc, _ => ⟨hc, by simp [legsF]⟩
  | x :: t, dep, acc, hd, hc, hl => by
    unfold legsF
    split
    · exact ⟨trivial, by simp⟩
    · rename_i hk
      have hk := Decidable.not_not.1 hk
      have hx : ckLeg (legOf sf dep gs x) = 0 := by
        unfold ckDl at hk
        split at hk
        · cases hk
        · split at hk
          · cases hk
          · split at hk
            · cases hk
            · rename_i h1 h2 h3
              have hgi : gasAt gs x.g ∈ gs := by
                unfold gasAt
                have : x.g.toNat < gs.length := by omega
                rw [List.getElem?_eq_getElem this]
                exact List.getElem_mem this
              unfold ckLeg legOf
              rw [if_neg (by unfold okPr; dsimp only; omega), if_neg (by dsimp only; exact fun hh => hh (ckGs_ok hg _ hgi)), if_neg (by dsimp only; omega)]
      have hxd : 0 ≤ x.d ∧ x.d ≤ 30000 := by
        unfold ckDl at hk
        split at hk
        · cases hk
        · omega
      obtain ⟨i1, i2⟩ := legsF_chain hs hg t x.d (acc ++ [legOf sf dep gs x]) hxd (chain_app hc (by rw [hl]; rfl) hx) (by rw [lastT_app]; rfl)
      exact ⟨i1, by rw [List.length_append, List.length_singleton] at i2; rw [List.length_cons]; omega⟩
theorem legsE_chain (sf : Int) (gs : List Gs) (ls : List Dl) : chain sf (legsE sf gs ls).1 ∧ (legsE sf gs ls).1.length ≤ 60 := by
  unfold legsE
  split
  · exact ⟨trivial, by simp⟩
  · split
    · exact ⟨trivial, by simp⟩
    · split
      · exact ⟨trivial, by simp⟩
      · split
        · exact ⟨trivial, by simp⟩
        · rename_i h1 h2 h3 h4
          have := legsF_chain (sf := sf) (gs := gs) (by omega) (Decidable.not_not.1 h3) ls 0 [] (by omega) trivial (by simp [lastT])
          exact ⟨this.1, by have := this.2; simp only [List.length_nil] at this; omega⟩
end Go.Proofs.YthilaakeimfedaaGreatDoor
namespace Go.Proofs.YthilaakeimfedaaGreatDoor

def ckTask (ts : List Cp) (ls : List Ld) (x : Lg) (fa : Int) : Int := if ckLoads ts ls ≠ 0 then ckLoads ts ls else if ckLeg x ≠ 0 then ckLeg x else if 0 ≤ fa ∧ fa ≤ 1000 then 0 else 2
def ckFine (ts : List Cp) (ls : List Ld) (x : Lg) (fa fi : Int) : Int := if ckTask ts ls x fa ≠ 0 then ckTask ts ls x fa else if 0 ≤ fi ∧ fi ≤ 6 then 0 else 2
structure okTask (ts : List Cp) (ls : List Ld) (x : Lg) (fa : Int) : Prop where
  k : okTL ts ls
  ct : ckLoads ts ls = 0
  xx : okLg x
  cx : ckLeg x = 0
  fa : 0 ≤ fa ∧ fa ≤ 1000
theorem ckTask_ok {ts : List Cp} {ls : List Ld} {x : Lg} {g : Int} (h : ckTask ts ls x g = 0) : okTask ts ls x g := by
  unfold ckTask at h
  by_cases h1 : ckLoads ts ls ≠ 0
  · rw [if_pos h1] at h; exact absurd h h1
  · rw [if_neg h1] at h
    by_cases h2 : ckLeg x ≠ 0
    · rw [if_pos h2] at h; exact absurd h h2
    · rw [if_neg h2] at h
      by_cases h3 : 0 ≤ g ∧ g ≤ 1000
      · exact ⟨ckLoads_ok (Decidable.not_not.1 h1), Decidable.not_not.1 h1, (ckLeg_ok (Decidable.not_not.1 h2)).1, Decidable.not_not.1 h2, h3⟩
      · rw [if_neg h3] at h; cases h
theorem ckFine_ok {ts : List Cp} {ls : List Ld} {x : Lg} {g fi : Int} (h : ckFine ts ls x g fi = 0) : okTask ts ls x g ∧ 0 ≤ fi ∧ fi ≤ 6 := by
  unfold ckFine at h
  by_cases h1 : ckTask ts ls x g ≠ 0
  · rw [if_pos h1] at h; exact absurd h h1
  · rw [if_neg h1] at h
    by_cases h2 : 0 ≤ fi ∧ fi ≤ 6
    · exact ⟨ckTask_ok (Decidable.not_not.1 h1), h2⟩
    · rw [if_neg h2] at h; cases h

/-! ### Peaks -/
def peakL (x y : Ld) : Int := max x.n.hi y.n.hi + max x.h.hi y.h.hi
def pk1 (p f : Int) (c : Cp) (xy : Ld × Ld) : Prop := 1000 * peakL xy.1 xy.2 ≤ limM c p f
instance (p f : Int) (c : Cp) (xy : Ld × Ld) : Decidable (pk1 p f c xy) := by unfold pk1; infer_instance
abbrev pkP (p f : Int) (ts : List Cp) (a b : List Ld) := all2 (pk1 p f) ts (a.zip b)
theorem zip_get {α β : Type} {a : List α} {b : List β} {k : Nat} {x : α} {y : β} (h1 : a[k]? = some x) (h2 : b[k]? = some y) : (a.zip b)[k]? = some (x, y) := by rw [List.getElem?_zip_eq_some]; exact ⟨h1, h2⟩
def prevM (f : Nat) (ts : List Cp) (ls : List Ld) (x : Lg) (n : Nat) : Nat → List Ld
  | 0 => ls
  | k + 1 => stM f ts ls x n k
def yesB (fa : Int) (f : Nat) (ts : List Cp) (ls : List Ld) (x : Lg) (n : Nat) : Nat → Bool
  | 0 => true
  | k + 1 => yesB fa f ts ls x n k && decide (pkP (lowM x n k) fa ts (prevM f ts ls x n k) (stM f ts ls x n k))
def noB (fa : Int) (f : Nat) (ts : List Cp) (ls : List Ld) (x : Lg) (n : Nat) : Nat → Bool
  | 0 => false
  | k + 1 => noB fa f ts ls x n k || decide (¬ lowP (mkM x n k).p.hi fa ts (stM f ts ls x n k))
def rmkN (x : Lg) (n : Nat) : Nat := if x.s = 0 then 1 else n + 1
def ansM (y n : Bool) : Int := if y = true then 2 else if n = true then 0 else 1
def keptT (ts : List Cp) (ls : List Ld) (x : Lg) (fa : Int) (f : Nat) : Int := ansM (yesB fa f ts ls x (2 ^ f) (rmkN x (2 ^ f))) (noB fa f ts ls x (2 ^ f) (rmkN x (2 ^ f)))
theorem yesB_iff {fa : Int} {f : Nat} {ts : List Cp} {ls : List Ld} {x : Lg} {n : Nat} : ∀ {k : Nat}, yesB fa f ts ls x n k = true ↔ ∀ j, j < k → pkP (lowM x n j) fa ts (prevM f ts ls x n j) (stM f ts ls x n j)
  | 0 => by simp [yesB]
  | k + 1 => by
    unfold yesB
    rw [Bool.and_eq_true, yesB_iff, decide_eq_true_eq]
    constructor
    · rintro ⟨h1, h2⟩ j hj
      rcases Nat.lt_succ_iff_lt_or_eq.1 hj with h | rfl
      · exact h1 j h
      · exact h2
    · exact fun h => ⟨fun j hj => h j (by omega), h k (by omega)⟩
theorem lim_up {c : Cp} {p q f : Int} (hc : okCp c) (hf : 0 ≤ f ∧ f ≤ 1000) (hpq : p ≤ q) : limM c p f ≤ limM c q f := by
  rw [lim_line c p f, lim_line c q f]
  have := rise_in hc hf
  have := Int.mul_le_mul_of_nonneg_right hpq (show 0 ≤ 1000000 + f * (c.s - 1000) by omega)
  omega
theorem low_le {x : Lg} {n j : Nat} (h : okLg x) (hn : 1 ≤ n ∧ n ≤ 64) (hj : j ≤ n) : lowM x n j ≤ (mkM x n j).p.lo ∧ (mkM x n j).p.lo ≤ (mkM x n j).p.hi ∧ 400 ≤ lowM x n j ∧ (mkM x n j).p.hi ≤ 31100 := by
  have h1 := mk_in (j := (j : Int)) h (n := (n : Int)) (by omega) (by omega)
  cases j with
  | zero =>
    have e : lowM x n 0 = (mkM x n (0 : Nat)).p.lo := rfl
    rw [e]
    omega
  | succ k =>
    have h2 := mk_in (j := (k : Int)) h (n := (n : Int)) (by omega) (by omega)
    have e2 : lowM x n (k + 1) = min (mkM x n k).p.lo (mkM x n ((k : Int) + 1)).p.lo := rfl
    have e : (((k + 1 : Nat) : Int)) = (k : Int) + 1 := by omega
    rw [e2]
    rw [e] at h1 ⊢
    omega
structure onTask (ts : List Cp) (ls : List Ld) (x : Lg) (fa : Int) (f n : Nat) : Prop where
  t : okTask ts ls x fa
  fb : f ≤ 6
  nb : n = 2 ^ f
theorem prevM_len {f : Nat} {ts : List Cp} {ls : List Ld} {x : Lg} {n : Nat} (h : ls.length = ts.length) : ∀ k, (prevM f ts ls x n k).length = ts.length
  | 0 => h
  | k + 1 => stM_len h k
def keptTE (ts : List Cp) (ls : List Ld) (x : Lg) (fa fi : Int) : Int × Int := if ckFine ts ls x fa fi ≠ 0 then (0, ckFine ts ls x fa fi) else (keptT ts ls x fa fi.toNat, 0)
theorem keptTE_1 {ts : List Cp} {ls : List Ld} {x : Lg} {g fi : Int} (h : ckFine ts ls x g fi ≠ 0) : keptTE ts ls x g fi = (0, ckFine ts ls x g fi) := if_pos h
theorem keptTE_2 {ts : List Cp} {ls : List Ld} {x : Lg} {g : Int} {f : Nat} (h : ckFine ts ls x g (f : Int) = 0) : keptTE ts ls x g (f : Int) = (keptT ts ls x g f, 0) := if_neg (fun hh => hh h)

/-! ### The greatest peaks -/
def pkL (a b : List Ld) : List Int := List.zipWith peakL a b
def peaksK (f : Nat) (ts : List Cp) (ls : List Ld) (x : Lg) (n : Nat) : Nat → List Int
  | 0 => List.replicate ts.length 0
  | k + 1 => List.zipWith max (peaksK f ts ls x n k) (pkL (prevM f ts ls x n k) (stM f ts ls x n k))
def peaksT (ts : List Cp) (ls : List Ld) (x : Lg) (f : Nat) : List Int := peaksK f ts ls x (2 ^ f) (rmkN x (2 ^ f))
theorem peak_in {a b : Ld} (ha : inLd a) (hb : inLd b) : 0 ≤ peakL a b ∧ peakL a b ≤ 200000000 := by
  obtain ⟨⟨a1, a2, a3, a4⟩, ⟨a5, a6, a7, a8⟩⟩ := ha
  obtain ⟨⟨b1, b2, b3, b4⟩, ⟨b5, b6, b7, b8⟩⟩ := hb
  unfold peakL
  omega
theorem prevM_in {f : Nat} {ts : List Cp} {ls : List Ld} {x : Lg} {n : Nat} (hx : okLg x) (hn : 1 ≤ n ∧ n ≤ 64) (hl : ∀ y ∈ ls, inLd y) : ∀ k, k ≤ n + 1 → ∀ y ∈ prevM f ts ls x n k, inLd y
  | 0, _ => hl
  | k + 1, hk => stM_in hx hn hl k (by omega)
theorem stM_ok {ts : List Cp} {ls : List Ld} {x : Lg} {g : Int} {f n : Nat} (H : onTask ts ls x g f n) {k : Nat} (hk : k ≤ n) : okTL ts (stM f ts ls x n k) :=
  ⟨H.t.k.a, H.t.k.b, stM_len H.t.k.len k, H.t.k.c, stM_in H.t.xx (two_f H.fb H.nb) H.t.k.x k hk, stM_ord H.t.xx (two_f H.fb H.nb) H.t.k.c H.t.k.o k hk⟩
theorem bool_iff {a b : Bool} (h : a = true ↔ b = true) : a = b := by cases a <;> cases b <;> simp_all
theorem yesB_next {fa : Int} {f : Nat} {ts : List Cp} {ls : List Ld} {x : Lg} {n k : Nat} {b : Bool} (h : b = true ↔ yesB fa f ts ls x n k = true ∧ pkP (lowM x n k) fa ts (prevM f ts ls x n k) (stM f ts ls x n k)) : b = yesB fa f ts ls x n (k + 1) :=
  bool_iff (by unfold yesB; rw [Bool.and_eq_true, decide_eq_true_eq]; exact h)
theorem noB_t {fa : Int} {f : Nat} {ts : List Cp} {ls : List Ld} {x : Lg} {n k : Nat} (h : noB fa f ts ls x n k = true) : noB fa f ts ls x n (k + 1) = true := by unfold noB; rw [h]; rfl
theorem noB_f {fa : Int} {f : Nat} {ts : List Cp} {ls : List Ld} {x : Lg} {n k : Nat} (h : noB fa f ts ls x n k = false) : noB fa f ts ls x n (k + 1) = decide (¬ lowP (mkM x n k).p.hi fa ts (stM f ts ls x n k)) := by
  conv => lhs; unfold noB
  rw [h, Bool.false_or]
theorem kept_no {ts : List Cp} {ls : List Ld} {p f : Int} : keptM ts ls p f = 0 ↔ ¬ lowP p f ts ls := by
  unfold keptM
  by_cases h : lowP p f ts ls
  · rw [if_neg (fun hh => hh h)]
    by_cases h2 : holdP p f ts ls
    · rw [if_pos h2]; simp [h]
    · rw [if_neg h2]; simp [h]
  · rw [if_pos h]; simp [h]
def decF (ts : List Cp) (ls : List Ld) (x : Lg) (fa : Int) (m : Nat) : Nat → Int × Int
  | 0 => (1, m)
  | j + 1 => if keptT ts ls x fa (m - j) ≠ 1 then (keptT ts ls x fa (m - j), ((m - j : Nat) : Int)) else decF ts ls x fa m j
def decT (ts : List Cp) (ls : List Ld) (x : Lg) (fa : Int) (m : Nat) : Int × Int := decF ts ls x fa m (m + 1)
theorem decF_step {ts : List Cp} {ls : List Ld} {x : Lg} {fa : Int} {m k : Nat} (hk : k ≤ m) : decF ts ls x fa m (m + 1 - k) = if keptT ts ls x fa k ≠ 1 then (keptT ts ls x fa k, (k : Int)) else decF ts ls x fa m (m + 1 - (k + 1)) := by
  rw [show m + 1 - k = (m + 1 - (k + 1)) + 1 by omega]
  conv => lhs; unfold decF
  rw [show m - (m + 1 - (k + 1)) = k by omega]
def decE_ (ts : List Cp) (ls : List Ld) (x : Lg) (fa fi : Int) : (Int × Int) × Int := if ckFine ts ls x fa fi ≠ 0 then ((0, 0), ckFine ts ls x fa fi) else (decT ts ls x fa fi.toNat, 0)
theorem decE_1 {ts : List Cp} {ls : List Ld} {x : Lg} {g fi : Int} (h : ckFine ts ls x g fi ≠ 0) : decE_ ts ls x g fi = ((0, 0), ckFine ts ls x g fi) := if_pos h
theorem decE_2 {ts : List Cp} {ls : List Ld} {x : Lg} {g : Int} {f : Nat} (h : ckFine ts ls x g (f : Int) = 0) : decE_ ts ls x g (f : Int) = (decT ts ls x g f, 0) := if_neg (fun hh => hh h)
end Go.Proofs.YthilaakeimfedaaGreatDoor
