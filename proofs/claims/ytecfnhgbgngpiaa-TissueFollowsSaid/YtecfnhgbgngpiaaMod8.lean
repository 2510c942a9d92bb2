/-
  Plain models of chapter 3: peaks, and whether a task is kept. Conditions: none; no program in sight.
-/
import Derived.Test.YtecfnhgbgngpiaaTraj3
namespace Go.Proofs.Ytecfnhgbgngpiaa

/-! ### Modulo -/
theorem emod_yes {n b : Int} (hb : 1 ≤ b) (h : n.tmod b < 0) : n.tmod b + b = n % b := by
  have h1 := Int.mul_tdiv_add_tmod n b
  have h2 := Int.lt_tmod_of_pos n (show 0 < b by omega)
  have h3 : (n.tmod b + b) + b * (n.tdiv b - 1) = n := by rw [Int.mul_sub, Int.mul_one]; omega
  exact ((Int.ediv_emod_unique (show 0 < b by omega)).2 ⟨h3, by omega, by omega⟩).2.symm
theorem emod_no {n b : Int} (hb : 1 ≤ b) (h : ¬ n.tmod b < 0) : n.tmod b = n % b := by
  have h1 := Int.mul_tdiv_add_tmod n b
  have h2 := Int.tmod_lt_of_pos n (show 0 < b by omega)
  have h3 : n.tmod b + b * n.tdiv b = n := by omega
  exact ((Int.ediv_emod_unique (show 0 < b by omega)).2 ⟨h3, by omega, by omega⟩).2.symm
theorem tmod_in {n b : Int} (hb : 1 ≤ b) : -b < n.tmod b ∧ n.tmod b < b := ⟨Int.lt_tmod_of_pos n (by omega), Int.tmod_lt_of_pos n (by omega)⟩

/-! ### Products of decays -/
theorem decayM_cases {s h l : Int} (hs : 0 ≤ s ∧ s ≤ 1000000) : ((decayM s h l).2 = 0 ∧ 1 ≤ h ∧ h ≤ 100000 ∧ 0 ≤ l ∧ l ≤ 24) ∨ ((decayM s h l).2 = 2 ∧ ¬ (1 ≤ h ∧ h ≤ 100000 ∧ 0 ≤ l ∧ l ≤ 24)) := by
  unfold decayM
  split
  · exact .inl ⟨rfl, by omega⟩
  · exact .inr ⟨rfl, by omega⟩
theorem decayM_1 {s h : Int} {n : Nat} (hc : 0 ≤ s ∧ s ≤ 1000000 ∧ 1 ≤ h ∧ h ≤ 100000 ∧ n ≤ 24) : (decayM s h (n : Int)).1 = decM s h n := congrArg Prod.fst (decayM_yes hc)
theorem decs_mul {a b h : Int} (n0 n1 n2 : Nat) (ha : 0 ≤ a) (hb : 0 ≤ b) (hh : 1 ≤ h) :
    (decM a h n0).lo * (decM b h n1).lo ≤ (decM (a + b) h n2).hi * 1000000000 ∧ (decM (a + b) h n2).lo * 1000000000 ≤ (decM a h n0).hi * (decM b h n1).hi ∧ (decM (a + b) h n2).lo ≤ (decM a h n0).hi ∧ (decM (a + b) h n2).lo ≤ (decM b h n1).hi := by
  obtain ⟨a, rfl⟩ := Int.eq_ofNat_of_zero_le ha
  obtain ⟨b, rfl⟩ := Int.eq_ofNat_of_zero_le hb
  obtain ⟨h, rfl⟩ := Int.eq_ofNat_of_zero_le (show 0 ≤ h by omega)
  have hh' : 1 ≤ h := by omega
  obtain ⟨a1, a2⟩ := decM_enc (s := a) (h := h) n0 hh'
  obtain ⟨b1, b2⟩ := decM_enc (s := b) (h := h) n1 hh'
  obtain ⟨c1, c2⟩ := decM_enc (s := a + b) (h := h) n2 hh'
  rw [show (((a + b : Nat) : Int)) = (a : Int) + (b : Int) by omega] at c1 c2
  have da := decM_in a h n0
  have db := decM_in b h n1
  have dc := decM_in ((a : Int) + (b : Int)) h n2
  have ta := two_rpow_ge a
  have tb := two_rpow_ge b
  rw [rpow_add] at c1 c2
  have pos : (0 : Rat) < 2 ^ a * 2 ^ b := Rat.mul_pos (by grind) (by grind)
  have fa := fr_nn da.a
  have fb := fr_nn db.a
  have ga := fr_nn da.c
  have gb := fr_nn db.c
  have gc := fr_nn dc.c
  have x1 := fr_mul (decM a h n0).lo
  have x2 := fr_mul (decM b h n1).lo
  have x3 := fr_mul (decM ((a : Int) + (b : Int)) h n2).hi
  have x4 := fr_mul (decM ((a : Int) + (b : Int)) h n2).lo
  have x5 := fr_mul (decM a h n0).hi
  have x6 := fr_mul (decM b h n1).hi
  have w9 : ((1000000000 : Int) : Rat) = 1000000000 := rfl
  have k1 : fr (decM a h n0).lo * fr (decM b h n1).lo ≤ fr (decM ((a : Int) + (b : Int)) h n2).hi := by
    refine rroot_le (n := h) hh' gc (Rat.le_of_mul_le_mul_right (c := 2 ^ a * 2 ^ b) ?_ pos)
    refine Rat.le_trans ?_ c2
    rw [mul_rpow]
    have := rmul_le_one a1 b1 (Rat.mul_nonneg (Rat.pow_nonneg fa) (by grind)) (Rat.mul_nonneg (Rat.pow_nonneg fb) (by grind))
    grind
  have k2 : fr (decM ((a : Int) + (b : Int)) h n2).lo ≤ fr (decM a h n0).hi * fr (decM b h n1).hi := by
    refine rroot_le (n := h) hh' (Rat.mul_nonneg ga gb) (Rat.le_of_mul_le_mul_right (c := 2 ^ a * 2 ^ b) ?_ pos)
    refine Rat.le_trans c1 ?_
    rw [mul_rpow]
    have := rmul_one_le a2 b2
    grind
  have k3 : fr (decM a h n0).hi * fr (decM b h n1).hi ≤ fr (decM a h n0).hi := by
    have := Rat.mul_le_mul_of_nonneg_left (fr_one_le db.e) ga
    grind
  have k4 : fr (decM a h n0).hi * fr (decM b h n1).hi ≤ fr (decM b h n1).hi := by
    have := Rat.mul_le_mul_of_nonneg_right (fr_one_le da.e) gb
    grind
  refine ⟨Rat.intCast_le_intCast.1 ?_, Rat.intCast_le_intCast.1 ?_, le_fr (Rat.le_trans k2 k3), le_fr (Rat.le_trans k2 k4)⟩
  · rw [Rat.intCast_mul, Rat.intCast_mul, ← x1, ← x2, ← x3, w9]
    grind
  · rw [Rat.intCast_mul, Rat.intCast_mul, ← x4, ← x5, ← x6, w9]
    grind

/-! ### Rests -/
theorem restE_nil {ts : List Cp} {ls : List Ld} {p s : Int} (h : (restE ts ls p s).2 ≠ 0) : (restE ts ls p s).1 = [] := by
  unfold restE at h ⊢
  by_cases h1 : ckLoads ts ls ≠ 0
  · rw [if_pos h1]
  · rw [if_neg h1] at h ⊢
    by_cases h2 : 400 ≤ p ∧ p ≤ 1100 ∧ 0 ≤ s ∧ s ≤ 1000000
    · rw [if_pos h2] at h; exact absurd rfl h
    · rw [if_neg h2]
structure okRest (ts : List Cp) (ls : List Ld) (p s : Int) : Prop where
  k : okTL ts ls
  ct : ckLoads ts ls = 0
  r : 400 ≤ p ∧ p ≤ 1100 ∧ 0 ≤ s ∧ s ≤ 1000000
  e : restE ts ls p s = (restM ts ls p s, 0)
theorem restE_ok {ts : List Cp} {ls : List Ld} {p s : Int} (h : (restE ts ls p s).2 = 0) : okRest ts ls p s := by
  rw [restE_snd] at h
  by_cases h1 : ckLoads ts ls ≠ 0
  · rw [if_pos h1] at h; exact absurd h h1
  · rw [if_neg h1] at h
    by_cases h2 : 400 ≤ p ∧ p ≤ 1100 ∧ 0 ≤ s ∧ s ≤ 1000000
    · exact ⟨ckLoads_ok (Decidable.not_not.1 h1), Decidable.not_not.1 h1, h2, restE_3 h1 h2⟩
    · rw [if_neg h2] at h; cases h
theorem restM_len {ts : List Cp} {ls : List Ld} {p s : Int} (h : ls.length = ts.length) : (restM ts ls p s).length = ts.length := stepM_len h
theorem rest_leg {ts : List Cp} {ls : List Ld} {p s : Int} (h : okRest ts ls p s) (hs : s ≤ 100000) : loadedE ts ls ⟨p, p, s, ⟨210, 0⟩⟩ 3 = (loadedM ts ls ⟨p, p, s, ⟨210, 0⟩⟩ 3, 0) := by
  have hr := h.r
  have hx : ckLeg ⟨p, p, s, ⟨210, 0⟩⟩ = 0 := by
    unfold ckLeg
    rw [if_neg (by unfold okPr; dsimp only; omega), if_neg (show ¬ ckGas 210 0 ≠ 0 by decide), if_neg (by dsimp only; omega)]
  exact loadedE_4 (f := 3) (fun hh => hh h.ct) (fun hh => hh hx) (by decide)

/-! ### Single numbers out of loads -/
def ownL (z : Ld) (p : Int) : Ld := ⟨⟨z.n.lo + p % (z.n.hi - z.n.lo + 1), z.n.lo + p % (z.n.hi - z.n.lo + 1)⟩, ⟨z.h.lo + p % (z.h.hi - z.h.lo + 1), z.h.lo + p % (z.h.hi - z.h.lo + 1)⟩⟩
def ownM (ls : List Ld) (ns : List Int) : List Ld := ls.mapIdx fun i z => ownL z (ns[i]?.getD 0)
theorem ownM_len (ls : List Ld) (ns : List Int) : (ownM ls ns).length = ls.length := by simp [ownM]
theorem ownM_get {ls : List Ld} {ns : List Int} {k : Nat} {z : Ld} (h : ls[k]? = some z) : (ownM ls ns)[k]? = some (ownL z (ns[k]?.getD 0)) := by
  unfold ownM
  rw [List.getElem?_mapIdx, h]
  rfl
theorem ownL_in {z : Ld} (p : Int) (ho : ordLd z) : in1 (ownL z p) z ∧ oneLoad (ownL z p) := by
  have h1 := Int.emod_nonneg p (show z.n.hi - z.n.lo + 1 ≠ 0 by have := ho.1; omega)
  have h2 := Int.emod_lt_of_pos p (show 0 < z.n.hi - z.n.lo + 1 by have := ho.1; omega)
  have h3 := Int.emod_nonneg p (show z.h.hi - z.h.lo + 1 ≠ 0 by have := ho.2; omega)
  have h4 := Int.emod_lt_of_pos p (show 0 < z.h.hi - z.h.lo + 1 by have := ho.2; omega)
  unfold in1 ownL oneLoad
  dsimp only
  omega
theorem ownM_all {ls : List Ld} {ns : List Int} (ho : ∀ y ∈ ls, ordLd y) : insP (ownM ls ns) ls ∧ (∀ o ∈ ownM ls ns, oneLoad o ∧ ∃ z ∈ ls, in1 o z) := by
  constructor
  · refine all2_get fun k o z h1 h2 => ?_
    rw [ownM_get h2] at h1
    injection h1 with h1
    subst h1
    exact (ownL_in _ (ho z (List.mem_of_getElem? h2))).1
  · intro o h
    obtain ⟨k, hk, rfl⟩ := List.getElem_of_mem h
    have hkl : k < ls.length := by rw [ownM_len] at hk; exact hk
    have h3 := ownM_get (ns := ns) (List.getElem?_eq_getElem hkl)
    rw [List.getElem?_eq_getElem hk] at h3
    injection h3 with h3
    rw [h3]
    have := ownL_in (ns[k]?.getD 0) (ho ls[k] (List.getElem_mem hkl))
    exact ⟨this.2, ls[k], List.getElem_mem hkl, this.1⟩
theorem own_ok {ts : List Cp} {ls : List Ld} {ns : List Int} (h : okTL ts ls) : okTL ts (ownM ls ns) := by
  obtain ⟨_, h2⟩ := ownM_all (ns := ns) h.o
  refine ⟨h.a, h.b, by rw [ownM_len]; exact h.len, h.c, fun o ho => ?_, fun o ho => ?_⟩
  · obtain ⟨a, z, hz, hi⟩ := h2 o ho
    obtain ⟨⟨a1, a2, a3, a4⟩, ⟨b1, b2, b3, b4⟩⟩ := h.x z hz
    unfold oneLoad at a
    unfold in1 at hi
    exact ⟨⟨by omega, by omega, by omega, by omega⟩, ⟨by omega, by omega, by omega, by omega⟩⟩
  · obtain ⟨a, _⟩ := h2 o ho
    unfold oneLoad at a
    unfold ordLd
    omega
theorem insC_ok {ts : List Cp} {a b : List Ld} (ha : okTL ts a) (hb : okTL ts b) : insC a b = 0 := by
  unfold insC
  rw [if_neg (by have := ha.len; have := hb.len; omega), if_neg (fun hh => hh (ckLds_mk ha.x ha.o))]
  exact ckLds_mk hb.x hb.o
theorem okDv_own {ts : List Cp} {ls : List Ld} {x : Lg} {f : Int} (ns : List Int) (h : okDv ts ls x f) : okDv ts (ownM ls ns) x f := ⟨own_ok h.k, h.xx, h.z, h.f, ckLoads_mk (own_ok h.k), h.cx⟩
theorem own_inside {ts : List Cp} {ls : List Ld} {ns : List Int} {x : Lg} {f : Nat} (h : okTL ts ls) (hx : okLg x) (hf : f ≤ 6) : insV (loadedM ts (ownM ls ns) x f) (loadedM ts ls x f) = true :=
  decide_eq_true ⟨insC_ok (loaded_ok (own_ok h) hx hf) (loaded_ok h hx hf), loaded_sub h (own_ok h).len (ownM_all h.o).1⟩
theorem own_meet {ts : List Cp} {ls : List Ld} {ns : List Int} {x : Lg} {f g : Nat} (h : okTL ts ls) (hx : okLg x) (hf : f ≤ 6) (hg : g ≤ 6) : meetP (loadedM ts (ownM ls ns) x f) (loadedM ts ls x g) :=
  loaded_own h hx hf hg (own_ok h).len (ownM_all h.o).1 (fun o ho => ((ownM_all h.o).2 o ho).1) (own_ok h).x

/-! ### Limits kept -/
def lw1 (p f : Int) (c : Cp) (x : Ld) : Prop := 1000 * (x.n.lo + x.h.lo) ≤ limM c p f
instance (p f : Int) (c : Cp) (x : Ld) : Decidable (lw1 p f c x) := by unfold lw1; infer_instance
def up1 (p f : Int) (c : Cp) (x : Ld) : Prop := 1000 * (x.n.hi + x.h.hi) ≤ limM c p f
instance (p f : Int) (c : Cp) (x : Ld) : Decidable (up1 p f c x) := by unfold up1; infer_instance
/-- not surely broken; surely kept -/
abbrev lowP (p f : Int) := all2 (lw1 p f)
abbrev holdP (p f : Int) := all2 (up1 p f)
def keptM (ts : List Cp) (ls : List Ld) (p f : Int) : Int := if ¬ lowP p f ts ls then 0 else if holdP p f ts ls then 2 else 1
theorem hold_low {ts : List Cp} {ls : List Ld} {p f : Int} (ho : ∀ y ∈ ls, ordLd y) (h : holdP p f ts ls) : lowP p f ts ls := all2_get fun k c x hc hx => by
  have h1 := all2_at h k c x hc hx
  have h2 := ho x (List.mem_of_getElem? hx)
  unfold up1 at h1
  unfold ordLd at h2
  unfold lw1
  omega
theorem keptM_prog {ts : List Cp} {ls : List Ld} {p f : Int} (ho : ∀ y ∈ ls, ordLd y) : (if decide (holdP p f ts ls) = true then (2 : Int) else if decide (¬ lowP p f ts ls) = true then 0 else 1) = keptM ts ls p f := by
  unfold keptM
  by_cases h : holdP p f ts ls
  · have := hold_low ho h
    simp [h, this]
  · by_cases h2 : lowP p f ts ls <;> simp [h, h2]
def keptE (ts : List Cp) (ls : List Ld) (p f : Int) : Int × Int := if ckLoads ts ls ≠ 0 then (0, ckLoads ts ls) else if okPr p ∧ 0 ≤ f ∧ f ≤ 1000 then (keptM ts ls p f, 0) else (0, 2)
theorem keptE_1 {ts : List Cp} {ls : List Ld} {p f : Int} (h : ckLoads ts ls ≠ 0) : keptE ts ls p f = (0, ckLoads ts ls) := if_pos h
theorem keptE_2 {ts : List Cp} {ls : List Ld} {p f : Int} (h : ¬ ckLoads ts ls ≠ 0) (h2 : ¬ (okPr p ∧ 0 ≤ f ∧ f ≤ 1000)) : keptE ts ls p f = (0, 2) := by unfold keptE; rw [if_neg h, if_neg h2]
theorem keptE_3 {ts : List Cp} {ls : List Ld} {p f : Int} (h : ¬ ckLoads ts ls ≠ 0) (h2 : okPr p ∧ 0 ≤ f ∧ f ≤ 1000) : keptE ts ls p f = (keptM ts ls p f, 0) := by unfold keptE; rw [if_neg h, if_pos h2]
def limE (c : Cp) (p f : Int) : Rg × Int := if okCp c ∧ okPr p ∧ 0 ≤ f ∧ f ≤ 1000 then (⟨limM c p f / 1000, upZ (limM c p f) 1000⟩, 0) else (⟨0, 0⟩, 2)
theorem limE_1 {c : Cp} {p f : Int} (h : ¬ (okCp c ∧ okPr p ∧ 0 ≤ f ∧ f ≤ 1000)) : limE c p f = (⟨0, 0⟩, 2) := if_neg h
theorem limE_2 {c : Cp} {p f : Int} (h : okCp c ∧ okPr p ∧ 0 ≤ f ∧ f ≤ 1000) : limE c p f = (⟨limM c p f / 1000, upZ (limM c p f) 1000⟩, 0) := if_pos h
/-- the error of loads, a pressure and a factor -/
def ckAt (ts : List Cp) (ls : List Ld) (p f : Int) : Int := if ckLoads ts ls ≠ 0 then ckLoads ts ls else if okPr p ∧ 0 ≤ f ∧ f ≤ 1000 then 0 else 2
theorem keptE_snd (ts : List Cp) (ls : List Ld) (p f : Int) : (keptE ts ls p f).2 = ckAt ts ls p f := by
  unfold keptE ckAt
  (repeat' split) <;> rfl
theorem keptE_fst {ts : List Cp} {ls : List Ld} {p f : Int} (h : ckAt ts ls p f ≠ 0) : (keptE ts ls p f).1 = 0 := by
  unfold ckAt at h
  unfold keptE
  by_cases h1 : ckLoads ts ls ≠ 0
  · rw [if_pos h1]
  · rw [if_neg h1] at h ⊢
    by_cases h2 : okPr p ∧ 0 ≤ f ∧ f ≤ 1000
    · rw [if_pos h2] at h; exact absurd rfl h
    · rw [if_neg h2]
theorem ckAt_ok {ts : List Cp} {ls : List Ld} {p f : Int} (h : ckAt ts ls p f = 0) : ckLoads ts ls = 0 ∧ okPr p ∧ 0 ≤ f ∧ f ≤ 1000 := by
  unfold ckAt at h
  by_cases h1 : ckLoads ts ls ≠ 0
  · rw [if_pos h1] at h; exact absurd h h1
  · rw [if_neg h1] at h
    by_cases h2 : okPr p ∧ 0 ≤ f ∧ f ≤ 1000
    · exact ⟨Decidable.not_not.1 h1, h2⟩
    · rw [if_neg h2] at h; cases h
theorem keptE_ok {ts : List Cp} {ls : List Ld} {p f : Int} (h : ckAt ts ls p f = 0) : keptE ts ls p f = (keptM ts ls p f, 0) := by
  obtain ⟨h1, h2⟩ := ckAt_ok h
  exact keptE_3 (fun hh => hh h1) h2
end Go.Proofs.Ytecfnhgbgngpiaa
namespace Go.Proofs.Ytecfnhgbgngpiaa

/-! ### Ceilings -/
theorem lim_line (c : Cp) (p f : Int) : limM c p f = limM c 0 f + p * (1000000 + f * (c.s - 1000)) := by unfold limM; grind
theorem ceil_iff {c : Cp} {z f p : Int} (hc : okCp c) (hf : 0 ≤ f ∧ f ≤ 1000) (hp : 0 ≤ p) : ceilL c z f ≤ p ↔ 1000 * z ≤ limM c p f := by
  have hr := rise_in hc hf
  rw [lim_line c p f]
  unfold ceilL
  rw [lim_rise]
  have hR : 0 < 1000000 + f * (c.s - 1000) := by omega
  generalize limM c 0 f = b
  generalize 1000000 + f * (c.s - 1000) = R at hR
  have h0 : 0 ≤ p * R := Int.mul_nonneg hp (by omega)
  have key : upZ (max 0 (1000 * z - b)) R ≤ p ↔ max 0 (1000 * z - b) ≤ p * R := by
    unfold upZ
    constructor
    · intro h
      have h1 := Int.mul_ediv_add_emod (max 0 (1000 * z - b) + R - 1) R
      have h2 := Int.emod_lt_of_pos (max 0 (1000 * z - b) + R - 1) hR
      have h3 := Int.mul_le_mul_of_nonneg_left h (show 0 ≤ R by omega)
      have h4 : R * p = p * R := Int.mul_comm _ _
      omega
    · intro h
      have h9 : (p + 1) * R = p * R + R := by grind
      have h1 : (max 0 (1000 * z - b) + R - 1) / R < p + 1 := Int.ediv_lt_of_lt_mul hR (by omega)
      omega
  rw [key]
  omega
theorem ceil_nn {c : Cp} {z f : Int} (hc : okCp c) (hf : 0 ≤ f ∧ f ≤ 1000) : 0 ≤ ceilL c z f := by
  have hr := rise_in hc hf
  unfold ceilL upZ
  rw [lim_rise]
  exact Int.ediv_nonneg (by omega) (by omega)
theorem ceilF_lo {f p : Int} : ∀ {ts : List Cp} {ls : List Ld} {r : Rg}, (ceilF f ts ls r).lo ≤ p ↔ r.lo ≤ p ∧ all2 (fun c (x : Ld) => ceilL c (x.n.lo + x.h.lo) f ≤ p) ts ls
  | c :: ts, x :: ls, r => by
    unfold ceilF
    rw [ceilF_lo]
    show _ ∧ _ ↔ _ ∧ (_ ∧ _)
    dsimp only
    constructor
    · rintro ⟨h1, h2⟩; exact ⟨by omega, by omega, h2⟩
    · rintro ⟨h1, h2, h3⟩; exact ⟨by omega, h3⟩
  | [], _, r => by simp [ceilF, all2]
  | _ :: _, [], r => by simp [ceilF, all2]
theorem ceilF_hi {f p : Int} : ∀ {ts : List Cp} {ls : List Ld} {r : Rg}, (ceilF f ts ls r).hi ≤ p ↔ r.hi ≤ p ∧ all2 (fun c (x : Ld) => ceilL c (x.n.hi + x.h.hi) f ≤ p) ts ls
  | c :: ts, x :: ls, r => by
    unfold ceilF
    rw [ceilF_hi]
    show _ ∧ _ ↔ _ ∧ (_ ∧ _)
    dsimp only
    constructor
    · rintro ⟨h1, h2⟩; exact ⟨by omega, by omega, h2⟩
    · rintro ⟨h1, h2, h3⟩; exact ⟨by omega, h3⟩
  | [], _, r => by simp [ceilF, all2]
  | _ :: _, [], r => by simp [ceilF, all2]
theorem all2_iff {α β : Type} {R S : α → β → Prop} : ∀ {a : List α} {b : List β}, (∀ x ∈ a, ∀ y ∈ b, (R x y ↔ S x y)) → (all2 R a b ↔ all2 S a b)
  | x :: a, y :: b, h => by
    show _ ∧ _ ↔ _ ∧ _
    rw [h x List.mem_cons_self y List.mem_cons_self, all2_iff (a := a) (b := b) (fun u hu v hv => h u (List.mem_cons_of_mem _ hu) v (List.mem_cons_of_mem _ hv))]
  | [], _, _ => by simp [all2]
  | _ :: _, [], _ => by simp [all2]
theorem ceil_low {ts : List Cp} {ls : List Ld} {f p : Int} (h : ∀ c ∈ ts, okCp c) (hf : 0 ≤ f ∧ f ≤ 1000) (hp : 0 ≤ p) : (ceilF f ts ls ⟨0, 0⟩).lo ≤ p ↔ lowP p f ts ls := by
  rw [ceilF_lo]
  have := all2_iff (R := fun c (x : Ld) => ceilL c (x.n.lo + x.h.lo) f ≤ p) (S := lw1 p f) (a := ts) (b := ls) (fun c hc x _ => ceil_iff (h c hc) hf hp)
  rw [this]
  exact ⟨fun h => h.2, fun h => ⟨hp, h⟩⟩
theorem ceil_hold {ts : List Cp} {ls : List Ld} {f p : Int} (h : ∀ c ∈ ts, okCp c) (hf : 0 ≤ f ∧ f ≤ 1000) (hp : 0 ≤ p) : (ceilF f ts ls ⟨0, 0⟩).hi ≤ p ↔ holdP p f ts ls := by
  rw [ceilF_hi]
  have := all2_iff (R := fun c (x : Ld) => ceilL c (x.n.hi + x.h.hi) f ≤ p) (S := up1 p f) (a := ts) (b := ls) (fun c hc x _ => ceil_iff (h c hc) hf hp)
  rw [this]
  exact ⟨fun h => h.2, fun h => ⟨hp, h⟩⟩
theorem ceilF_nn {f : Int} : ∀ {ts : List Cp} {ls : List Ld} {r : Rg}, r.lo ≤ (ceilF f ts ls r).lo ∧ r.hi ≤ (ceilF f ts ls r).hi
  | c :: ts, x :: ls, r => by
    unfold ceilF
    have := ceilF_nn (f := f) (ts := ts) (ls := ls) (r := ⟨max r.lo (ceilL c (x.n.lo + x.h.lo) f), max r.hi (ceilL c (x.n.hi + x.h.hi) f)⟩)
    dsimp only at this
    omega
  | [], _, r => by simp [ceilF]
  | _ :: _, [], r => by simp [ceilF]
theorem kept_hi {ts : List Cp} {ls : List Ld} {f : Int} (h : okTL ts ls) (hf : 0 ≤ f ∧ f ≤ 1000) : keptM ts ls (ceilF f ts ls ⟨0, 0⟩).hi f = 2 := by
  have h0 := (ceilF_nn (f := f) (ts := ts) (ls := ls) (r := ⟨0, 0⟩)).2
  have hh := (ceil_hold h.c hf h0).1 (Int.le_refl _)
  unfold keptM
  rw [if_neg (fun hn => hn (hold_low h.o hh)), if_pos hh]
theorem kept_lo {ts : List Cp} {ls : List Ld} {f : Int} (h : okTL ts ls) (hf : 0 ≤ f ∧ f ≤ 1000) (hp : 0 ≤ (ceilF f ts ls ⟨0, 0⟩).lo - 1) : keptM ts ls ((ceilF f ts ls ⟨0, 0⟩).lo - 1) f = 0 := by
  unfold keptM
  rw [if_pos (fun hl => by have := (ceil_low h.c hf hp).2 hl; omega)]
theorem lim_mono {c : Cp} {p f g : Int} (hc : okCp c) (hp : 0 ≤ p) (hfg : f ≤ g) : limM c p f ≤ limM c p g := by
  obtain ⟨_, _, _, _, b1, b2, s1, s2⟩ := hc
  have h1 := Int.mul_nonneg (show 0 ≤ c.s - 1000 by omega) hp
  have h2 := Int.mul_le_mul_of_nonneg_right hfg (show 0 ≤ 1000 * c.b + (c.s - 1000) * p by omega)
  unfold limM
  omega
theorem ceil_anti {ts : List Cp} {ls : List Ld} {f g : Int} (h : okTL ts ls) (hf : 0 ≤ f ∧ f ≤ 1000) (hg : f ≤ g ∧ g ≤ 1000) : (ceilF g ts ls ⟨0, 0⟩).lo ≤ (ceilF f ts ls ⟨0, 0⟩).lo ∧ (ceilF g ts ls ⟨0, 0⟩).hi ≤ (ceilF f ts ls ⟨0, 0⟩).hi := by
  obtain ⟨h1, h2⟩ := ceilF_nn (f := f) (ts := ts) (ls := ls) (r := ⟨0, 0⟩)
  constructor
  · refine (ceil_low h.c (by omega) h1).2 (all2_get fun k c x hc hx => ?_)
    have := all2_at ((ceil_low h.c hf h1).1 (Int.le_refl _)) k c x hc hx
    unfold lw1 at *
    have := lim_mono (h.c c (List.mem_of_getElem? hc)) h1 hg.1
    omega
  · refine (ceil_hold h.c (by omega) h2).2 (all2_get fun k c x hc hx => ?_)
    have := all2_at ((ceil_hold h.c hf h2).1 (Int.le_refl _)) k c x hc hx
    unfold up1 at *
    have := lim_mono (h.c c (List.mem_of_getElem? hc)) h2 hg.1
    omega
/-- the error of loads and a factor -/
def ckFa (ts : List Cp) (ls : List Ld) (f : Int) : Int := if ckLoads ts ls ≠ 0 then ckLoads ts ls else if 0 ≤ f ∧ f ≤ 1000 then 0 else 2
theorem ceilE_snd (ts : List Cp) (ls : List Ld) (f : Int) : (ceilE ts ls f).2 = ckFa ts ls f := by
  unfold ceilE ckFa
  (repeat' split) <;> rfl
theorem ceilE_fst {ts : List Cp} {ls : List Ld} {f : Int} (h : ckFa ts ls f ≠ 0) : (ceilE ts ls f).1 = ⟨0, 0⟩ := by
  unfold ckFa at h
  unfold ceilE
  by_cases h1 : ckLoads ts ls ≠ 0
  · rw [if_pos h1]
  · rw [if_neg h1] at h ⊢
    by_cases h2 : 0 ≤ f ∧ f ≤ 1000
    · rw [if_pos h2] at h; exact absurd rfl h
    · rw [if_neg h2]
structure okFa (ts : List Cp) (ls : List Ld) (f : Int) : Prop where
  k : okTL ts ls
  ct : ckLoads ts ls = 0
  fb : 0 ≤ f ∧ f ≤ 1000
  e : ceilE ts ls f = (ceilF f ts ls ⟨0, 0⟩, 0)
theorem ckFa_ok {ts : List Cp} {ls : List Ld} {f : Int} (h : ckFa ts ls f = 0) : okFa ts ls f := by
  unfold ckFa at h
  by_cases h1 : ckLoads ts ls ≠ 0
  · rw [if_pos h1] at h; exact absurd h h1
  · rw [if_neg h1] at h
    by_cases h2 : 0 ≤ f ∧ f ≤ 1000
    · exact ⟨ckLoads_ok (Decidable.not_not.1 h1), Decidable.not_not.1 h1, h2, ceilE_3 h1 h2⟩
    · rw [if_neg h2] at h; cases h
theorem ceilF_in {ts : List Cp} {ls : List Ld} {f : Int} (h : okTL ts ls) (hf : 0 ≤ f ∧ f ≤ 1000) : 0 ≤ (ceilF f ts ls ⟨0, 0⟩).lo ∧ (ceilF f ts ls ⟨0, 0⟩).lo ≤ 1000000 ∧ 0 ≤ (ceilF f ts ls ⟨0, 0⟩).hi ∧ (ceilF f ts ls ⟨0, 0⟩).hi ≤ 1000000 := by
  obtain ⟨h1, h2⟩ := ceilF_nn (f := f) (ts := ts) (ls := ls) (r := ⟨0, 0⟩)
  refine ⟨h1, (ceil_low h.c hf (by decide)).2 (all2_get fun k c x hc hx => ?_), h2, (ceil_hold h.c hf (by decide)).2 (all2_get fun k c x hc hx => ?_)⟩
  · obtain ⟨⟨a1, a2, a3, a4⟩, ⟨b1, b2, b3, b4⟩⟩ := h.x x (List.mem_of_getElem? hx)
    have := rise_in (h.c c (List.mem_of_getElem? hc)) hf
    unfold lw1
    rw [lim_line, lim_zero]
    omega
  · obtain ⟨⟨a1, a2, a3, a4⟩, ⟨b1, b2, b3, b4⟩⟩ := h.x x (List.mem_of_getElem? hx)
    have := rise_in (h.c c (List.mem_of_getElem? hc)) hf
    unfold up1
    rw [lim_line, lim_zero]
    omega

/-! ### The legs of a plan -/
structure Dl where
  s : Int
  d : Int
  g : Int
def ckGs : List Gs → Int
  | [] => 0
  | g :: t => if ckGas g.o g.h ≠ 0 then ckGas g.o g.h else ckGs t
theorem ckGs_step {gs : List Gs} {k : Nat} {g : Gs} (h : gs[k]? = some g) : ckGs (gs.drop k) = if ckGas g.o g.h ≠ 0 then ckGas g.o g.h else ckGs (gs.drop (k + 1)) := by rw [drop_cons h]; rfl
theorem ckGas_ok {o h : Int} (hz : ckGas o h = 0) : 0 ≤ o ∧ o ≤ 1000 ∧ 0 ≤ h ∧ h ≤ 1000 ∧ o + h ≤ 1000 := by
  unfold ckGas at hz
  split at hz
  · cases hz
  · split at hz
    · cases hz
    · omega
theorem ckGs_ok : ∀ {gs : List Gs}, ckGs gs = 0 → ∀ g ∈ gs, ckGas g.o g.h = 0
  | [], _, g, hg => by cases hg
  | d :: t, h, g, hg => by
    unfold ckGs at h
    split at h
    · rename_i h1; exact absurd h h1
    · rename_i h1
      rcases List.mem_cons.1 hg with rfl | hg
      · exact Decidable.not_not.1 h1
      · exact ckGs_ok h g hg
def gasAt (gs : List Gs) (i : Int) : Gs := gs[i.toNat]?.getD ⟨0, 0⟩
def legOf (sf dep : Int) (gs : List Gs) (x : Dl) : Lg := ⟨sf + dep, sf + x.d, x.s, gasAt gs x.g⟩
def ckDl (n dep : Int) (x : Dl) : Int := if ¬ (0 ≤ x.s ∧ x.s ≤ 100000 ∧ 0 ≤ x.d ∧ x.d ≤ 30000) then 2 else if ¬ (0 ≤ x.g ∧ x.g ≤ n - 1) then 6 else if x.s = 0 ∧ x.d ≠ dep then 11 else 0
def legsF (sf : Int) (gs : List Gs) : Int → List Dl → List Lg → List Lg × Int
  | _, [], acc => (acc, 0)
  | dep, x :: t, acc => if ckDl gs.length dep x ≠ 0 then ([], ckDl gs.length dep x) else legsF sf gs x.d t (acc ++ [legOf sf dep gs x])
theorem legsF_bad {sf dep : Int} {gs : List Gs} {ls : List Dl} {acc : List Lg} {k : Nat} {x : Dl} (h : ls[k]? = some x) (hc : ckDl gs.length dep x ≠ 0) : legsF sf gs dep (ls.drop k) acc = ([], ckDl gs.length dep x) := by rw [drop_cons h]; exact if_pos hc
theorem legsF_ok {sf dep : Int} {gs : List Gs} {ls : List Dl} {acc : List Lg} {k : Nat} {x : Dl} (h : ls[k]? = some x) (hc : ckDl gs.length dep x = 0) : legsF sf gs dep (ls.drop k) acc = legsF sf gs x.d (ls.drop (k + 1)) (acc ++ [legOf sf dep gs x]) := by rw [drop_cons h]; exact if_neg (fun hh => hh hc)
theorem legsF_end {sf dep : Int} {gs : List Gs} {ls : List Dl} {acc : List Lg} {k : Nat} (h : ls.length ≤ k) : legsF sf gs dep (ls.drop k) acc = (acc, 0) := by rw [drop_all h]; rfl
def legsE (sf : Int) (gs : List Gs) (ls : List Dl) : List Lg × Int :=
  if ¬ (400 ≤ sf ∧ sf ≤ 1100) then ([], 2) else if gs.length > 8 then ([], 8) else if ckGs gs ≠ 0 then ([], ckGs gs) else if ls.length > 60 then ([], 8) else legsF sf gs 0 ls []
theorem legsE_1 {sf : Int} {gs : List Gs} {ls : List Dl} (h : ¬ (400 ≤ sf ∧ sf ≤ 1100)) : legsE sf gs ls = ([], 2) := if_pos h
theorem legsE_2 {sf : Int} {gs : List Gs} {ls : List Dl} (h : 400 ≤ sf ∧ sf ≤ 1100) (h2 : gs.length > 8) : legsE sf gs ls = ([], 8) := by unfold legsE; rw [if_neg (fun hh => hh h), if_pos h2]
theorem legsE_3 {sf : Int} {gs : List Gs} {ls : List Dl} (h : 400 ≤ sf ∧ sf ≤ 1100) (h2 : ¬ gs.length > 8) (h3 : ckGs gs ≠ 0) : legsE sf gs ls = ([], ckGs gs) := by unfold legsE; rw [if_neg (fun hh => hh h), if_neg h2, if_pos h3]
theorem legsE_4 {sf : Int} {gs : List Gs} {ls : List Dl} (h : 400 ≤ sf ∧ sf ≤ 1100) (h2 : ¬ gs.length > 8) (h3 : ckGs gs = 0) (h4 : ls.length > 60) : legsE sf gs ls = ([], 8) := by unfold legsE; rw [if_neg (fun hh => hh h), if_neg h2, if_neg (fun hh => hh h3), if_pos h4]
theorem legsE_5 {sf : Int} {gs : List Gs} {ls : List Dl} (h : 400 ≤ sf ∧ sf ≤ 1100) (h2 : ¬ gs.length > 8) (h3 : ckGs gs = 0) (h4 : ¬ ls.length > 60) : legsE sf gs ls = legsF sf gs 0 ls [] := by unfold legsE; rw [if_neg (fun hh => hh h), if_neg h2, if_neg (fun hh => hh h3), if_neg h4]
/-- legs that hang together, from a pressure on -/
def chain : Int → List Lg → Prop
  | _, [] => True
  | at_, x :: t => x.f = at_ ∧ ckLeg x = 0 ∧ chain x.t t
def lastT : Int → List Lg → Int
  | at_, [] => at_
  | _, x :: t => lastT x.t t
theorem chain_app : ∀ {a : List Lg} {at_ : Int} {x : Lg}, chain at_ a → x.f = lastT at_ a → ckLeg x = 0 → chain at_ (a ++ [x])
  | [], _, _, _, hf, hx => ⟨hf, hx, trivial⟩
  | _ :: _, _, _, h, hf, hx => ⟨h.1, h.2.1, chain_app h.2.2 hf hx⟩
theorem lastT_app : ∀ {a : List Lg} {at_ : Int} {x : Lg}, lastT at_ (a ++ [x]) = x.t
  | [], _, _ => rfl
  | y :: a, _, _ => lastT_app (a := a) (at_ := y.t)
theorem legsF_chain {sf : Int} {gs : List Gs} (hs : 400 ≤ sf ∧ sf ≤ 1100) (hg : ckGs gs = 0) : ∀ (ls : List Dl) (dep : Int) (acc : List Lg), 0 ≤ dep ∧ dep ≤ 30000 → chain sf acc → lastT sf acc = sf + dep → chain sf (legsF sf gs dep ls acc).1 ∧ (legsF sf gs dep ls acc).1.length ≤ acc.length + ls.length
  | [], _, acc, _, hc, _ => ⟨hc, by simp [legsF]⟩
  | x :: t, dep, acc, hd, hc, hl => by
    unfold legsF
    split
    · exact ⟨trivial, by simp⟩
    · rename_i hk
      have hk := Decidable.not_not.1 hk
      have hx : ckLeg (legOf sf dep gs x) = 0 := by
        unfold ckDl at hk
        split at hk
        · cases hk
        · split at hk
          · cases hk
          · split at hk
            · cases hk
            · rename_i h1 h2 h3
              have hgi : gasAt gs x.g ∈ gs := by
                unfold gasAt
                have : x.g.toNat < gs.length := by omega
                rw [List.getElem?_eq_getElem this]
                exact List.getElem_mem this
              unfold ckLeg legOf
              rw [if_neg (by unfold okPr; dsimp only; omega), if_neg (by dsimp only; exact fun hh => hh (ckGs_ok hg _ hgi)), if_neg (by dsimp only; omega)]
      have hxd : 0 ≤ x.d ∧ x.d ≤ 30000 := by
        unfold ckDl at hk
        split at hk
        · cases hk
        · omega
      obtain ⟨i1, i2⟩ := legsF_chain hs hg t x.d (acc ++ [legOf sf dep gs x]) hxd (chain_app hc (by rw [hl]; rfl) hx) (by rw [lastT_app]; rfl)
      exact ⟨i1, by rw [List.length_append, List.length_singleton] at i2; rw [List.length_cons]; omega⟩
theorem legsE_chain (sf : Int) (gs : List Gs) (ls : List Dl) : chain sf (legsE sf gs ls).1 ∧ (legsE sf gs ls).1.length ≤ 60 := by
  unfold legsE
  split
  · exact ⟨trivial, by simp⟩
  · split
    · exact ⟨trivial, by simp⟩
    · split
      · exact ⟨trivial, by simp⟩
      · split
        · exact ⟨trivial, by simp⟩
        · rename_i h1 h2 h3 h4
          have := legsF_chain (sf := sf) (gs := gs) (by omega) (Decidable.not_not.1 h3) ls 0 [] (by omega) trivial (by simp [lastT])
          exact ⟨this.1, by have := this.2; simp only [List.length_nil] at this; omega⟩
theorem chain_at : ∀ {L : List Lg} {a : Int} {k : Nat} {x : Lg}, chain a L → L[k]? = some x → x.f = lastT a (L.take k) ∧ ckLeg x = 0
  | y :: L, a, 0, x, h, hx => by
    simp only [List.getElem?_cons_zero, Option.some.injEq] at hx
    subst hx
    exact ⟨h.1, h.2.1⟩
  | y :: L, a, k + 1, x, h, hx => by
    have := chain_at (k := k) h.2.2 (by simpa using hx)
    exact ⟨by rw [List.take_succ_cons]; exact this.1, this.2⟩
  | [], _, _, _, _, hx => by simp at hx
theorem lastT_take {L : List Lg} {a : Int} {k : Nat} {x : Lg} (h : L[k]? = some x) : lastT a (L.take (k + 1)) = x.t := by
  rw [List.take_add_one, h]
  exact lastT_app
end Go.Proofs.Ytecfnhgbgngpiaa
namespace Go.Proofs.Ytecfnhgbgngpiaa

def ckTask (ts : List Cp) (ls : List Ld) (x : Lg) (fa : Int) : Int := if ckLoads ts ls ≠ 0 then ckLoads ts ls else if ckLeg x ≠ 0 then ckLeg x else if 0 ≤ fa ∧ fa ≤ 1000 then 0 else 2
def ckFine (ts : List Cp) (ls : List Ld) (x : Lg) (fa fi : Int) : Int := if ckTask ts ls x fa ≠ 0 then ckTask ts ls x fa else if 0 ≤ fi ∧ fi ≤ 6 then 0 else 2
structure okTask (ts : List Cp) (ls : List Ld) (x : Lg) (fa : Int) : Prop where
  k : okTL ts ls
  ct : ckLoads ts ls = 0
  xx : okLg x
  cx : ckLeg x = 0
  fa : 0 ≤ fa ∧ fa ≤ 1000
theorem ckTask_ok {ts : List Cp} {ls : List Ld} {x : Lg} {g : Int} (h : ckTask ts ls x g = 0) : okTask ts ls x g := by
  unfold ckTask at h
  by_cases h1 : ckLoads ts ls ≠ 0
  · rw [if_pos h1] at h; exact absurd h h1
  · rw [if_neg h1] at h
    by_cases h2 : ckLeg x ≠ 0
    · rw [if_pos h2] at h; exact absurd h h2
    · rw [if_neg h2] at h
      by_cases h3 : 0 ≤ g ∧ g ≤ 1000
      · exact ⟨ckLoads_ok (Decidable.not_not.1 h1), Decidable.not_not.1 h1, (ckLeg_ok (Decidable.not_not.1 h2)).1, Decidable.not_not.1 h2, h3⟩
      · rw [if_neg h3] at h; cases h
theorem ckFine_ok {ts : List Cp} {ls : List Ld} {x : Lg} {g fi : Int} (h : ckFine ts ls x g fi = 0) : okTask ts ls x g ∧ 0 ≤ fi ∧ fi ≤ 6 := by
  unfold ckFine at h
  by_cases h1 : ckTask ts ls x g ≠ 0
  · rw [if_pos h1] at h; exact absurd h h1
  · rw [if_neg h1] at h
    by_cases h2 : 0 ≤ fi ∧ fi ≤ 6
    · exact ⟨ckTask_ok (Decidable.not_not.1 h1), h2⟩
    · rw [if_neg h2] at h; cases h

/-! ### Peaks -/
def peakL (x y : Ld) : Int := max x.n.hi y.n.hi + max x.h.hi y.h.hi
def pk1 (p f : Int) (c : Cp) (xy : Ld × Ld) : Prop := 1000 * peakL xy.1 xy.2 ≤ limM c p f
instance (p f : Int) (c : Cp) (xy : Ld × Ld) : Decidable (pk1 p f c xy) := by unfold pk1; infer_instance
abbrev pkP (p f : Int) (ts : List Cp) (a b : List Ld) := all2 (pk1 p f) ts (a.zip b)
theorem zip_get {α β : Type} {a : List α} {b : List β} {k : Nat} {x : α} {y : β} (h1 : a[k]? = some x) (h2 : b[k]? = some y) : (a.zip b)[k]? = some (x, y) := by rw [List.getElem?_zip_eq_some]; exact ⟨h1, h2⟩
theorem zip_at {α β : Type} {a : List α} {b : List β} {k : Nat} {p : α × β} (h : (a.zip b)[k]? = some p) : a[k]? = some p.1 ∧ b[k]? = some p.2 := List.getElem?_zip_eq_some.1 h
def prevM (f : Nat) (ts : List Cp) (ls : List Ld) (x : Lg) (n : Nat) : Nat → List Ld
  | 0 => ls
  | k + 1 => stM f ts ls x n k
def yesB (fa : Int) (f : Nat) (ts : List Cp) (ls : List Ld) (x : Lg) (n : Nat) : Nat → Bool
  | 0 => true
  | k + 1 => yesB fa f ts ls x n k && decide (pkP (lowM x n k) fa ts (prevM f ts ls x n k) (stM f ts ls x n k))
def noB (fa : Int) (f : Nat) (ts : List Cp) (ls : List Ld) (x : Lg) (n : Nat) : Nat → Bool
  | 0 => false
  | k + 1 => noB fa f ts ls x n k || decide (¬ lowP (mkM x n k).p.hi fa ts (stM f ts ls x n k))
def rmkN (x : Lg) (n : Nat) : Nat := if x.s = 0 then 1 else n + 1
def ansM (y n : Bool) : Int := if y = true then 2 else if n = true then 0 else 1
def keptT (ts : List Cp) (ls : List Ld) (x : Lg) (fa : Int) (f : Nat) : Int := ansM (yesB fa f ts ls x (2 ^ f) (rmkN x (2 ^ f))) (noB fa f ts ls x (2 ^ f) (rmkN x (2 ^ f)))
theorem yesB_iff {fa : Int} {f : Nat} {ts : List Cp} {ls : List Ld} {x : Lg} {n : Nat} : ∀ {k : Nat}, yesB fa f ts ls x n k = true ↔ ∀ j, j < k → pkP (lowM x n j) fa ts (prevM f ts ls x n j) (stM f ts ls x n j)
  | 0 => by simp [yesB]
  | k + 1 => by
    unfold yesB
    rw [Bool.and_eq_true, yesB_iff, decide_eq_true_eq]
    constructor
    · rintro ⟨h1, h2⟩ j hj
      rcases Nat.lt_succ_iff_lt_or_eq.1 hj with h | rfl
      · exact h1 j h
      · exact h2
    · exact fun h => ⟨fun j hj => h j (by omega), h k (by omega)⟩
theorem noB_iff {fa : Int} {f : Nat} {ts : List Cp} {ls : List Ld} {x : Lg} {n : Nat} : ∀ {k : Nat}, noB fa f ts ls x n k = true ↔ ∃ j, j < k ∧ ¬ lowP (mkM x n j).p.hi fa ts (stM f ts ls x n j)
  | 0 => by simp [noB]
  | k + 1 => by
    unfold noB
    rw [Bool.or_eq_true, noB_iff, decide_eq_true_eq]
    constructor
    · rintro (⟨j, h1, h2⟩ | h)
      · exact ⟨j, by omega, h2⟩
      · exact ⟨k, by omega, h⟩
    · rintro ⟨j, h1, h2⟩
      rcases Nat.lt_succ_iff_lt_or_eq.1 h1 with h | rfl
      · exact .inl ⟨j, h, h2⟩
      · exact .inr h2
/-- what the reference keeps -/
def kB (fa : Int) (f : Nat) (ts : List Cp) (ls : List Ld) (x : Lg) (n : Nat) : Nat → Bool
  | 0 => if x.s = 0 then decide (holdP (mkM x n (0 : Nat)).p.lo fa ts ls) else true
  | k + 1 => kB fa f ts ls x n k && decide (pkP (stLo x n k) fa ts (stM f ts ls x n k) (stM f ts ls x n (k + 1)))
theorem kB_iff {fa : Int} {f : Nat} {ts : List Cp} {ls : List Ld} {x : Lg} {n : Nat} (hs : x.s ≠ 0) : ∀ {k : Nat}, kB fa f ts ls x n k = true ↔ ∀ j, j < k → pkP (lowM x n (j + 1)) fa ts (prevM f ts ls x n (j + 1)) (stM f ts ls x n (j + 1))
  | 0 => by simp [kB, hs]
  | k + 1 => by
    unfold kB
    rw [Bool.and_eq_true, kB_iff hs, decide_eq_true_eq]
    constructor
    · rintro ⟨h1, h2⟩ j hj
      rcases Nat.lt_succ_iff_lt_or_eq.1 hj with h | rfl
      · exact h1 j h
      · exact h2
    · exact fun h => ⟨fun j hj => h j (by omega), h k (by omega)⟩
theorem lim_up {c : Cp} {p q f : Int} (hc : okCp c) (hf : 0 ≤ f ∧ f ≤ 1000) (hpq : p ≤ q) : limM c p f ≤ limM c q f := by
  rw [lim_line c p f, lim_line c q f]
  have := rise_in hc hf
  have := Int.mul_le_mul_of_nonneg_right hpq (show 0 ≤ 1000000 + f * (c.s - 1000) by omega)
  omega
theorem low_le {x : Lg} {n j : Nat} (h : okLg x) (hn : 1 ≤ n ∧ n ≤ 64) (hj : j ≤ n) : lowM x n j ≤ (mkM x n j).p.lo ∧ (mkM x n j).p.lo ≤ (mkM x n j).p.hi ∧ 400 ≤ lowM x n j ∧ (mkM x n j).p.hi ≤ 31100 := by
  have h1 := mk_in (j := (j : Int)) h (n := (n : Int)) (by omega) (by omega)
  cases j with
  | zero =>
    have e : lowM x n 0 = (mkM x n (0 : Nat)).p.lo := rfl
    rw [e]
    omega
  | succ k =>
    have h2 := mk_in (j := (k : Int)) h (n := (n : Int)) (by omega) (by omega)
    have e2 : lowM x n (k + 1) = min (mkM x n k).p.lo (mkM x n ((k : Int) + 1)).p.lo := rfl
    have e : (((k + 1 : Nat) : Int)) = (k : Int) + 1 := by omega
    rw [e2]
    rw [e] at h1 ⊢
    omega
theorem pk_low {ts : List Cp} {a b : List Ld} {p q f : Int} (hc : ∀ c ∈ ts, okCp c) (hf : 0 ≤ f ∧ f ≤ 1000) (hpq : p ≤ q) (ho : ∀ y ∈ b, ordLd y) (hlen : a.length = b.length) (h : pkP p f ts a b) : lowP q f ts b := all2_get fun k c y hck hy => by
  have hk : k < a.length := by rw [hlen]; exact (List.getElem?_eq_some_iff.1 hy).1
  have h1 := all2_at h k c _ hck (zip_get (List.getElem?_eq_getElem hk) hy)
  have h2 := ho y (List.mem_of_getElem? hy)
  have h3 := lim_up (hc c (List.mem_of_getElem? hck)) hf hpq
  unfold pk1 peakL at h1
  unfold ordLd at h2
  unfold lw1
  dsimp only at h1
  omega
structure onTask (ts : List Cp) (ls : List Ld) (x : Lg) (fa : Int) (f n : Nat) : Prop where
  t : okTask ts ls x fa
  fb : f ≤ 6
  nb : n = 2 ^ f
theorem prevM_len {f : Nat} {ts : List Cp} {ls : List Ld} {x : Lg} {n : Nat} (h : ls.length = ts.length) : ∀ k, (prevM f ts ls x n k).length = ts.length
  | 0 => h
  | k + 1 => stM_len h k
theorem yes_not_no {ts : List Cp} {ls : List Ld} {x : Lg} {g : Int} {f n : Nat} (H : onTask ts ls x g f n) {k : Nat} (hk : k ≤ n + 1) (hy : yesB g f ts ls x n k = true) : noB g f ts ls x n k = false := by
  have h64 := two_f H.fb H.nb
  cases hno : noB g f ts ls x n k with
  | false => rfl
  | true =>
    obtain ⟨j, hj, hb⟩ := noB_iff.1 hno
    have h1 := yesB_iff.1 hy j hj
    have hl := low_le H.t.xx h64 (show j ≤ n by omega)
    exact absurd (pk_low H.t.k.c H.t.fa (by omega) (stM_ord H.t.xx h64 H.t.k.c H.t.k.o j (by omega)) (by rw [prevM_len H.t.k.len, stM_len H.t.k.len]) h1) hb
theorem yes_kB {ts : List Cp} {ls : List Ld} {x : Lg} {g : Int} {f n : Nat} (H : onTask ts ls x g f n) : yesB g f ts ls x n (rmkN x n) = kB g f ts ls x n (rmkN x n - 1) := by
  have h64 := two_f H.fb H.nb
  by_cases h0 : x.s = 0
  · unfold rmkN
    rw [if_pos h0]
    show (true && decide _) = kB g f ts ls x n 0
    unfold kB
    rw [if_pos h0, Bool.true_and]
    refine decide_eq_decide.2 ?_
    have key : ∀ (c : Cp) (y : Ld), pk1 (lowM x n 0) g c (y, y) ↔ up1 (mkM x n (0 : Nat)).p.lo g c y := fun c y => by
      unfold pk1 up1 peakL lowM
      rw [Int.max_self, Int.max_self]
    constructor
    · intro h
      refine all2_get fun k c y hc hy => (key c y).1 (all2_at h k c (y, y) hc (zip_get hy hy))
    · intro h
      refine all2_get fun k c p hc hp => ?_
      obtain ⟨h1, h2⟩ := zip_at hp
      have : p.1 = p.2 := by
        have h1' : ls[k]? = some p.1 := h1
        have h2' : ls[k]? = some p.2 := h2
        rw [h1'] at h2'
        injection h2'
      have h3 := (key c p.1).2 (all2_at h k c p.1 hc h1)
      obtain ⟨p1, p2⟩ := p
      dsimp only at this
      subst this
      exact h3
  · have hr : rmkN x n = n + 1 := if_neg h0
    rw [hr, Nat.add_sub_cancel]
    have hiff : yesB g f ts ls x n (n + 1) = true ↔ kB g f ts ls x n n = true := by
      rw [yesB_iff, kB_iff h0]
      constructor
      · exact fun h j hj => h (j + 1) (by omega)
      · intro h j hj
        cases j with
        | succ j => exact h j (by omega)
        | zero =>
          have h1 : pkP (lowM x n 1) g ts (prevM f ts ls x n 1) (stM f ts ls x n 1) := h 0 (by omega)
          refine all2_get fun k c p hc hp => ?_
          obtain ⟨q1, q2⟩ := zip_at hp
          have hkl : k < ts.length := (List.getElem?_eq_some_iff.1 hc).1
          have hk1 : k < (stM f ts ls x n 1).length := by rw [stM_len H.t.k.len]; exact hkl
          have h2 := all2_at h1 k c _ hc (zip_get (a := prevM f ts ls x n 1) q2 (List.getElem?_eq_getElem hk1))
          have h3 : p.1 = p.2 := by
            have a1 : ls[k]? = some p.1 := q1
            have a2 : ls[k]? = some p.2 := q2
            rw [a1] at a2
            injection a2
          have h4 := lim_up (hc := H.t.k.c c (List.mem_of_getElem? hc)) (p := lowM x n 1) (q := lowM x n 0) H.t.fa (by unfold lowM; exact Int.min_le_left _ _)
          unfold pk1 peakL at h2 ⊢
          dsimp only at h2 ⊢
          rw [h3, Int.max_self, Int.max_self]
          omega
    cases h1 : yesB g f ts ls x n (n + 1) <;> cases h2 : kB g f ts ls x n n <;> simp_all
/-- The reference's answer is the program's. -/
theorem kept_ref {ts : List Cp} {ls : List Ld} {x : Lg} {g : Int} {f n : Nat} (H : onTask ts ls x g f n) (k b : Bool) (hk : k = kB g f ts ls x n (rmkN x n - 1)) (hb : b = noB g f ts ls x n (rmkN x n)) :
    keptT ts ls x g f = if k = true ∧ b = false then 2 else if b = true ∧ k = false then 0 else 1 := by
  unfold keptT
  rw [← H.nb, yes_kB H, ← hk, ← hb]
  have h1 := yes_not_no H (k := rmkN x n) (by unfold rmkN; split <;> omega)
  rw [yes_kB H, ← hk, ← hb] at h1
  cases k <;> cases b <;> simp_all [ansM]
def keptTE (ts : List Cp) (ls : List Ld) (x : Lg) (fa fi : Int) : Int × Int := if ckFine ts ls x fa fi ≠ 0 then (0, ckFine ts ls x fa fi) else (keptT ts ls x fa fi.toNat, 0)
theorem keptTE_1 {ts : List Cp} {ls : List Ld} {x : Lg} {g fi : Int} (h : ckFine ts ls x g fi ≠ 0) : keptTE ts ls x g fi = (0, ckFine ts ls x g fi) := if_pos h
theorem keptTE_2 {ts : List Cp} {ls : List Ld} {x : Lg} {g : Int} {f : Nat} (h : ckFine ts ls x g (f : Int) = 0) : keptTE ts ls x g (f : Int) = (keptT ts ls x g f, 0) := if_neg (fun hh => hh h)

/-! ### The greatest peaks -/
def pkL (a b : List Ld) : List Int := List.zipWith peakL a b
def peaksK (f : Nat) (ts : List Cp) (ls : List Ld) (x : Lg) (n : Nat) : Nat → List Int
  | 0 => List.replicate ts.length 0
  | k + 1 => List.zipWith max (peaksK f ts ls x n k) (pkL (prevM f ts ls x n k) (stM f ts ls x n k))
def peaksT (ts : List Cp) (ls : List Ld) (x : Lg) (f : Nat) : List Int := peaksK f ts ls x (2 ^ f) (rmkN x (2 ^ f))
theorem peaksK_len {f : Nat} {ts : List Cp} {ls : List Ld} {x : Lg} {n : Nat} (h : ls.length = ts.length) : ∀ k, (peaksK f ts ls x n k).length = ts.length
  | 0 => by simp [peaksK]
  | k + 1 => by
    unfold peaksK pkL
    rw [List.length_zipWith, List.length_zipWith, peaksK_len h k, prevM_len h k, stM_len h k]
    omega
theorem peaks_one {f : Nat} {ts : List Cp} {ls : List Ld} {x : Lg} {n : Nat} (h : ls.length = ts.length) (hx : ∀ y ∈ ls, inLd y) : peaksK f ts ls x n 1 = pkL ls ls := by
  show List.zipWith max (List.replicate ts.length 0) (pkL ls ls) = _
  apply List.ext_getElem?
  intro i
  rw [List.getElem?_zipWith]
  by_cases hi : i < ts.length
  · have hl : (pkL ls ls)[i]? = some (peakL ls[i] ls[i]) := by
      unfold pkL
      rw [List.getElem?_zipWith, List.getElem?_eq_getElem (by omega)]
    rw [hl, List.getElem?_replicate, if_pos hi]
    dsimp only
    have hy := hx ls[i] (List.getElem_mem (by omega))
    have h1 := hy.1.c
    have h2 := hy.2.c
    congr 1
    unfold peakL
    omega
  · have h1 : (List.replicate ts.length (0 : Int))[i]? = none := List.getElem?_eq_none (by simp; omega)
    have h2 : (pkL ls ls)[i]? = none := List.getElem?_eq_none (by unfold pkL; rw [List.length_zipWith]; omega)
    rw [h1, h2]
theorem peak_in {a b : Ld} (ha : inLd a) (hb : inLd b) : 0 ≤ peakL a b ∧ peakL a b ≤ 200000000 := by
  obtain ⟨⟨a1, a2, a3, a4⟩, ⟨a5, a6, a7, a8⟩⟩ := ha
  obtain ⟨⟨b1, b2, b3, b4⟩, ⟨b5, b6, b7, b8⟩⟩ := hb
  unfold peakL
  omega
def peaksE (ts : List Cp) (ls : List Ld) (x : Lg) (fa fi : Int) : List Int × Int := if ckFine ts ls x fa fi ≠ 0 then ([], ckFine ts ls x fa fi) else (peaksT ts ls x fi.toNat, 0)
theorem peaksE_1 {ts : List Cp} {ls : List Ld} {x : Lg} {g fi : Int} (h : ckFine ts ls x g fi ≠ 0) : peaksE ts ls x g fi = ([], ckFine ts ls x g fi) := if_pos h
theorem peaksE_2 {ts : List Cp} {ls : List Ld} {x : Lg} {g : Int} {f : Nat} (h : ckFine ts ls x g (f : Int) = 0) : peaksE ts ls x g (f : Int) = (peaksT ts ls x f, 0) := if_neg (fun hh => hh h)
theorem prevM_in {f : Nat} {ts : List Cp} {ls : List Ld} {x : Lg} {n : Nat} (hx : okLg x) (hn : 1 ≤ n ∧ n ≤ 64) (hl : ∀ y ∈ ls, inLd y) : ∀ k, k ≤ n + 1 → ∀ y ∈ prevM f ts ls x n k, inLd y
  | 0, _ => hl
  | k + 1, hk => stM_in hx hn hl k (by omega)
theorem stM_ok {ts : List Cp} {ls : List Ld} {x : Lg} {g : Int} {f n : Nat} (H : onTask ts ls x g f n) {k : Nat} (hk : k ≤ n) : okTL ts (stM f ts ls x n k) :=
  ⟨H.t.k.a, H.t.k.b, stM_len H.t.k.len k, H.t.k.c, stM_in H.t.xx (two_f H.fb H.nb) H.t.k.x k hk, stM_ord H.t.xx (two_f H.fb H.nb) H.t.k.c H.t.k.o k hk⟩
theorem bool_iff {a b : Bool} (h : a = true ↔ b = true) : a = b := by cases a <;> cases b <;> simp_all
theorem yesB_next {fa : Int} {f : Nat} {ts : List Cp} {ls : List Ld} {x : Lg} {n k : Nat} {b : Bool} (h : b = true ↔ yesB fa f ts ls x n k = true ∧ pkP (lowM x n k) fa ts (prevM f ts ls x n k) (stM f ts ls x n k)) : b = yesB fa f ts ls x n (k + 1) :=
  bool_iff (by unfold yesB; rw [Bool.and_eq_true, decide_eq_true_eq]; exact h)
theorem kB_next {fa : Int} {f : Nat} {ts : List Cp} {ls : List Ld} {x : Lg} {n k : Nat} {b : Bool} (h : b = true ↔ kB fa f ts ls x n k = true ∧ pkP (stLo x n k) fa ts (stM f ts ls x n k) (stM f ts ls x n (k + 1))) : b = kB fa f ts ls x n (k + 1) :=
  bool_iff (by unfold kB; rw [Bool.and_eq_true, decide_eq_true_eq]; exact h)
theorem noB_t {fa : Int} {f : Nat} {ts : List Cp} {ls : List Ld} {x : Lg} {n k : Nat} (h : noB fa f ts ls x n k = true) : noB fa f ts ls x n (k + 1) = true := by unfold noB; rw [h]; rfl
theorem noB_f {fa : Int} {f : Nat} {ts : List Cp} {ls : List Ld} {x : Lg} {n k : Nat} (h : noB fa f ts ls x n k = false) : noB fa f ts ls x n (k + 1) = decide (¬ lowP (mkM x n k).p.hi fa ts (stM f ts ls x n k)) := by
  conv => lhs; unfold noB
  rw [h, Bool.false_or]
theorem kept_no {ts : List Cp} {ls : List Ld} {p f : Int} : keptM ts ls p f = 0 ↔ ¬ lowP p f ts ls := by
  unfold keptM
  by_cases h : lowP p f ts ls
  · rw [if_neg (fun hh => hh h)]
    by_cases h2 : holdP p f ts ls
    · rw [if_pos h2]; simp [h]
    · rw [if_neg h2]; simp [h]
  · rw [if_pos h]; simp [h]
theorem kept_yes {ts : List Cp} {ls : List Ld} {p f : Int} (ho : ∀ y ∈ ls, ordLd y) : keptM ts ls p f = 2 ↔ holdP p f ts ls := by
  unfold keptM
  by_cases h : lowP p f ts ls
  · rw [if_neg (fun hh => hh h)]
    by_cases h2 : holdP p f ts ls
    · rw [if_pos h2]; simp [h2]
    · rw [if_neg h2]; simp [h2]
  · rw [if_pos h]
    have : ¬ holdP p f ts ls := fun hh => h (hold_low ho hh)
    simp [this]
/-- the first ones already new, the rest still old -/
def mixL (a b : List Int) (i : Nat) : List Int := a.take i ++ b.drop i
theorem mix_0 (a b : List Int) : mixL a b 0 = b := by unfold mixL; simp
theorem mix_end {a b : List Int} {i : Nat} (ha : a.length ≤ i) (hb : b.length ≤ i) : mixL a b i = a := by
  unfold mixL
  rw [List.take_of_length_le ha, List.drop_of_length_le hb, List.append_nil]
theorem mix_len {a b : List Int} {i n : Nat} (ha : a.length = n) (hb : b.length = n) : (mixL a b i).length = n := by
  unfold mixL
  rw [List.length_append, List.length_take, List.length_drop]
  omega
theorem mix_get {a b : List Int} {i n : Nat} (ha : a.length = n) (hi : i < n) : (mixL a b i)[i]? = b[i]? := by
  unfold mixL
  have hl : (a.take i).length = i := by rw [List.length_take]; omega
  rw [List.getElem?_append_right (by omega), hl, Nat.sub_self, List.getElem?_drop, Nat.add_zero]
theorem mix_put {a b : List Int} {i n : Nat} {z : Int} (ha : a.length = n) (hb : b.length = n) (hi : i < n) (hz : a[i]? = some z) : (mixL a b i).set i z = mixL a b (i + 1) := by
  unfold mixL
  have hl : (a.take i).length = i := by rw [List.length_take]; omega
  rw [List.set_append_right _ _ (by omega), hl, Nat.sub_self]
  have hd : b.drop i = b[i] :: b.drop (i + 1) := List.drop_eq_getElem_cons (by omega)
  rw [hd, List.set_cons_zero]
  have ht : a.take (i + 1) = a.take i ++ [z] := by
    rw [List.take_add_one, hz]
    rfl
  rw [ht, List.append_assoc]
  rfl
theorem pk_get {f : Nat} {ts : List Cp} {ls : List Ld} {x : Lg} {n k i : Nat} {z : Int} {a b : Ld} (hz : (peaksK f ts ls x n k)[i]? = some z) (ha : (prevM f ts ls x n k)[i]? = some a) (hb : (stM f ts ls x n k)[i]? = some b) : (peaksK f ts ls x n (k + 1))[i]? = some (max z (peakL a b)) := by
  show (List.zipWith max (peaksK f ts ls x n k) (pkL (prevM f ts ls x n k) (stM f ts ls x n k)))[i]? = _
  unfold pkL
  rw [List.getElem?_zipWith, hz, List.getElem?_zipWith, ha, hb]
theorem put_mix {f : Nat} {ts : List Cp} {ls : List Ld} {x : Lg} {n k i : Nat} {z : Int} {a b : Ld} (hlen : ls.length = ts.length) (hi : i < ts.length) (hz : (peaksK f ts ls x n k)[i]? = some z) (ha : (prevM f ts ls x n k)[i]? = some a) (hb : (stM f ts ls x n k)[i]? = some b) :
    (mixL (peaksK f ts ls x n (k + 1)) (peaksK f ts ls x n k) i).set i (max z (peakL a b)) = mixL (peaksK f ts ls x n (k + 1)) (peaksK f ts ls x n k) (i + 1) :=
  mix_put (peaksK_len hlen (k + 1)) (peaksK_len hlen k) hi (pk_get hz ha hb)
theorem peaksK_in {f : Nat} {ts : List Cp} {ls : List Ld} {x : Lg} {n : Nat} (hx : okLg x) (hn : 1 ≤ n ∧ n ≤ 64) (hl : ∀ y ∈ ls, inLd y) : ∀ k, k ≤ n + 1 → ∀ (i : Nat) (z : Int), (peaksK f ts ls x n k)[i]? = some z → 0 ≤ z ∧ z ≤ 200000000
  | 0, _, i, z, h => by
    have h1 : (List.replicate ts.length (0 : Int))[i]? = some z := h
    rw [List.getElem?_replicate] at h1
    split at h1
    · injection h1 with h1; omega
    · cases h1
  | k + 1, hk, i, z, h => by
    have h1 : (List.zipWith max (peaksK f ts ls x n k) (pkL (prevM f ts ls x n k) (stM f ts ls x n k)))[i]? = some z := h
    rw [List.getElem?_zipWith] at h1
    cases hz : (peaksK f ts ls x n k)[i]? with
    | none => rw [hz] at h1; simp at h1
    | some w =>
      have hw := peaksK_in hx hn hl k (by omega) i w hz
      rw [hz] at h1
      unfold pkL at h1
      rw [List.getElem?_zipWith] at h1
      cases ha : (prevM f ts ls x n k)[i]? with
      | none => rw [ha] at h1; simp at h1
      | some a =>
        cases hb : (stM f ts ls x n k)[i]? with
        | none => rw [ha, hb] at h1; simp at h1
        | some b =>
          rw [ha, hb] at h1
          have h2 : max w (peakL a b) = z := by simpa using h1
          have h3 := peak_in (prevM_in (f := f) (ts := ts) hx hn hl k (by omega) a (List.mem_of_getElem? ha)) (stM_in (f := f) (ts := ts) hx hn hl k (by omega) b (List.mem_of_getElem? hb))
          omega
/-- the first decided answer from a fineness on -/
def decF (ts : List Cp) (ls : List Ld) (x : Lg) (fa : Int) (m : Nat) : Nat → Int × Int
  | 0 => (1, m)
  | j + 1 => if keptT ts ls x fa (m - j) ≠ 1 then (keptT ts ls x fa (m - j), ((m - j : Nat) : Int)) else decF ts ls x fa m j
def decT (ts : List Cp) (ls : List Ld) (x : Lg) (fa : Int) (m : Nat) : Int × Int := decF ts ls x fa m (m + 1)
theorem decF_step {ts : List Cp} {ls : List Ld} {x : Lg} {fa : Int} {m k : Nat} (hk : k ≤ m) : decF ts ls x fa m (m + 1 - k) = if keptT ts ls x fa k ≠ 1 then (keptT ts ls x fa k, (k : Int)) else decF ts ls x fa m (m + 1 - (k + 1)) := by
  rw [show m + 1 - k = (m + 1 - (k + 1)) + 1 by omega]
  conv => lhs; unfold decF
  rw [show m - (m + 1 - (k + 1)) = k by omega]
def decE_ (ts : List Cp) (ls : List Ld) (x : Lg) (fa fi : Int) : (Int × Int) × Int := if ckFine ts ls x fa fi ≠ 0 then ((0, 0), ckFine ts ls x fa fi) else (decT ts ls x fa fi.toNat, 0)
theorem decE_1 {ts : List Cp} {ls : List Ld} {x : Lg} {g fi : Int} (h : ckFine ts ls x g fi ≠ 0) : decE_ ts ls x g fi = ((0, 0), ckFine ts ls x g fi) := if_pos h
theorem decE_2 {ts : List Cp} {ls : List Ld} {x : Lg} {g : Int} {f : Nat} (h : ckFine ts ls x g (f : Int) = 0) : decE_ ts ls x g (f : Int) = (decT ts ls x g f, 0) := if_neg (fun hh => hh h)
theorem noB_s_t {fa : Int} {f : Nat} {ts : List Cp} {ls : List Ld} {x : Lg} {n k : Nat} (h : ¬ lowP (mkM x n k).p.hi fa ts (stM f ts ls x n k)) : noB fa f ts ls x n (k + 1) = true := by unfold noB; rw [decide_eq_true h, Bool.or_true]
theorem noB_s_f {fa : Int} {f : Nat} {ts : List Cp} {ls : List Ld} {x : Lg} {n k : Nat} (h : lowP (mkM x n k).p.hi fa ts (stM f ts ls x n k)) : noB fa f ts ls x n (k + 1) = noB fa f ts ls x n k := by
  conv => lhs; unfold noB
  rw [decide_eq_false (fun hh => hh h), Bool.or_false]
theorem noB_first {fa : Int} {f : Nat} {ts : List Cp} {ls : List Ld} {x : Lg} {n : Nat} : noB fa f ts ls x n 1 = decide (¬ lowP (mkM x n (0 : Nat)).p.hi fa ts ls) := by
  show (false || decide _) = _
  rw [Bool.false_or]; rfl
theorem kB_z {fa : Int} {f : Nat} {ts : List Cp} {ls : List Ld} {x : Lg} {n : Nat} (h : x.s = 0) : kB fa f ts ls x n 0 = decide (holdP (mkM x n (0 : Nat)).p.lo fa ts ls) := by unfold kB; rw [if_pos h]
theorem kB_p {fa : Int} {f : Nat} {ts : List Cp} {ls : List Ld} {x : Lg} {n : Nat} (h : x.s ≠ 0) : kB fa f ts ls x n 0 = true := by unfold kB; rw [if_neg h]
theorem kept_fold {ts : List Cp} {ls : List Ld} {x : Lg} {g : Int} {f n : Nat} (H : onTask ts ls x g f n) {j : Nat} {k b : Bool} (hj : j + 1 = rmkN x n) (hk : k = kB g f ts ls x n j) (hb : b = noB g f ts ls x n (j + 1)) :
    keptT ts ls x g f = if k = true ∧ b = false then 2 else if b = true ∧ k = false then 0 else 1 := by
  exact kept_ref H k b (by rw [hk, ← hj, Nat.add_sub_cancel]) (by rw [hb, ← hj])
end Go.Proofs.Ytecfnhgbgngpiaa
