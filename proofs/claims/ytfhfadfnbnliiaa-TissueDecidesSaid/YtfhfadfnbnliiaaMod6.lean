/-
  Plain models of chapter 3: limits kept; what the statements about products, rests, meetings and limits want. Conditions: none; no program in sight.
-/
import Derived.Test.YtfhfadfnbnliiaaTraj3
namespace Go.Proofs.Ytfhfadfnbnliiaa

/-! ### Modulo -/
theorem emod_yes {n b : Int} (hb : 1 ≤ b) (h : n.tmod b < 0) : n.tmod b + b = n % b := by
  have h1 := Int.mul_tdiv_add_tmod n b
  have h2 := Int.lt_tmod_of_pos n (show 0 < b by omega)
  have h3 : (n.tmod b + b) + b * (n.tdiv b - 1) = n := by rw [Int.mul_sub, Int.mul_one]; omega
  exact ((Int.ediv_emod_unique (show 0 < b by omega)).2 ⟨h3, by omega, by omega⟩).2.symm
theorem emod_no {n b : Int} (hb : 1 ≤ b) (h : ¬ n.tmod b < 0) : n.tmod b = n % b := by
  have h1 := Int.mul_tdiv_add_tmod n b
  have h2 := Int.tmod_lt_of_pos n (show 0 < b by omega)
  have h3 : n.tmod b + b * n.tdiv b = n := by omega
  exact ((Int.ediv_emod_unique (show 0 < b by omega)).2 ⟨h3, by omega, by omega⟩).2.symm
theorem tmod_in {n b : Int} (hb : 1 ≤ b) : -b < n.tmod b ∧ n.tmod b < b := ⟨Int.lt_tmod_of_pos n (by omega), Int.tmod_lt_of_pos n (by omega)⟩

/-! ### Products of decays -/
theorem decayM_cases {s h l : Int} (hs : 0 ≤ s ∧ s ≤ 1000000) : ((decayM s h l).2 = 0 ∧ 1 ≤ h ∧ h ≤ 100000 ∧ 0 ≤ l ∧ l ≤ 24) ∨ ((decayM s h l).2 = 2 ∧ ¬ (1 ≤ h ∧ h ≤ 100000 ∧ 0 ≤ l ∧ l ≤ 24)) := by
  unfold decayM
  split
  · exact .inl ⟨rfl, by omega⟩
  · exact .inr ⟨rfl, by omega⟩
theorem decayM_1 {s h : Int} {n : Nat} (hc : 0 ≤ s ∧ s ≤ 1000000 ∧ 1 ≤ h ∧ h ≤ 100000 ∧ n ≤ 24) : (decayM s h (n : Int)).1 = decM s h n := congrArg Prod.fst (decayM_yes hc)
theorem decs_mul {a b h : Int} (n0 n1 n2 : Nat) (ha : 0 ≤ a) (hb : 0 ≤ b) (hh : 1 ≤ h) :
    (decM a h n0).lo * (decM b h n1).lo ≤ (decM (a + b) h n2).hi * 1000000000 ∧ (decM (a + b) h n2).lo * 1000000000 ≤ (decM a h n0).hi * (decM b h n1).hi ∧ (decM (a + b) h n2).lo ≤ (decM a h n0).hi ∧ (decM (a + b) h n2).lo ≤ (decM b h n1).hi := by
  obtain ⟨a, rfl⟩ := Int.eq_ofNat_of_zero_le ha
  obtain ⟨b, rfl⟩ := Int.eq_ofNat_of_zero_le hb
  obtain ⟨h, rfl⟩ := Int.eq_ofNat_of_zero_le (show 0 ≤ h by omega)
  have hh' : 1 ≤ h := by omega
  obtain ⟨a1, a2⟩ := decM_enc (s := a) (h := h) n0 hh'
  obtain ⟨b1, b2⟩ := decM_enc (s := b) (h := h) n1 hh'
  obtain ⟨c1, c2⟩ := decM_enc (s := a + b) (h := h) n2 hh'
  rw [show (((a + b : Nat) : Int)) = (a : Int) + (b : Int) by omega] at c1 c2
  have da := decM_in a h n0
  have db := decM_in b h n1
  have dc := decM_in ((a : Int) + (b : Int)) h n2
  have ta := two_rpow_ge a
  have tb := two_rpow_ge b
  rw [rpow_add] at c1 c2
  have pos : (0 : Rat) < 2 ^ a * 2 ^ b := Rat.mul_pos (by grind) (by grind)
  have fa := fr_nn da.a
  have fb := fr_nn db.a
  have ga := fr_nn da.c
  have gb := fr_nn db.c
  have gc := fr_nn dc.c
  have x1 := fr_mul (decM a h n0).lo
  have x2 := fr_mul (decM b h n1).lo
  have x3 := fr_mul (decM ((a : Int) + (b : Int)) h n2).hi
  have x4 := fr_mul (decM ((a : Int) + (b : Int)) h n2).lo
  have x5 := fr_mul (decM a h n0).hi
  have x6 := fr_mul (decM b h n1).hi
  have w9 : ((1000000000 : Int) : Rat) = 1000000000 := rfl
  have k1 : fr (decM a h n0).lo * fr (decM b h n1).lo ≤ fr (decM ((a : Int) + (b : Int)) h n2).hi := by
    refine rroot_le (n := h) hh' gc (Rat.le_of_mul_le_mul_right (c := 2 ^ a * 2 ^ b) ?_ pos)
    refine Rat.le_trans ?_ c2
    rw [mul_rpow]
    have := rmul_le_one a1 b1 (Rat.mul_nonneg (Rat.pow_nonneg fa) (by grind)) (Rat.mul_nonneg (Rat.pow_nonneg fb) (by grind))
    grind
  have k2 : fr (decM ((a : Int) + (b : Int)) h n2).lo ≤ fr (decM a h n0).hi * fr (decM b h n1).hi := by
    refine rroot_le (n := h) hh' (Rat.mul_nonneg ga gb) (Rat.le_of_mul_le_mul_right (c := 2 ^ a * 2 ^ b) ?_ pos)
    refine Rat.le_trans c1 ?_
    rw [mul_rpow]
    have := rmul_one_le a2 b2
    grind
  have k3 : fr (decM a h n0).hi * fr (decM b h n1).hi ≤ fr (decM a h n0).hi := by
    have := Rat.mul_le_mul_of_nonneg_left (fr_one_le db.e) ga
    grind
  have k4 : fr (decM a h n0).hi * fr (decM b h n1).hi ≤ fr (decM b h n1).hi := by
    have := Rat.mul_le_mul_of_nonneg_right (fr_one_le da.e) gb
    grind
  refine ⟨Rat.intCast_le_intCast.1 ?_, Rat.intCast_le_intCast.1 ?_, le_fr (Rat.le_trans k2 k3), le_fr (Rat.le_trans k2 k4)⟩
  · rw [Rat.intCast_mul, Rat.intCast_mul, ← x1, ← x2, ← x3, w9]
    grind
  · rw [Rat.intCast_mul, Rat.intCast_mul, ← x4, ← x5, ← x6, w9]
    grind

/-! ### Rests -/
theorem restE_nil {ts : List Cp} {ls : List Ld} {p s : Int} (h : (restE ts ls p s).2 ≠ 0) : (restE ts ls p s).1 = [] := by
  unfold restE at h ⊢
  by_cases h1 : ckLoads ts ls ≠ 0
  · rw [if_pos h1]
  · rw [if_neg h1] at h ⊢
    by_cases h2 : 400 ≤ p ∧ p ≤ 1100 ∧ 0 ≤ s ∧ s ≤ 1000000
    · rw [if_pos h2] at h; exact absurd rfl h
    · rw [if_neg h2]
structure okRest (ts : List Cp) (ls : List Ld) (p s : Int) : Prop where
  k : okTL ts ls
  ct : ckLoads ts ls = 0
  r : 400 ≤ p ∧ p ≤ 1100 ∧ 0 ≤ s ∧ s ≤ 1000000
  e : restE ts ls p s = (restM ts ls p s, 0)
theorem restE_ok {ts : List Cp} {ls : List Ld} {p s : Int} (h : (restE ts ls p s).2 = 0) : okRest ts ls p s := by
  rw [restE_snd] at h
  by_cases h1 : ckLoads ts ls ≠ 0
  · rw [if_pos h1] at h; exact absurd h h1
  · rw [if_neg h1] at h
    by_cases h2 : 400 ≤ p ∧ p ≤ 1100 ∧ 0 ≤ s ∧ s ≤ 1000000
    · exact ⟨ckLoads_ok (Decidable.not_not.1 h1), Decidable.not_not.1 h1, h2, restE_3 h1 h2⟩
    · rw [if_neg h2] at h; cases h
theorem restM_len {ts : List Cp} {ls : List Ld} {p s : Int} (h : ls.length = ts.length) : (restM ts ls p s).length = ts.length := stepM_len h
theorem rest_leg {ts : List Cp} {ls : List Ld} {p s : Int} (h : okRest ts ls p s) (hs : s ≤ 100000) : loadedE ts ls ⟨p, p, s, ⟨210, 0⟩⟩ 3 = (loadedM ts ls ⟨p, p, s, ⟨210, 0⟩⟩ 3, 0) := by
  have hr := h.r
  have hx : ckLeg ⟨p, p, s, ⟨210, 0⟩⟩ = 0 := by
    unfold ckLeg
    rw [if_neg (by unfold okPr; dsimp only; omega), if_neg (show ¬ ckGas 210 0 ≠ 0 by decide), if_neg (by dsimp only; omega)]
  exact loadedE_4 (f := 3) (fun hh => hh h.ct) (fun hh => hh hx) (by decide)

/-! ### Single numbers out of loads -/
def ownL (z : Ld) (p : Int) : Ld := ⟨⟨z.n.lo + p % (z.n.hi - z.n.lo + 1), z.n.lo + p % (z.n.hi - z.n.lo + 1)⟩, ⟨z.h.lo + p % (z.h.hi - z.h.lo + 1), z.h.lo + p % (z.h.hi - z.h.lo + 1)⟩⟩
def ownM (ls : List Ld) (ns : List Int) : List Ld := ls.mapIdx fun i z => ownL z (ns[i]?.getD 0)
theorem ownM_len (ls : List Ld) (ns : List Int) : (ownM ls ns).length = ls.length := by simp [ownM]
theorem ownM_get {ls : List Ld} {ns : List Int} {k : Nat} {z : Ld} (h : ls[k]? = some z) : (ownM ls ns)[k]? = some (ownL z (ns[k]?.getD 0)) := by
  unfold ownM
  rw [List.getElem?_mapIdx, h]
  rfl
theorem ownL_in {z : Ld} (p : Int) (ho : ordLd z) : in1 (ownL z p) z ∧ oneLoad (ownL z p) := by
  have h1 := Int.emod_nonneg p (show z.n.hi - z.n.lo + 1 ≠ 0 by have := ho.1; omega)
  have h2 := Int.emod_lt_of_pos p (show 0 < z.n.hi - z.n.lo + 1 by have := ho.1; omega)
  have h3 := Int.emod_nonneg p (show z.h.hi - z.h.lo + 1 ≠ 0 by have := ho.2; omega)
  have h4 := Int.emod_lt_of_pos p (show 0 < z.h.hi - z.h.lo + 1 by have := ho.2; omega)
  unfold in1 ownL oneLoad
  dsimp only
  omega
theorem ownM_all {ls : List Ld} {ns : List Int} (ho : ∀ y ∈ ls, ordLd y) : insP (ownM ls ns) ls ∧ (∀ o ∈ ownM ls ns, oneLoad o ∧ ∃ z ∈ ls, in1 o z) := by
  constructor
  · refine all2_get fun k o z h1 h2 => ?_
    rw [ownM_get h2] at h1
    injection h1 with h1
    subst h1
    exact (ownL_in _ (ho z (List.mem_of_getElem? h2))).1
  · intro o h
    obtain ⟨k, hk, rfl⟩ := List.getElem_of_mem h
    have hkl : k < ls.length := by rw [ownM_len] at hk; exact hk
    have h3 := ownM_get (ns := ns) (List.getElem?_eq_getElem hkl)
    rw [List.getElem?_eq_getElem hk] at h3
    injection h3 with h3
    rw [h3]
    have := ownL_in (ns[k]?.getD 0) (ho ls[k] (List.getElem_mem hkl))
    exact ⟨this.2, ls[k], List.getElem_mem hkl, this.1⟩
theorem own_ok {ts : List Cp} {ls : List Ld} {ns : List Int} (h : okTL ts ls) : okTL ts (ownM ls ns) := by
  obtain ⟨_, h2⟩ := ownM_all (ns := ns) h.o
  refine ⟨h.a, h.b, by rw [ownM_len]; exact h.len, h.c, fun o ho => ?_, fun o ho => ?_⟩
  · obtain ⟨a, z, hz, hi⟩ := h2 o ho
    obtain ⟨⟨a1, a2, a3, a4⟩, ⟨b1, b2, b3, b4⟩⟩ := h.x z hz
    unfold oneLoad at a
    unfold in1 at hi
    exact ⟨⟨by omega, by omega, by omega, by omega⟩, ⟨by omega, by omega, by omega, by omega⟩⟩
  · obtain ⟨a, _⟩ := h2 o ho
    unfold oneLoad at a
    unfold ordLd
    omega
theorem insC_ok {ts : List Cp} {a b : List Ld} (ha : okTL ts a) (hb : okTL ts b) : insC a b = 0 := by
  unfold insC
  rw [if_neg (by have := ha.len; have := hb.len; omega), if_neg (fun hh => hh (ckLds_mk ha.x ha.o))]
  exact ckLds_mk hb.x hb.o
theorem okDv_own {ts : List Cp} {ls : List Ld} {x : Lg} {f : Int} (ns : List Int) (h : okDv ts ls x f) : okDv ts (ownM ls ns) x f := ⟨own_ok h.k, h.xx, h.z, h.f, ckLoads_mk (own_ok h.k), h.cx⟩
theorem own_inside {ts : List Cp} {ls : List Ld} {ns : List Int} {x : Lg} {f : Nat} (h : okTL ts ls) (hx : okLg x) (hf : f ≤ 6) : insV (loadedM ts (ownM ls ns) x f) (loadedM ts ls x f) = true :=
  decide_eq_true ⟨insC_ok (loaded_ok (own_ok h) hx hf) (loaded_ok h hx hf), loaded_sub h (own_ok h).len (ownM_all h.o).1⟩
theorem own_meet {ts : List Cp} {ls : List Ld} {ns : List Int} {x : Lg} {f g : Nat} (h : okTL ts ls) (hx : okLg x) (hf : f ≤ 6) (hg : g ≤ 6) : meetP (loadedM ts (ownM ls ns) x f) (loadedM ts ls x g) :=
  loaded_own h hx hf hg (own_ok h).len (ownM_all h.o).1 (fun o ho => ((ownM_all h.o).2 o ho).1) (own_ok h).x

/-! ### Limits kept -/
def lw1 (p f : Int) (c : Cp) (x : Ld) : Prop := 1000 * (x.n.lo + x.h.lo) ≤ limM c p f
instance (p f : Int) (c : Cp) (x : Ld) : Decidable (lw1 p f c x) := by unfold lw1; infer_instance
def up1 (p f : Int) (c : Cp) (x : Ld) : Prop := 1000 * (x.n.hi + x.h.hi) ≤ limM c p f
instance (p f : Int) (c : Cp) (x : Ld) : Decidable (up1 p f c x) := by unfold up1; infer_instance
/-- not surely broken; surely kept -/
abbrev lowP (p f : Int) := all2 (lw1 p f)
abbrev holdP (p f : Int) := all2 (up1 p f)
def keptM (ts : List Cp) (ls : List Ld) (p f : Int) : Int := if ¬ lowP p f ts ls then 0 else if holdP p f ts ls then 2 else 1
theorem hold_low {ts : List Cp} {ls : List Ld} {p f : Int} (ho : ∀ y ∈ ls, ordLd y) (h : holdP p f ts ls) : lowP p f ts ls := all2_get fun k c x hc hx => by
  have h1 := all2_at h k c x hc hx
  have h2 := ho x (List.mem_of_getElem? hx)
  unfold up1 at h1
  unfold ordLd at h2
  unfold lw1
  omega
theorem keptM_prog {ts : List Cp} {ls : List Ld} {p f : Int} (ho : ∀ y ∈ ls, ordLd y) : (if decide (holdP p f ts ls) = true then (2 : Int) else if decide (¬ lowP p f ts ls) = true then 0 else 1) = keptM ts ls p f := by
  unfold keptM
  by_cases h : holdP p f ts ls
  · have := hold_low ho h
    simp [h, this]
  · by_cases h2 : lowP p f ts ls <;> simp [h, h2]
def keptE (ts : List Cp) (ls : List Ld) (p f : Int) : Int × Int := if ckLoads ts ls ≠ 0 then (0, ckLoads ts ls) else if okPr p ∧ 0 ≤ f ∧ f ≤ 1000 then (keptM ts ls p f, 0) else (0, 2)
theorem keptE_1 {ts : List Cp} {ls : List Ld} {p f : Int} (h : ckLoads ts ls ≠ 0) : keptE ts ls p f = (0, ckLoads ts ls) := if_pos h
theorem keptE_2 {ts : List Cp} {ls : List Ld} {p f : Int} (h : ¬ ckLoads ts ls ≠ 0) (h2 : ¬ (okPr p ∧ 0 ≤ f ∧ f ≤ 1000)) : keptE ts ls p f = (0, 2) := by unfold keptE; rw [if_neg h, if_neg h2]
theorem keptE_3 {ts : List Cp} {ls : List Ld} {p f : Int} (h : ¬ ckLoads ts ls ≠ 0) (h2 : okPr p ∧ 0 ≤ f ∧ f ≤ 1000) : keptE ts ls p f = (keptM ts ls p f, 0) := by unfold keptE; rw [if_neg h, if_pos h2]
def limE (c : Cp) (p f : Int) : Rg × Int := if okCp c ∧ okPr p ∧ 0 ≤ f ∧ f ≤ 1000 then (⟨limM c p f / 1000, upZ (limM c p f) 1000⟩, 0) else (⟨0, 0⟩, 2)
theorem limE_1 {c : Cp} {p f : Int} (h : ¬ (okCp c ∧ okPr p ∧ 0 ≤ f ∧ f ≤ 1000)) : limE c p f = (⟨0, 0⟩, 2) := if_neg h
theorem limE_2 {c : Cp} {p f : Int} (h : okCp c ∧ okPr p ∧ 0 ≤ f ∧ f ≤ 1000) : limE c p f = (⟨limM c p f / 1000, upZ (limM c p f) 1000⟩, 0) := if_pos h
/-- the error of loads, a pressure and a factor -/
def ckAt (ts : List Cp) (ls : List Ld) (p f : Int) : Int := if ckLoads ts ls ≠ 0 then ckLoads ts ls else if okPr p ∧ 0 ≤ f ∧ f ≤ 1000 then 0 else 2
theorem keptE_snd (ts : List Cp) (ls : List Ld) (p f : Int) : (keptE ts ls p f).2 = ckAt ts ls p f := by
  unfold keptE ckAt
  (repeat' split) <;> rfl
theorem keptE_fst {ts : List Cp} {ls : List Ld} {p f : Int} (h : ckAt ts ls p f ≠ 0) : (keptE ts ls p f).1 = 0 := by
  unfold ckAt at h
  unfold keptE
  by_cases h1 : ckLoads ts ls ≠ 0
  · rw [if_pos h1]
  · rw [if_neg h1] at h ⊢
    by_cases h2 : okPr p ∧ 0 ≤ f ∧ f ≤ 1000
    · rw [if_pos h2] at h; exact absurd rfl h
    · rw [if_neg h2]
theorem ckAt_ok {ts : List Cp} {ls : List Ld} {p f : Int} (h : ckAt ts ls p f = 0) : ckLoads ts ls = 0 ∧ okPr p ∧ 0 ≤ f ∧ f ≤ 1000 := by
  unfold ckAt at h
  by_cases h1 : ckLoads ts ls ≠ 0
  · rw [if_pos h1] at h; exact absurd h h1
  · rw [if_neg h1] at h
    by_cases h2 : okPr p ∧ 0 ≤ f ∧ f ≤ 1000
    · exact ⟨Decidable.not_not.1 h1, h2⟩
    · rw [if_neg h2] at h; cases h
theorem keptE_ok {ts : List Cp} {ls : List Ld} {p f : Int} (h : ckAt ts ls p f = 0) : keptE ts ls p f = (keptM ts ls p f, 0) := by
  obtain ⟨h1, h2⟩ := ckAt_ok h
  exact keptE_3 (fun hh => hh h1) h2
end Go.Proofs.Ytfhfadfnbnliiaa
